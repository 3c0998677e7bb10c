-- Written by a program of this session out of the translation of the seat: Lean functions and the proofs that the Go functions come to them.
import Derived.Test.YtghimjkoaldafaaPx0
import Derived.Test.YtghimjkoaldafaaPx9
namespace Go.Proofs.Ytghimjkoaldafaa.P
open Go.RowKit Go.Proofs.YtghimjkoaldafaaW.PrintWords Go.Proofs.YtghimjkoaldafaaW.PrintLast Go.Proofs.YtghimjkoaldafaaW.PrintMore
open Bool renaming true → aa, false → ab
open List renaming setIfInBounds_toArray → ac, set_cons_zero → ae, set_cons_succ → af, map_toArray → ai, length_drop → aj, length_take → ak, map_cons → an, map_nil → ap
open Go.Proofs.YtghimjkoaldafaaW.PrintWords renaming blk_cell → ad, below_size → ag, below_step → ah, Aside0 → au, cell_far → av, box_step → aJ, blk_frozen → aL, gate_dst → aO, blk_drew → aP
open Go.Proofs.Ytghimjkoaldafaa.P.trivetref01_Add renaming calls → al, f → aM
open Go.Proofs.YtghimjkoaldafaaW.PrintWords.Kd renaming V_mono → am, V_reads' → ao, C_alloc → aq, C_drewN → ar, C_drew → aw, V_lower → ax, V_slice → aA, V_elderB → aE, C_below → aF, V_below → aG, int → aH, heap_int → aI, F_below → aK, V_mk → aR, V → aT, C_F → aU
open Go.Proofs.Ytghimjkoaldafaa.P.trivetref01_Neg renaming calls → ay, f → aQ
open Go.Proofs.YtghimjkoaldafaaW.PrintLast renaming norm_ → az, i64_w → aB, i32_w → aC, goes_ → aN, one_ → aS
open Nat renaming le_of_eq → aD
set_option maxHeartbeats 8000000
set_option maxRecDepth 100000
attribute [local go_sem] max2_int min2_int max_two min_two max_three min_three max_four min_four   -- for this text's walks alone
set_option linter.unusedVariables false
set_option linter.unusedSimpArgs false
def trivetref01_Cmp.f (k : Nat) (l0_0 : List Int) (a0_1 : Bool) (l1_0 : List Int) (a1_1 : Bool) : Option (Int):=(aQ k l1_0 a1_1).bind fun a3=>((aM k l0_0 a0_1 a3.1 a3.2).bind fun W=>(if (W.1.length : Int) = 0 then (some 0) else (if W.2 = true then (some (-1)) else (some 1))))
theorem trivetref01_Cmp.calls (k : Nat) (A0_0 : Option Addr) (c0_0 : Nat) (l0_0 : List Int) (a0_1 : Bool) (A1_0 : Option Addr) (c1_0 : Nat) (l1_0 : List Int) (a1_1 : Bool) (r : Int) (w : World) (hr0_0 : Kd.C (aH .u64) w A0_0 l0_0.length l0_0) (hc0_0 : l0_0.length≤c0_0) (hr1_0 : Kd.C (aH .u64) w A1_0 l1_0.length l1_0) (hc1_0 : l1_0.length≤c1_0) (h : trivetref01_Cmp.f k l0_0 a0_1 l1_0 a1_1 = some r) :
  Calls Try.prog 29 #[.agg #[.slice A0_0 l0_0.length c0_0,.bool a0_1],.agg #[.slice A1_0 l1_0.length c1_0,.bool a1_1]] w fun e w'=>e = .returned (.int .i64 r)∧Below w.heap.size w w':=by
 have hu51:=Try.underlying51;have HR0_0:=ka hr0_0;have HC0_0:=ka hc0_0;clear hr0_0 hc0_0;have HR1_0:=ka hr1_0;have HC1_0:=ka hc1_0;clear hr1_0 hc1_0;have HB:=ka (Below.refl w.heap.size w);have H : ((aQ k l1_0 a1_1).bind fun a3=>((aM k l0_0 a0_1 a3.1 a3.2).bind fun W=>(if (W.1.length : Int) = 0 then (some 0) else (if W.2 = true then (some (-1)) else (some 1))))) = some r:=h;clear h;replace H:=Option.bind_eq_some_iff.mp H;obtain ⟨⟨A,G⟩,d5,H⟩:=H;replace H : ((aM k l0_0 a0_1 A G).bind fun W=>(if (W.1.length : Int) = 0 then (some 0) else (if W.2 = true then (some (-1)) else (some 1)))) = some r:=H;have A3:=ka d5;clear d5;replace H:=Option.bind_eq_some_iff.mp H;obtain ⟨⟨J,a6⟩,d6,H⟩:=H;replace H : (if (J.length : Int) = 0 then (some 0) else (if a6 = true then (some (-1)) else (some 1))) = some r:=H;have A4:=ka d6;clear d6;by_cases c5 : (J.length : Int) = 0
 ·rw [if_pos c5] at H
  have c5b0 : ((J.length : Int) == 0) = true:=beq_iff_eq.mpr c5;have c5b1 : ((J.length : Int) != 0) = false:=bne_eq_false_iff_eq.mpr c5;clear c5;obtain rfl:=Option.some.inj H;go_enter Try.func29,Try.ntmps29
  try go_wp2_with (first|((with_reducible refine aO (N:=2) rfl ?_);refine kx (N:=2) (cs:=#[.slice A0_0 l0_0.length c0_0,.bool a0_1]) (t:=51) ?_;intro o hg w6 hbox hb;have R:=ka (ah (kw HB.out) hb);have T:=ka (hbox);have O:=ka ((by rw [hg];exact (ag (kw HB.out)) : w.heap.size≤o));have Q:=O;clear HB;have HB:=R;have b:=T;have X:=O;have a4:=Q;clear R T O Q;clear hb hbox hg)|((with_reducible refine aO (N:=3) rfl ?_);refine kx (N:=3) (cs:=#[.slice A1_0 l1_0.length c1_0,.bool a1_1]) (t:=51) ?_;intro s hg w7 hbox hb;have R:=ka (blk_below (g:=o) (kz b.out) hb);have T:=ka (ah (kw HB.out) hb);have O:=ka (hbox);have Q:=ka ((by rw [hg];exact (ag (kw HB.out)) : w.heap.size≤s));have a7:=Q;have a2:=ka ((by rw [hg];exact Nat.ne_of_lt (blk_lt (g:=o) (kz b.out)) : o≠s));have a8:=ka a2.out.symm;clear b;clear HB;have b:=R;have HB:=T;have c:=O;have Y:=Q;have a5:=a7;have a9:=a2;have b0:=a8;clear R T O Q a7 a2 a8;clear hb hbox hg))
  replace b:=ka (aP b.out);replace c:=ka (aP c.out);replace HB:=ka (below_drew1 HB.out);refine start_ (n:=6) (S:=fun w'=>w'.cell? ⟨o,0,none⟩ = some (.slice A0_0 l0_0.length c0_0)∧w'.cell? ⟨o,1,none⟩ = some (.bool a0_1)∧w'.cell? ⟨s,0,none⟩ = some (.slice A1_0 l1_0.length c1_0)∧w'.cell? ⟨s,1,none⟩ = some (.bool a1_1)) (ds:=[]) #[ab,ab,ab,ab,ab,ab] (by kernel_rfl) rfl rfl ⟨(ad b.out 0).trans rfl,(ad b.out 1).trans rfl,(ad c.out 0).trans rfl,(ad c.out 1).trans rfl⟩ (fun hHeld=>?_);generalize w7.drew = w8 at b c HB hHeld ⊢;refine take_ (i:=0) (N:=some 6) (v:=?_) (a':=?_) #[aa,ab,ab,ab,ab,ab] rfl rfl (by kernel_rfl) (fun _ _ _ h=>h) (Or.inl ⟨by rfl,?_⟩) hHeld ?_ ?_;rotate_left
  ·rintro w' ⟨s0,s1,s2,s3⟩;go_simp
   with_reducible rfl
  rotate_left
  ·simp only [Act.put,ac,ae,af,aB,aC]
   rfl
  refine take_ (i:=1) (N:=some 7) (v:=?_) (a':=?_) #[aa,aa,ab,ab,ab,ab] rfl rfl (by kernel_rfl) (fun _ _ _ h=>h) (Or.inl ⟨by rfl,?_⟩) hHeld ?_ ?_;rotate_left
  ·rintro w' ⟨s0,s1,s2,s3⟩;go_simp
   with_reducible rfl
  rotate_left
  ·simp only [Act.put,ac,ae,af,aB,aC]
   rfl
  refine join_ (σ:=Value × Value × Nat) 1 #[aa,aa,aa,aa,aa,ab] (fun s_=>[(8,.agg #[s_.1,.bool G]),(9,.agg #[s_.2.1,.bool a6]),(5,.pointer (some ⟨s_.2.2,0,none⟩))]) (fun s_ w'=>(w'.cell? ⟨o,0,none⟩ = some (.slice A0_0 l0_0.length c0_0)∧w'.cell? ⟨o,1,none⟩ = some (.bool a0_1)∧w'.cell? ⟨s,0,none⟩ = some (.slice A1_0 l1_0.length c1_0)∧w'.cell? ⟨s,1,none⟩ = some (.bool a1_1))∧(aT (aH .u64) 60 w' w.heap.size (fun z=>z≠o∧z≠s∧z≠s_.2.2) s_.1 A)∧(aT (aH .u64) 60 w' w.heap.size (fun z=>z≠o∧z≠s∧z≠s_.2.2) s_.2.1 J)∧(w'.heap[o]? = some (.cells #[.slice A0_0 l0_0.length c0_0,.bool a0_1] 51 (0,0)))∧(w'.heap[s]? = some (.cells #[.slice A1_0 l1_0.length c1_0,.bool a1_1] 51 (0,0)))∧(w'.heap[s_.2.2]? = some (.cells #[.slice none 0 0,.bool false] 51 (0,0)))∧(w.heap.size≤s_.2.2)∧(w.heap.size≤s_.2.2)∧(o≠s_.2.2)∧(s_.2.2≠o)∧(s≠s_.2.2)∧(s_.2.2≠s)∧(Below w.heap.size w w')) ?_ ?_;rotate_left
  ·intro hCont;refine two_ (i:=2) (j:=4) (Ni:=some 8) (Nj:=some 5) #[aa,aa,aa,ab,ab,ab] #[aa,aa,ab,ab,aa,ab] rfl rfl rfl rfl (by kernel_rfl) (by decide) (by decide) (fun K hK=>?_) (fun K hK=>?_)
   ·skip
    refine aN Try.func28 (by kernel_rfl) rfl #[.agg #[.slice A1_0 l1_0.length c1_0,.bool a1_1]] (by rfl) rfl rfl (by (try simp only [ai,an,ap]);first|done|rfl|(simp only [aj,ak];rfl)) ?_;with_reducible refine (ay k (fun z=>z < w.heap.size) _ _ l1_0 a1_1 A G _ ?side1 A3.out).mono ?_
    (case side1=>exact aR HC1_0.out (aK (aU (aI .u64) HR1_0.out) (kw HB.out)));rintro e w9 ⟨U,rfl,ho0,hb⟩;refine ⟨_,rfl,?_⟩;have q:=ka (ax (am (ok':=fun z=>z≠o∧z≠s) ho0 (fun z B=>⟨Or.elim B (fun L=>fun e_=>Nat.not_le.2 L (by rw [e_];exact X.out)) (fun M=>(kf b M)),Or.elim B (fun L=>fun e_=>Nat.not_le.2 L (by rw [e_];exact Y.out)) (fun M=>(kf c M))⟩)) (ag (kw HB.out)));replace b:=kbb b hb;replace c:=kbb c hb;replace HB:=ka (ah (kw HB.out) hb);(try clear hb ho0);obtain ⟨c2,c3,c4⟩:=aA q.out;(first|subst c4|(injection c4 with f1_ f2_ f3_;have f4_:=f1_.symm;have f5_:=f3_.symm;clear f1_ f2_ f3_;subst f4_;subst f5_));refine hK.out _ _ ⟨(ad b.out 0).trans rfl,(ad b.out 1).trans rfl,(ad c.out 0).trans rfl,(ad c.out 1).trans rfl⟩ (fun hHeld=>?_);clear hK K;refine az (a':=?_) ?_ ?_;rotate_left
    ·show Act.put _ (some 8) _ = _
     simp only [Act.put,ac,ae,af,aB,aC]
     rfl
    refine two_ (i:=3) (j:=4) (Ni:=some 9) (Nj:=some 5) #[aa,aa,aa,aa,ab,ab] #[aa,aa,aa,ab,aa,ab] rfl rfl rfl rfl (by kernel_rfl) (by decide) (by decide) (fun K hK=>?_) (fun K hK=>?_)
    ·skip
     refine aN Try.func23 (by kernel_rfl) rfl #[.agg #[.slice A0_0 l0_0.length c0_0,.bool a0_1],.agg #[.slice c2 A.length c3,.bool G]] (by rfl) rfl rfl (by (try simp only [ai,an,ap]);first|done|rfl|(simp only [aj,ak];rfl)) ?_;with_reducible refine (al k _ _ l0_0 a0_1 _ _ A G J a6 _ ?side1 ?side2 ?side3 ?side4 A4.out).mono ?_
     (case side1=>repeat (first|exact (aF HR0_0.out HB.out)|with_reducible first|refine aq ?_ _|refine ar ?_ _|refine aw ?_));(case side2=>exact HC0_0.out);(case side3=>repeat (first|exact (ao q.out).2.2|with_reducible first|refine aq ?_ _|refine ar ?_ _|refine aw ?_));(case side4=>exact (ao q.out).2.1);rintro e h1 ⟨I,rfl,ho0,hb⟩;refine ⟨_,rfl,?_⟩;replace q:=kvb q hb;have D:=ka (ax (am (ok':=fun z=>z≠o∧z≠s) ho0 (fun z B=>⟨(kf b B),(kf c B)⟩)) (ag (kw HB.out)));replace b:=kbb b hb;replace c:=kbb c hb;replace HB:=ka (ah (kw HB.out) hb);(try clear hb ho0);refine hK.out _ _ ⟨(ad b.out 0).trans rfl,(ad b.out 1).trans rfl,(ad c.out 0).trans rfl,(ad c.out 1).trans rfl⟩ (fun hHeld=>?_);clear hK K;refine az (a':=?_) ?_ ?_;rotate_left
     ·show Act.put _ (some 9) _ = _
      simp only [Act.put,ac,ae,af,aB,aC]
      rfl
     refine aS (i:=4) (N:=some 5) #[aa,aa,aa,aa,aa,ab] rfl rfl (by kernel_rfl) (by decide) (fun K hK=>?_);refine aJ ?hg (N:=5) ?hd (cs:=#[.slice none 0 0,.bool false]) (t:=51) ?hr ?_;(case hd=>rfl);(case hg=>rfl);(case hr=>first|(go_simp;done)|(go_simp;rfl));intro d hg d7 hbox hb;replace q:=ka (aG (aE (kv q.out) d (aD hg.symm)) hb);replace D:=ka (aG (aE (kv D.out) d (aD hg.symm)) hb);have u:=ka (hbox);have E:=ka ((by rw [hg];exact (ag (kw HB.out)) : w.heap.size≤d));have F:=ka ((by rw [hg];exact (ag (kw HB.out)) : w.heap.size≤d));replace HB:=ka (ah (kw HB.out) hb);have l:=knb hg b;have x:=ka l.out.symm;replace b:=kbb b hb;have m:=knb hg c;have y:=ka m.out.symm;replace c:=kbb c hb;clear hb hbox hg;refine hK.out _ _ ⟨(ad b.out 0).trans rfl,(ad b.out 1).trans rfl,(ad c.out 0).trans rfl,(ad c.out 1).trans rfl⟩ (fun hHeld=>?_);clear hK K;refine az (a':=?_) ?_ ?_;rotate_left
     ·show Act.put _ (some 5) _ = _
      simp only [Act.put,ac,ae,af,aB,aC]
      rfl
     exact az (by simp only [putAll,Act.put,ac,ae,af]) (hCont (.slice c2 A.length c3,I,d) _ ⟨hHeld,(kv (am q.out (fun _=>ra2))),(kv (am D.out (fun _=>ra2))),(kz b.out),(kz c.out),(kz u.out),E.out,F.out,l.out,x.out,m.out,y.out,(kw HB.out)⟩)
    ·skip
     refine aJ ?hg (N:=5) ?hd (cs:=#[.slice none 0 0,.bool false]) (t:=51) ?hr ?_;(case hd=>rfl);(case hg=>rfl);(case hr=>first|(go_simp;done)|(go_simp;rfl));intro d hg e0 hbox hb;replace q:=ka (aG (aE (kv q.out) d (aD hg.symm)) hb);have u:=ka (hbox);have E:=ka ((by rw [hg];exact (ag (kw HB.out)) : w.heap.size≤d));have F:=ka ((by rw [hg];exact (ag (kw HB.out)) : w.heap.size≤d));replace HB:=ka (ah (kw HB.out) hb);have l:=knb hg b;have x:=ka l.out.symm;replace b:=kbb b hb;have m:=knb hg c;have y:=ka m.out.symm;replace c:=kbb c hb;clear hb hbox hg;obtain ⟨b1,b2,b3⟩:=aA q.out;(first|subst b3|(injection b3 with f1_ f2_ f3_;have f4_:=f1_.symm;have f5_:=f3_.symm;clear f1_ f2_ f3_;subst f4_;subst f5_));refine hK.out _ _ ⟨(ad b.out 0).trans rfl,(ad b.out 1).trans rfl,(ad c.out 0).trans rfl,(ad c.out 1).trans rfl⟩ (fun hHeld=>?_);clear hK K;refine az (a':=?_) ?_ ?_;rotate_left
     ·show Act.put _ (some 5) _ = _
      simp only [Act.put,ac,ae,af,aB,aC]
      rfl
     refine aS (i:=3) (N:=some 9) #[aa,aa,aa,aa,aa,ab] rfl rfl (by kernel_rfl) (by decide) (fun K hK=>?_);refine aN Try.func23 (by kernel_rfl) rfl #[.agg #[.slice A0_0 l0_0.length c0_0,.bool a0_1],.agg #[.slice b1 A.length b2,.bool G]] (by rfl) rfl rfl (by (try simp only [ai,an,ap]);first|done|rfl|(simp only [aj,ak];rfl)) ?_;with_reducible refine (al k _ _ l0_0 a0_1 _ _ A G J a6 _ ?side1 ?side2 ?side3 ?side4 A4.out).mono ?_
     (case side1=>repeat (first|exact (aF HR0_0.out HB.out)|with_reducible first|refine aq ?_ _|refine ar ?_ _|refine aw ?_));(case side2=>exact HC0_0.out);(case side3=>repeat (first|exact (ao q.out).2.2|with_reducible first|refine aq ?_ _|refine ar ?_ _|refine aw ?_));(case side4=>exact (ao q.out).2.1);rintro e d7 ⟨I,rfl,ho0,hb⟩;refine ⟨_,rfl,?_⟩;replace q:=kvb q hb;have D:=ka (ax (am (ok':=fun z=>z≠o∧z≠s∧z≠d) ho0 (fun z B=>⟨(kf b B),(kf c B),(kf u B)⟩)) (ag (kw HB.out)));replace b:=kbb b hb;replace c:=kbb c hb;replace u:=kbb u hb;replace HB:=ka (ah (kw HB.out) hb);(try clear hb ho0);refine hK.out _ _ ⟨(ad b.out 0).trans rfl,(ad b.out 1).trans rfl,(ad c.out 0).trans rfl,(ad c.out 1).trans rfl⟩ (fun hHeld=>?_);clear hK K;refine az (a':=?_) ?_ ?_;rotate_left
     ·show Act.put _ (some 9) _ = _
      simp only [Act.put,ac,ae,af,aB,aC]
      rfl
     exact az (by simp only [putAll,Act.put,ac,ae,af]) (hCont (.slice b1 A.length b2,I,d) _ ⟨hHeld,(kv (am q.out (fun _=>ra2))),(kv D.out),(kz b.out),(kz c.out),(kz u.out),E.out,F.out,l.out,x.out,m.out,y.out,(kw HB.out)⟩)
   ·skip
    refine aJ ?hg (N:=5) ?hd (cs:=#[.slice none 0 0,.bool false]) (t:=51) ?hr ?_;(case hd=>rfl);(case hg=>rfl);(case hr=>first|(go_simp;done)|(go_simp;rfl));intro d hg w9 hbox hb;have u:=ka (hbox);have E:=ka ((by rw [hg];exact (ag (kw HB.out)) : w.heap.size≤d));have F:=ka ((by rw [hg];exact (ag (kw HB.out)) : w.heap.size≤d));replace HB:=ka (ah (kw HB.out) hb);have l:=knb hg b;have x:=ka l.out.symm;replace b:=kbb b hb;have m:=knb hg c;have y:=ka m.out.symm;replace c:=kbb c hb;clear hb hbox hg;refine hK.out _ _ ⟨(ad b.out 0).trans rfl,(ad b.out 1).trans rfl,(ad c.out 0).trans rfl,(ad c.out 1).trans rfl⟩ (fun hHeld=>?_);clear hK K;refine az (a':=?_) ?_ ?_;rotate_left
    ·show Act.put _ (some 5) _ = _
     simp only [Act.put,ac,ae,af,aB,aC]
     rfl
    refine aS (i:=2) (N:=some 8) #[aa,aa,aa,ab,aa,ab] rfl rfl (by kernel_rfl) (by decide) (fun K hK=>?_);refine aN Try.func28 (by kernel_rfl) rfl #[.agg #[.slice A1_0 l1_0.length c1_0,.bool a1_1]] (by rfl) rfl rfl (by (try simp only [ai,an,ap]);first|done|rfl|(simp only [aj,ak];rfl)) ?_;with_reducible refine (ay k (fun z=>z < w.heap.size) _ _ l1_0 a1_1 A G _ ?side1 A3.out).mono ?_
    (case side1=>exact aR HC1_0.out (aK (aU (aI .u64) HR1_0.out) (kw HB.out)));rintro e e0 ⟨U,rfl,ho0,hb⟩;refine ⟨_,rfl,?_⟩;have q:=ka (ax (am (ok':=fun z=>z≠o∧z≠s∧z≠d) ho0 (fun z B=>⟨Or.elim B (fun L=>fun e_=>Nat.not_le.2 L (by rw [e_];exact X.out)) (fun M=>(kf b M)),Or.elim B (fun L=>fun e_=>Nat.not_le.2 L (by rw [e_];exact Y.out)) (fun M=>(kf c M)),Or.elim B (fun L=>fun e_=>Nat.not_le.2 L (by rw [e_];exact E.out)) (fun M=>(kf u M))⟩)) (ag (kw HB.out)));replace b:=kbb b hb;replace c:=kbb c hb;replace u:=kbb u hb;replace HB:=ka (ah (kw HB.out) hb);(try clear hb ho0);obtain ⟨b1,b2,b3⟩:=aA q.out;(first|subst b3|(injection b3 with f1_ f2_ f3_;have f4_:=f1_.symm;have f5_:=f3_.symm;clear f1_ f2_ f3_;subst f4_;subst f5_));refine hK.out _ _ ⟨(ad b.out 0).trans rfl,(ad b.out 1).trans rfl,(ad c.out 0).trans rfl,(ad c.out 1).trans rfl⟩ (fun hHeld=>?_);clear hK K;refine az (a':=?_) ?_ ?_;rotate_left
    ·show Act.put _ (some 8) _ = _
     simp only [Act.put,ac,ae,af,aB,aC]
     rfl
    refine aS (i:=3) (N:=some 9) #[aa,aa,aa,aa,aa,ab] rfl rfl (by kernel_rfl) (by decide) (fun K hK=>?_);refine aN Try.func23 (by kernel_rfl) rfl #[.agg #[.slice A0_0 l0_0.length c0_0,.bool a0_1],.agg #[.slice b1 A.length b2,.bool G]] (by rfl) rfl rfl (by (try simp only [ai,an,ap]);first|done|rfl|(simp only [aj,ak];rfl)) ?_;with_reducible refine (al k _ _ l0_0 a0_1 _ _ A G J a6 _ ?side1 ?side2 ?side3 ?side4 A4.out).mono ?_
    (case side1=>repeat (first|exact (aF HR0_0.out HB.out)|with_reducible first|refine aq ?_ _|refine ar ?_ _|refine aw ?_));(case side2=>exact HC0_0.out);(case side3=>repeat (first|exact (ao q.out).2.2|with_reducible first|refine aq ?_ _|refine ar ?_ _|refine aw ?_));(case side4=>exact (ao q.out).2.1);rintro e d7 ⟨I,rfl,ho0,hb⟩;refine ⟨_,rfl,?_⟩;replace q:=kvb q hb;have D:=ka (ax (am (ok':=fun z=>z≠o∧z≠s∧z≠d) ho0 (fun z B=>⟨(kf b B),(kf c B),(kf u B)⟩)) (ag (kw HB.out)));replace b:=kbb b hb;replace c:=kbb c hb;replace u:=kbb u hb;replace HB:=ka (ah (kw HB.out) hb);(try clear hb ho0);refine hK.out _ _ ⟨(ad b.out 0).trans rfl,(ad b.out 1).trans rfl,(ad c.out 0).trans rfl,(ad c.out 1).trans rfl⟩ (fun hHeld=>?_);clear hK K;refine az (a':=?_) ?_ ?_;rotate_left
    ·show Act.put _ (some 9) _ = _
     simp only [Act.put,ac,ae,af,aB,aC]
     rfl
    exact az (by simp only [putAll,Act.put,ac,ae,af]) (hCont (.slice b1 A.length b2,I,d) _ ⟨hHeld,(kv q.out),(kv D.out),(kz b.out),(kz c.out),(kz u.out),E.out,F.out,l.out,x.out,m.out,y.out,(kw HB.out)⟩)
  rintro ⟨U,I,d⟩ Z ⟨hS_,h0_,h1_,h2_,h3_,h4_,h5_,h6_,h7_,h8_,h9_,h10_,h11_⟩;have q : au (aT (aH .u64) 60 Z w.heap.size (fun z=>z≠o∧z≠s∧z≠d) U A):=⟨h0_⟩
  have D : au (aT (aH .u64) 60 Z w.heap.size (fun z=>z≠o∧z≠s∧z≠d) I J):=⟨h1_⟩
  replace b : au (Z.heap[o]? = some (.cells #[.slice A0_0 l0_0.length c0_0,.bool a0_1] 51 (0,0))):=⟨h2_⟩
  replace c : au (Z.heap[s]? = some (.cells #[.slice A1_0 l1_0.length c1_0,.bool a1_1] 51 (0,0))):=⟨h3_⟩
  have u : au (Z.heap[d]? = some (.cells #[.slice none 0 0,.bool false] 51 (0,0))):=⟨h4_⟩
  have E : au (w.heap.size≤d):=⟨h5_⟩
  have F : au (w.heap.size≤d):=⟨h6_⟩
  have l : au (o≠d):=⟨h7_⟩
  have x : au (d≠o):=⟨h8_⟩
  have m : au (s≠d):=⟨h9_⟩
  have y : au (d≠s):=⟨h10_⟩
  replace HB : au (Below w.heap.size w Z):=⟨h11_⟩
  clear h0_ h1_ h2_ h3_ h4_ h5_ h6_ h7_ h8_ h9_ h10_ h11_;have hHeld : Z.cell? ⟨o,0,none⟩ = some (.slice A0_0 l0_0.length c0_0)∧Z.cell? ⟨o,1,none⟩ = some (.bool a0_1)∧Z.cell? ⟨s,0,none⟩ = some (.slice A1_0 l1_0.length c1_0)∧Z.cell? ⟨s,1,none⟩ = some (.bool a1_1):=hS_;obtain ⟨g5,g6,c6⟩:=aA D.out;(first|subst c6|(injection c6 with f1_ f2_ f3_;have f4_:=f1_.symm;have f5_:=f3_.symm;clear f1_ f2_ f3_;subst f4_;subst f5_));refine az (a':=?_) ?_ ?_;rotate_left
  ·simp only [putAll,Act.put,ac,ae,af]
   rfl
  refine aS (i:=5) (N:=none) #[aa,aa,aa,aa,aa,aa] rfl rfl (by kernel_rfl) (by decide) (fun K hK=>?_);have hs15 : Z.cell? ⟨d,0,none⟩ = some (.slice none 0 0):=(ad u.out 0).trans rfl;have hfs15:=aL u.out 0;have hns15_0:=l.out;have hns15_1:=m.out;have hms15_0:=x.out;have hms15_1:=y.out;have hs16 : Z.cell? ⟨d,1,none⟩ = some (.bool false):=(ad u.out 1).trans rfl;have hfs16:=aL u.out 1;have hns16_0:=l.out;have hns16_1:=m.out;have hms16_0:=x.out;have hms16_1:=y.out;refine skip_ (w1:=?_) (by rfl) rfl ?_ ?_;rotate_left
  ·go_simp
   rfl
  refine hK.out _ _ ⟨((av (p:=⟨d,_,none⟩) l.out _).trans (((av (p:=⟨d,_,none⟩) l.out _).trans (hHeld.1)))),((av (p:=⟨d,_,none⟩) l.out _).trans (((av (p:=⟨d,_,none⟩) l.out _).trans (hHeld.2.1)))),((av (p:=⟨d,_,none⟩) m.out _).trans (((av (p:=⟨d,_,none⟩) m.out _).trans (hHeld.2.2.1)))),((av (p:=⟨d,_,none⟩) m.out _).trans (((av (p:=⟨d,_,none⟩) m.out _).trans (hHeld.2.2.2))))⟩ (fun hHeld=>?_);clear hK K;refine done_ (by kernel_rfl) ?_;have e8:=x.out;have e9:=l.out;have f0:=y.out;have f1:=m.out;have f2:=blkAll2 u.out;try go_wp2
  go_ret
  exact ⟨by first|rfl|(simp [errW_none,errW_some] <;> rfl)|(simp [*,errW_none,errW_some] <;> rfl),by repeat (first|(with_reducible first|exact HB.out|apply kc1|apply kc2|apply kc3|refine kc4 ?_ a4.out|refine kc4 ?_ a5.out|refine kc4 ?_ F.out)|exact HB.out)⟩
 ·rw [if_neg c5] at H
  have c5b0 : ((J.length : Int) == 0) = false:=beq_eq_false_iff_ne.mpr c5;have c5b1 : ((J.length : Int) != 0) = true:=bne_iff_ne.mpr c5;have c5b2 : ¬ (J = []):=fun h_=>c5 (by rw [h_];rfl)
  by_cases c20 : a6 = true
  ·subst c20;have H1 : (some (-1)) = some r:=by rw [if_pos rfl] at H;exact H
   clear H;have H:=H1;clear H1;obtain rfl:=Option.some.inj H;go_enter Try.func29,Try.ntmps29
   try go_wp2_with (first|((with_reducible refine aO (N:=2) rfl ?_);refine kx (N:=2) (cs:=#[.slice A0_0 l0_0.length c0_0,.bool a0_1]) (t:=51) ?_;intro o hg h2 hbox hb;have R:=ka (ah (kw HB.out) hb);have T:=ka (hbox);have O:=ka ((by rw [hg];exact (ag (kw HB.out)) : w.heap.size≤o));have Q:=O;clear HB;have HB:=R;have b:=T;have X:=O;have a4:=Q;clear R T O Q;clear hb hbox hg)|((with_reducible refine aO (N:=3) rfl ?_);refine kx (N:=3) (cs:=#[.slice A1_0 l1_0.length c1_0,.bool a1_1]) (t:=51) ?_;intro s hg e2 hbox hb;have R:=ka (blk_below (g:=o) (kz b.out) hb);have T:=ka (ah (kw HB.out) hb);have O:=ka (hbox);have Q:=ka ((by rw [hg];exact (ag (kw HB.out)) : w.heap.size≤s));have a7:=Q;have a2:=ka ((by rw [hg];exact Nat.ne_of_lt (blk_lt (g:=o) (kz b.out)) : o≠s));have a8:=ka a2.out.symm;clear b;clear HB;have b:=R;have HB:=T;have c:=O;have Y:=Q;have a5:=a7;have a9:=a2;have b0:=a8;clear R T O Q a7 a2 a8;clear hb hbox hg))
   replace b:=ka (aP b.out);replace c:=ka (aP c.out);replace HB:=ka (below_drew1 HB.out);refine start_ (n:=6) (S:=fun w'=>w'.cell? ⟨o,0,none⟩ = some (.slice A0_0 l0_0.length c0_0)∧w'.cell? ⟨o,1,none⟩ = some (.bool a0_1)∧w'.cell? ⟨s,0,none⟩ = some (.slice A1_0 l1_0.length c1_0)∧w'.cell? ⟨s,1,none⟩ = some (.bool a1_1)) (ds:=[]) #[ab,ab,ab,ab,ab,ab] (by kernel_rfl) rfl rfl ⟨(ad b.out 0).trans rfl,(ad b.out 1).trans rfl,(ad c.out 0).trans rfl,(ad c.out 1).trans rfl⟩ (fun hHeld=>?_);generalize e2.drew = h3 at b c HB hHeld ⊢;refine take_ (i:=0) (N:=some 6) (v:=?_) (a':=?_) #[aa,ab,ab,ab,ab,ab] rfl rfl (by kernel_rfl) (fun _ _ _ h=>h) (Or.inl ⟨by rfl,?_⟩) hHeld ?_ ?_;rotate_left
   ·rintro w' ⟨s0,s1,s2,s3⟩;go_simp
    with_reducible rfl
   rotate_left
   ·simp only [Act.put,ac,ae,af,aB,aC]
    rfl
   refine take_ (i:=1) (N:=some 7) (v:=?_) (a':=?_) #[aa,aa,ab,ab,ab,ab] rfl rfl (by kernel_rfl) (fun _ _ _ h=>h) (Or.inl ⟨by rfl,?_⟩) hHeld ?_ ?_;rotate_left
   ·rintro w' ⟨s0,s1,s2,s3⟩;go_simp
    with_reducible rfl
   rotate_left
   ·simp only [Act.put,ac,ae,af,aB,aC]
    rfl
   refine join_ (σ:=Value × Value × Nat) 1 #[aa,aa,aa,aa,aa,ab] (fun s_=>[(8,.agg #[s_.1,.bool G]),(9,.agg #[s_.2.1,.bool true]),(5,.pointer (some ⟨s_.2.2,0,none⟩))]) (fun s_ w'=>(w'.cell? ⟨o,0,none⟩ = some (.slice A0_0 l0_0.length c0_0)∧w'.cell? ⟨o,1,none⟩ = some (.bool a0_1)∧w'.cell? ⟨s,0,none⟩ = some (.slice A1_0 l1_0.length c1_0)∧w'.cell? ⟨s,1,none⟩ = some (.bool a1_1))∧(aT (aH .u64) 60 w' w.heap.size (fun z=>z≠o∧z≠s∧z≠s_.2.2) s_.1 A)∧(aT (aH .u64) 60 w' w.heap.size (fun z=>z≠o∧z≠s∧z≠s_.2.2) s_.2.1 J)∧(w'.heap[o]? = some (.cells #[.slice A0_0 l0_0.length c0_0,.bool a0_1] 51 (0,0)))∧(w'.heap[s]? = some (.cells #[.slice A1_0 l1_0.length c1_0,.bool a1_1] 51 (0,0)))∧(w'.heap[s_.2.2]? = some (.cells #[.slice none 0 0,.bool false] 51 (0,0)))∧(w.heap.size≤s_.2.2)∧(w.heap.size≤s_.2.2)∧(o≠s_.2.2)∧(s_.2.2≠o)∧(s≠s_.2.2)∧(s_.2.2≠s)∧(Below w.heap.size w w')) ?_ ?_;rotate_left
   ·intro hCont;refine two_ (i:=2) (j:=4) (Ni:=some 8) (Nj:=some 5) #[aa,aa,aa,ab,ab,ab] #[aa,aa,ab,ab,aa,ab] rfl rfl rfl rfl (by kernel_rfl) (by decide) (by decide) (fun K hK=>?_) (fun K hK=>?_)
    ·skip
     refine aN Try.func28 (by kernel_rfl) rfl #[.agg #[.slice A1_0 l1_0.length c1_0,.bool a1_1]] (by rfl) rfl rfl (by (try simp only [ai,an,ap]);first|done|rfl|(simp only [aj,ak];rfl)) ?_;with_reducible refine (ay k (fun z=>z < w.heap.size) _ _ l1_0 a1_1 A G _ ?side1 A3.out).mono ?_
     (case side1=>exact aR HC1_0.out (aK (aU (aI .u64) HR1_0.out) (kw HB.out)));rintro e e3 ⟨U,rfl,ho0,hb⟩;refine ⟨_,rfl,?_⟩;have q:=ka (ax (am (ok':=fun z=>z≠o∧z≠s) ho0 (fun z B=>⟨Or.elim B (fun L=>fun e_=>Nat.not_le.2 L (by rw [e_];exact X.out)) (fun M=>(kf b M)),Or.elim B (fun L=>fun e_=>Nat.not_le.2 L (by rw [e_];exact Y.out)) (fun M=>(kf c M))⟩)) (ag (kw HB.out)));replace b:=kbb b hb;replace c:=kbb c hb;replace HB:=ka (ah (kw HB.out) hb);(try clear hb ho0);obtain ⟨c7,c8,c9⟩:=aA q.out;(first|subst c9|(injection c9 with f1_ f2_ f3_;have f4_:=f1_.symm;have f5_:=f3_.symm;clear f1_ f2_ f3_;subst f4_;subst f5_));refine hK.out _ _ ⟨(ad b.out 0).trans rfl,(ad b.out 1).trans rfl,(ad c.out 0).trans rfl,(ad c.out 1).trans rfl⟩ (fun hHeld=>?_);clear hK K;refine az (a':=?_) ?_ ?_;rotate_left
     ·show Act.put _ (some 8) _ = _
      simp only [Act.put,ac,ae,af,aB,aC]
      rfl
     refine two_ (i:=3) (j:=4) (Ni:=some 9) (Nj:=some 5) #[aa,aa,aa,aa,ab,ab] #[aa,aa,aa,ab,aa,ab] rfl rfl rfl rfl (by kernel_rfl) (by decide) (by decide) (fun K hK=>?_) (fun K hK=>?_)
     ·skip
      refine aN Try.func23 (by kernel_rfl) rfl #[.agg #[.slice A0_0 l0_0.length c0_0,.bool a0_1],.agg #[.slice c7 A.length c8,.bool G]] (by rfl) rfl rfl (by (try simp only [ai,an,ap]);first|done|rfl|(simp only [aj,ak];rfl)) ?_;with_reducible refine (al k _ _ l0_0 a0_1 _ _ A G J true _ ?side1 ?side2 ?side3 ?side4 A4.out).mono ?_
      (case side1=>repeat (first|exact (aF HR0_0.out HB.out)|with_reducible first|refine aq ?_ _|refine ar ?_ _|refine aw ?_));(case side2=>exact HC0_0.out);(case side3=>repeat (first|exact (ao q.out).2.2|with_reducible first|refine aq ?_ _|refine ar ?_ _|refine aw ?_));(case side4=>exact (ao q.out).2.1);rintro e h4 ⟨I,rfl,ho0,hb⟩;refine ⟨_,rfl,?_⟩;replace q:=kvb q hb;have D:=ka (ax (am (ok':=fun z=>z≠o∧z≠s) ho0 (fun z B=>⟨(kf b B),(kf c B)⟩)) (ag (kw HB.out)));replace b:=kbb b hb;replace c:=kbb c hb;replace HB:=ka (ah (kw HB.out) hb);(try clear hb ho0);refine hK.out _ _ ⟨(ad b.out 0).trans rfl,(ad b.out 1).trans rfl,(ad c.out 0).trans rfl,(ad c.out 1).trans rfl⟩ (fun hHeld=>?_);clear hK K;refine az (a':=?_) ?_ ?_;rotate_left
      ·show Act.put _ (some 9) _ = _
       simp only [Act.put,ac,ae,af,aB,aC]
       rfl
      refine aS (i:=4) (N:=some 5) #[aa,aa,aa,aa,aa,ab] rfl rfl (by kernel_rfl) (by decide) (fun K hK=>?_);refine aJ ?hg (N:=5) ?hd (cs:=#[.slice none 0 0,.bool false]) (t:=51) ?hr ?_;(case hd=>rfl);(case hg=>rfl);(case hr=>first|(go_simp;done)|(go_simp;rfl));intro d hg d8 hbox hb;replace q:=ka (aG (aE (kv q.out) d (aD hg.symm)) hb);replace D:=ka (aG (aE (kv D.out) d (aD hg.symm)) hb);have u:=ka (hbox);have E:=ka ((by rw [hg];exact (ag (kw HB.out)) : w.heap.size≤d));have F:=ka ((by rw [hg];exact (ag (kw HB.out)) : w.heap.size≤d));replace HB:=ka (ah (kw HB.out) hb);have l:=knb hg b;have x:=ka l.out.symm;replace b:=kbb b hb;have m:=knb hg c;have y:=ka m.out.symm;replace c:=kbb c hb;clear hb hbox hg;refine hK.out _ _ ⟨(ad b.out 0).trans rfl,(ad b.out 1).trans rfl,(ad c.out 0).trans rfl,(ad c.out 1).trans rfl⟩ (fun hHeld=>?_);clear hK K;refine az (a':=?_) ?_ ?_;rotate_left
      ·show Act.put _ (some 5) _ = _
       simp only [Act.put,ac,ae,af,aB,aC]
       rfl
      exact az (by simp only [putAll,Act.put,ac,ae,af]) (hCont (.slice c7 A.length c8,I,d) _ ⟨hHeld,(kv (am q.out (fun _=>ra2))),(kv (am D.out (fun _=>ra2))),(kz b.out),(kz c.out),(kz u.out),E.out,F.out,l.out,x.out,m.out,y.out,(kw HB.out)⟩)
     ·skip
      refine aJ ?hg (N:=5) ?hd (cs:=#[.slice none 0 0,.bool false]) (t:=51) ?hr ?_;(case hd=>rfl);(case hg=>rfl);(case hr=>first|(go_simp;done)|(go_simp;rfl));intro d hg e4 hbox hb;replace q:=ka (aG (aE (kv q.out) d (aD hg.symm)) hb);have u:=ka (hbox);have E:=ka ((by rw [hg];exact (ag (kw HB.out)) : w.heap.size≤d));have F:=ka ((by rw [hg];exact (ag (kw HB.out)) : w.heap.size≤d));replace HB:=ka (ah (kw HB.out) hb);have l:=knb hg b;have x:=ka l.out.symm;replace b:=kbb b hb;have m:=knb hg c;have y:=ka m.out.symm;replace c:=kbb c hb;clear hb hbox hg;obtain ⟨b4,b5,b6⟩:=aA q.out;(first|subst b6|(injection b6 with f1_ f2_ f3_;have f4_:=f1_.symm;have f5_:=f3_.symm;clear f1_ f2_ f3_;subst f4_;subst f5_));refine hK.out _ _ ⟨(ad b.out 0).trans rfl,(ad b.out 1).trans rfl,(ad c.out 0).trans rfl,(ad c.out 1).trans rfl⟩ (fun hHeld=>?_);clear hK K;refine az (a':=?_) ?_ ?_;rotate_left
      ·show Act.put _ (some 5) _ = _
       simp only [Act.put,ac,ae,af,aB,aC]
       rfl
      refine aS (i:=3) (N:=some 9) #[aa,aa,aa,aa,aa,ab] rfl rfl (by kernel_rfl) (by decide) (fun K hK=>?_);refine aN Try.func23 (by kernel_rfl) rfl #[.agg #[.slice A0_0 l0_0.length c0_0,.bool a0_1],.agg #[.slice b4 A.length b5,.bool G]] (by rfl) rfl rfl (by (try simp only [ai,an,ap]);first|done|rfl|(simp only [aj,ak];rfl)) ?_;with_reducible refine (al k _ _ l0_0 a0_1 _ _ A G J true _ ?side1 ?side2 ?side3 ?side4 A4.out).mono ?_
      (case side1=>repeat (first|exact (aF HR0_0.out HB.out)|with_reducible first|refine aq ?_ _|refine ar ?_ _|refine aw ?_));(case side2=>exact HC0_0.out);(case side3=>repeat (first|exact (ao q.out).2.2|with_reducible first|refine aq ?_ _|refine ar ?_ _|refine aw ?_));(case side4=>exact (ao q.out).2.1);rintro e d8 ⟨I,rfl,ho0,hb⟩;refine ⟨_,rfl,?_⟩;replace q:=kvb q hb;have D:=ka (ax (am (ok':=fun z=>z≠o∧z≠s∧z≠d) ho0 (fun z B=>⟨(kf b B),(kf c B),(kf u B)⟩)) (ag (kw HB.out)));replace b:=kbb b hb;replace c:=kbb c hb;replace u:=kbb u hb;replace HB:=ka (ah (kw HB.out) hb);(try clear hb ho0);refine hK.out _ _ ⟨(ad b.out 0).trans rfl,(ad b.out 1).trans rfl,(ad c.out 0).trans rfl,(ad c.out 1).trans rfl⟩ (fun hHeld=>?_);clear hK K;refine az (a':=?_) ?_ ?_;rotate_left
      ·show Act.put _ (some 9) _ = _
       simp only [Act.put,ac,ae,af,aB,aC]
       rfl
      exact az (by simp only [putAll,Act.put,ac,ae,af]) (hCont (.slice b4 A.length b5,I,d) _ ⟨hHeld,(kv (am q.out (fun _=>ra2))),(kv D.out),(kz b.out),(kz c.out),(kz u.out),E.out,F.out,l.out,x.out,m.out,y.out,(kw HB.out)⟩)
    ·skip
     refine aJ ?hg (N:=5) ?hd (cs:=#[.slice none 0 0,.bool false]) (t:=51) ?hr ?_;(case hd=>rfl);(case hg=>rfl);(case hr=>first|(go_simp;done)|(go_simp;rfl));intro d hg e3 hbox hb;have u:=ka (hbox);have E:=ka ((by rw [hg];exact (ag (kw HB.out)) : w.heap.size≤d));have F:=ka ((by rw [hg];exact (ag (kw HB.out)) : w.heap.size≤d));replace HB:=ka (ah (kw HB.out) hb);have l:=knb hg b;have x:=ka l.out.symm;replace b:=kbb b hb;have m:=knb hg c;have y:=ka m.out.symm;replace c:=kbb c hb;clear hb hbox hg;refine hK.out _ _ ⟨(ad b.out 0).trans rfl,(ad b.out 1).trans rfl,(ad c.out 0).trans rfl,(ad c.out 1).trans rfl⟩ (fun hHeld=>?_);clear hK K;refine az (a':=?_) ?_ ?_;rotate_left
     ·show Act.put _ (some 5) _ = _
      simp only [Act.put,ac,ae,af,aB,aC]
      rfl
     refine aS (i:=2) (N:=some 8) #[aa,aa,aa,ab,aa,ab] rfl rfl (by kernel_rfl) (by decide) (fun K hK=>?_);refine aN Try.func28 (by kernel_rfl) rfl #[.agg #[.slice A1_0 l1_0.length c1_0,.bool a1_1]] (by rfl) rfl rfl (by (try simp only [ai,an,ap]);first|done|rfl|(simp only [aj,ak];rfl)) ?_;with_reducible refine (ay k (fun z=>z < w.heap.size) _ _ l1_0 a1_1 A G _ ?side1 A3.out).mono ?_
     (case side1=>exact aR HC1_0.out (aK (aU (aI .u64) HR1_0.out) (kw HB.out)));rintro e e4 ⟨U,rfl,ho0,hb⟩;refine ⟨_,rfl,?_⟩;have q:=ka (ax (am (ok':=fun z=>z≠o∧z≠s∧z≠d) ho0 (fun z B=>⟨Or.elim B (fun L=>fun e_=>Nat.not_le.2 L (by rw [e_];exact X.out)) (fun M=>(kf b M)),Or.elim B (fun L=>fun e_=>Nat.not_le.2 L (by rw [e_];exact Y.out)) (fun M=>(kf c M)),Or.elim B (fun L=>fun e_=>Nat.not_le.2 L (by rw [e_];exact E.out)) (fun M=>(kf u M))⟩)) (ag (kw HB.out)));replace b:=kbb b hb;replace c:=kbb c hb;replace u:=kbb u hb;replace HB:=ka (ah (kw HB.out) hb);(try clear hb ho0);obtain ⟨b4,b5,b6⟩:=aA q.out;(first|subst b6|(injection b6 with f1_ f2_ f3_;have f4_:=f1_.symm;have f5_:=f3_.symm;clear f1_ f2_ f3_;subst f4_;subst f5_));refine hK.out _ _ ⟨(ad b.out 0).trans rfl,(ad b.out 1).trans rfl,(ad c.out 0).trans rfl,(ad c.out 1).trans rfl⟩ (fun hHeld=>?_);clear hK K;refine az (a':=?_) ?_ ?_;rotate_left
     ·show Act.put _ (some 8) _ = _
      simp only [Act.put,ac,ae,af,aB,aC]
      rfl
     refine aS (i:=3) (N:=some 9) #[aa,aa,aa,aa,aa,ab] rfl rfl (by kernel_rfl) (by decide) (fun K hK=>?_);refine aN Try.func23 (by kernel_rfl) rfl #[.agg #[.slice A0_0 l0_0.length c0_0,.bool a0_1],.agg #[.slice b4 A.length b5,.bool G]] (by rfl) rfl rfl (by (try simp only [ai,an,ap]);first|done|rfl|(simp only [aj,ak];rfl)) ?_;with_reducible refine (al k _ _ l0_0 a0_1 _ _ A G J true _ ?side1 ?side2 ?side3 ?side4 A4.out).mono ?_
     (case side1=>repeat (first|exact (aF HR0_0.out HB.out)|with_reducible first|refine aq ?_ _|refine ar ?_ _|refine aw ?_));(case side2=>exact HC0_0.out);(case side3=>repeat (first|exact (ao q.out).2.2|with_reducible first|refine aq ?_ _|refine ar ?_ _|refine aw ?_));(case side4=>exact (ao q.out).2.1);rintro e d8 ⟨I,rfl,ho0,hb⟩;refine ⟨_,rfl,?_⟩;replace q:=kvb q hb;have D:=ka (ax (am (ok':=fun z=>z≠o∧z≠s∧z≠d) ho0 (fun z B=>⟨(kf b B),(kf c B),(kf u B)⟩)) (ag (kw HB.out)));replace b:=kbb b hb;replace c:=kbb c hb;replace u:=kbb u hb;replace HB:=ka (ah (kw HB.out) hb);(try clear hb ho0);refine hK.out _ _ ⟨(ad b.out 0).trans rfl,(ad b.out 1).trans rfl,(ad c.out 0).trans rfl,(ad c.out 1).trans rfl⟩ (fun hHeld=>?_);clear hK K;refine az (a':=?_) ?_ ?_;rotate_left
     ·show Act.put _ (some 9) _ = _
      simp only [Act.put,ac,ae,af,aB,aC]
      rfl
     exact az (by simp only [putAll,Act.put,ac,ae,af]) (hCont (.slice b4 A.length b5,I,d) _ ⟨hHeld,(kv q.out),(kv D.out),(kz b.out),(kz c.out),(kz u.out),E.out,F.out,l.out,x.out,m.out,y.out,(kw HB.out)⟩)
   rintro ⟨U,I,d⟩ a0 ⟨hS_,h0_,h1_,h2_,h3_,h4_,h5_,h6_,h7_,h8_,h9_,h10_,h11_⟩;have q : au (aT (aH .u64) 60 a0 w.heap.size (fun z=>z≠o∧z≠s∧z≠d) U A):=⟨h0_⟩
   have D : au (aT (aH .u64) 60 a0 w.heap.size (fun z=>z≠o∧z≠s∧z≠d) I J):=⟨h1_⟩
   replace b : au (a0.heap[o]? = some (.cells #[.slice A0_0 l0_0.length c0_0,.bool a0_1] 51 (0,0))):=⟨h2_⟩
   replace c : au (a0.heap[s]? = some (.cells #[.slice A1_0 l1_0.length c1_0,.bool a1_1] 51 (0,0))):=⟨h3_⟩
   have u : au (a0.heap[d]? = some (.cells #[.slice none 0 0,.bool false] 51 (0,0))):=⟨h4_⟩
   have E : au (w.heap.size≤d):=⟨h5_⟩
   have F : au (w.heap.size≤d):=⟨h6_⟩
   have l : au (o≠d):=⟨h7_⟩
   have x : au (d≠o):=⟨h8_⟩
   have m : au (s≠d):=⟨h9_⟩
   have y : au (d≠s):=⟨h10_⟩
   replace HB : au (Below w.heap.size w a0):=⟨h11_⟩
   clear h0_ h1_ h2_ h3_ h4_ h5_ h6_ h7_ h8_ h9_ h10_ h11_;have hHeld : a0.cell? ⟨o,0,none⟩ = some (.slice A0_0 l0_0.length c0_0)∧a0.cell? ⟨o,1,none⟩ = some (.bool a0_1)∧a0.cell? ⟨s,0,none⟩ = some (.slice A1_0 l1_0.length c1_0)∧a0.cell? ⟨s,1,none⟩ = some (.bool a1_1):=hS_;obtain ⟨g7,g8,d0⟩:=aA D.out;(first|subst d0|(injection d0 with f1_ f2_ f3_;have f4_:=f1_.symm;have f5_:=f3_.symm;clear f1_ f2_ f3_;subst f4_;subst f5_));refine az (a':=?_) ?_ ?_;rotate_left
   ·simp only [putAll,Act.put,ac,ae,af]
    rfl
   refine aS (i:=5) (N:=none) #[aa,aa,aa,aa,aa,aa] rfl rfl (by kernel_rfl) (by decide) (fun K hK=>?_);have hs30 : a0.cell? ⟨d,0,none⟩ = some (.slice none 0 0):=(ad u.out 0).trans rfl;have hfs30:=aL u.out 0;have hns30_0:=l.out;have hns30_1:=m.out;have hms30_0:=x.out;have hms30_1:=y.out;have hs31 : a0.cell? ⟨d,1,none⟩ = some (.bool false):=(ad u.out 1).trans rfl;have hfs31:=aL u.out 1;have hns31_0:=l.out;have hns31_1:=m.out;have hms31_0:=x.out;have hms31_1:=y.out;refine skip_ (w1:=?_) (by rfl) rfl ?_ ?_;rotate_left
   ·go_simp
    rfl
   refine hK.out _ _ ⟨((av (p:=⟨d,_,none⟩) l.out _).trans (((av (p:=⟨d,_,none⟩) l.out _).trans (hHeld.1)))),((av (p:=⟨d,_,none⟩) l.out _).trans (((av (p:=⟨d,_,none⟩) l.out _).trans (hHeld.2.1)))),((av (p:=⟨d,_,none⟩) m.out _).trans (((av (p:=⟨d,_,none⟩) m.out _).trans (hHeld.2.2.1)))),((av (p:=⟨d,_,none⟩) m.out _).trans (((av (p:=⟨d,_,none⟩) m.out _).trans (hHeld.2.2.2))))⟩ (fun hHeld=>?_);clear hK K;refine done_ (by kernel_rfl) ?_;have f3:=x.out;have f4:=l.out;have f5:=y.out;have f6:=m.out;have f7:=blkAll2 u.out;try go_wp2
   go_ret
   exact ⟨by first|rfl|(simp [errW_none,errW_some] <;> rfl)|(simp [*,errW_none,errW_some] <;> rfl),by repeat (first|(with_reducible first|exact HB.out|apply kc1|apply kc2|apply kc3|refine kc4 ?_ a4.out|refine kc4 ?_ a5.out|refine kc4 ?_ F.out)|exact HB.out)⟩
  ·replace c20:=Bool.eq_false_iff.mpr c20;subst c20;have H1 : (some 1) = some r:=by rw [if_neg (show ¬ (false = true) by decide)] at H;exact H
   clear H;have H:=H1;clear H1;obtain rfl:=Option.some.inj H;go_enter Try.func29,Try.ntmps29
   try go_wp2_with (first|((with_reducible refine aO (N:=2) rfl ?_);refine kx (N:=2) (cs:=#[.slice A0_0 l0_0.length c0_0,.bool a0_1]) (t:=51) ?_;intro o hg h5 hbox hb;have R:=ka (ah (kw HB.out) hb);have T:=ka (hbox);have O:=ka ((by rw [hg];exact (ag (kw HB.out)) : w.heap.size≤o));have Q:=O;clear HB;have HB:=R;have b:=T;have X:=O;have a4:=Q;clear R T O Q;clear hb hbox hg)|((with_reducible refine aO (N:=3) rfl ?_);refine kx (N:=3) (cs:=#[.slice A1_0 l1_0.length c1_0,.bool a1_1]) (t:=51) ?_;intro s hg e5 hbox hb;have R:=ka (blk_below (g:=o) (kz b.out) hb);have T:=ka (ah (kw HB.out) hb);have O:=ka (hbox);have Q:=ka ((by rw [hg];exact (ag (kw HB.out)) : w.heap.size≤s));have a7:=Q;have a2:=ka ((by rw [hg];exact Nat.ne_of_lt (blk_lt (g:=o) (kz b.out)) : o≠s));have a8:=ka a2.out.symm;clear b;clear HB;have b:=R;have HB:=T;have c:=O;have Y:=Q;have a5:=a7;have a9:=a2;have b0:=a8;clear R T O Q a7 a2 a8;clear hb hbox hg))
   replace b:=ka (aP b.out);replace c:=ka (aP c.out);replace HB:=ka (below_drew1 HB.out);refine start_ (n:=6) (S:=fun w'=>w'.cell? ⟨o,0,none⟩ = some (.slice A0_0 l0_0.length c0_0)∧w'.cell? ⟨o,1,none⟩ = some (.bool a0_1)∧w'.cell? ⟨s,0,none⟩ = some (.slice A1_0 l1_0.length c1_0)∧w'.cell? ⟨s,1,none⟩ = some (.bool a1_1)) (ds:=[]) #[ab,ab,ab,ab,ab,ab] (by kernel_rfl) rfl rfl ⟨(ad b.out 0).trans rfl,(ad b.out 1).trans rfl,(ad c.out 0).trans rfl,(ad c.out 1).trans rfl⟩ (fun hHeld=>?_);generalize e5.drew = h6 at b c HB hHeld ⊢;refine take_ (i:=0) (N:=some 6) (v:=?_) (a':=?_) #[aa,ab,ab,ab,ab,ab] rfl rfl (by kernel_rfl) (fun _ _ _ h=>h) (Or.inl ⟨by rfl,?_⟩) hHeld ?_ ?_;rotate_left
   ·rintro w' ⟨s0,s1,s2,s3⟩;go_simp
    with_reducible rfl
   rotate_left
   ·simp only [Act.put,ac,ae,af,aB,aC]
    rfl
   refine take_ (i:=1) (N:=some 7) (v:=?_) (a':=?_) #[aa,aa,ab,ab,ab,ab] rfl rfl (by kernel_rfl) (fun _ _ _ h=>h) (Or.inl ⟨by rfl,?_⟩) hHeld ?_ ?_;rotate_left
   ·rintro w' ⟨s0,s1,s2,s3⟩;go_simp
    with_reducible rfl
   rotate_left
   ·simp only [Act.put,ac,ae,af,aB,aC]
    rfl
   refine join_ (σ:=Value × Value × Nat) 1 #[aa,aa,aa,aa,aa,ab] (fun s_=>[(8,.agg #[s_.1,.bool G]),(9,.agg #[s_.2.1,.bool false]),(5,.pointer (some ⟨s_.2.2,0,none⟩))]) (fun s_ w'=>(w'.cell? ⟨o,0,none⟩ = some (.slice A0_0 l0_0.length c0_0)∧w'.cell? ⟨o,1,none⟩ = some (.bool a0_1)∧w'.cell? ⟨s,0,none⟩ = some (.slice A1_0 l1_0.length c1_0)∧w'.cell? ⟨s,1,none⟩ = some (.bool a1_1))∧(aT (aH .u64) 60 w' w.heap.size (fun z=>z≠o∧z≠s∧z≠s_.2.2) s_.1 A)∧(aT (aH .u64) 60 w' w.heap.size (fun z=>z≠o∧z≠s∧z≠s_.2.2) s_.2.1 J)∧(w'.heap[o]? = some (.cells #[.slice A0_0 l0_0.length c0_0,.bool a0_1] 51 (0,0)))∧(w'.heap[s]? = some (.cells #[.slice A1_0 l1_0.length c1_0,.bool a1_1] 51 (0,0)))∧(w'.heap[s_.2.2]? = some (.cells #[.slice none 0 0,.bool false] 51 (0,0)))∧(w.heap.size≤s_.2.2)∧(w.heap.size≤s_.2.2)∧(o≠s_.2.2)∧(s_.2.2≠o)∧(s≠s_.2.2)∧(s_.2.2≠s)∧(Below w.heap.size w w')) ?_ ?_;rotate_left
   ·intro hCont;refine two_ (i:=2) (j:=4) (Ni:=some 8) (Nj:=some 5) #[aa,aa,aa,ab,ab,ab] #[aa,aa,ab,ab,aa,ab] rfl rfl rfl rfl (by kernel_rfl) (by decide) (by decide) (fun K hK=>?_) (fun K hK=>?_)
    ·skip
     refine aN Try.func28 (by kernel_rfl) rfl #[.agg #[.slice A1_0 l1_0.length c1_0,.bool a1_1]] (by rfl) rfl rfl (by (try simp only [ai,an,ap]);first|done|rfl|(simp only [aj,ak];rfl)) ?_;with_reducible refine (ay k (fun z=>z < w.heap.size) _ _ l1_0 a1_1 A G _ ?side1 A3.out).mono ?_
     (case side1=>exact aR HC1_0.out (aK (aU (aI .u64) HR1_0.out) (kw HB.out)));rintro e e6 ⟨U,rfl,ho0,hb⟩;refine ⟨_,rfl,?_⟩;have q:=ka (ax (am (ok':=fun z=>z≠o∧z≠s) ho0 (fun z B=>⟨Or.elim B (fun L=>fun e_=>Nat.not_le.2 L (by rw [e_];exact X.out)) (fun M=>(kf b M)),Or.elim B (fun L=>fun e_=>Nat.not_le.2 L (by rw [e_];exact Y.out)) (fun M=>(kf c M))⟩)) (ag (kw HB.out)));replace b:=kbb b hb;replace c:=kbb c hb;replace HB:=ka (ah (kw HB.out) hb);(try clear hb ho0);obtain ⟨d1,d2,d3⟩:=aA q.out;(first|subst d3|(injection d3 with f1_ f2_ f3_;have f4_:=f1_.symm;have f5_:=f3_.symm;clear f1_ f2_ f3_;subst f4_;subst f5_));refine hK.out _ _ ⟨(ad b.out 0).trans rfl,(ad b.out 1).trans rfl,(ad c.out 0).trans rfl,(ad c.out 1).trans rfl⟩ (fun hHeld=>?_);clear hK K;refine az (a':=?_) ?_ ?_;rotate_left
     ·show Act.put _ (some 8) _ = _
      simp only [Act.put,ac,ae,af,aB,aC]
      rfl
     refine two_ (i:=3) (j:=4) (Ni:=some 9) (Nj:=some 5) #[aa,aa,aa,aa,ab,ab] #[aa,aa,aa,ab,aa,ab] rfl rfl rfl rfl (by kernel_rfl) (by decide) (by decide) (fun K hK=>?_) (fun K hK=>?_)
     ·skip
      refine aN Try.func23 (by kernel_rfl) rfl #[.agg #[.slice A0_0 l0_0.length c0_0,.bool a0_1],.agg #[.slice d1 A.length d2,.bool G]] (by rfl) rfl rfl (by (try simp only [ai,an,ap]);first|done|rfl|(simp only [aj,ak];rfl)) ?_;with_reducible refine (al k _ _ l0_0 a0_1 _ _ A G J false _ ?side1 ?side2 ?side3 ?side4 A4.out).mono ?_
      (case side1=>repeat (first|exact (aF HR0_0.out HB.out)|with_reducible first|refine aq ?_ _|refine ar ?_ _|refine aw ?_));(case side2=>exact HC0_0.out);(case side3=>repeat (first|exact (ao q.out).2.2|with_reducible first|refine aq ?_ _|refine ar ?_ _|refine aw ?_));(case side4=>exact (ao q.out).2.1);rintro e h7 ⟨I,rfl,ho0,hb⟩;refine ⟨_,rfl,?_⟩;replace q:=kvb q hb;have D:=ka (ax (am (ok':=fun z=>z≠o∧z≠s) ho0 (fun z B=>⟨(kf b B),(kf c B)⟩)) (ag (kw HB.out)));replace b:=kbb b hb;replace c:=kbb c hb;replace HB:=ka (ah (kw HB.out) hb);(try clear hb ho0);refine hK.out _ _ ⟨(ad b.out 0).trans rfl,(ad b.out 1).trans rfl,(ad c.out 0).trans rfl,(ad c.out 1).trans rfl⟩ (fun hHeld=>?_);clear hK K;refine az (a':=?_) ?_ ?_;rotate_left
      ·show Act.put _ (some 9) _ = _
       simp only [Act.put,ac,ae,af,aB,aC]
       rfl
      refine aS (i:=4) (N:=some 5) #[aa,aa,aa,aa,aa,ab] rfl rfl (by kernel_rfl) (by decide) (fun K hK=>?_);refine aJ ?hg (N:=5) ?hd (cs:=#[.slice none 0 0,.bool false]) (t:=51) ?hr ?_;(case hd=>rfl);(case hg=>rfl);(case hr=>first|(go_simp;done)|(go_simp;rfl));intro d hg d9 hbox hb;replace q:=ka (aG (aE (kv q.out) d (aD hg.symm)) hb);replace D:=ka (aG (aE (kv D.out) d (aD hg.symm)) hb);have u:=ka (hbox);have E:=ka ((by rw [hg];exact (ag (kw HB.out)) : w.heap.size≤d));have F:=ka ((by rw [hg];exact (ag (kw HB.out)) : w.heap.size≤d));replace HB:=ka (ah (kw HB.out) hb);have l:=knb hg b;have x:=ka l.out.symm;replace b:=kbb b hb;have m:=knb hg c;have y:=ka m.out.symm;replace c:=kbb c hb;clear hb hbox hg;refine hK.out _ _ ⟨(ad b.out 0).trans rfl,(ad b.out 1).trans rfl,(ad c.out 0).trans rfl,(ad c.out 1).trans rfl⟩ (fun hHeld=>?_);clear hK K;refine az (a':=?_) ?_ ?_;rotate_left
      ·show Act.put _ (some 5) _ = _
       simp only [Act.put,ac,ae,af,aB,aC]
       rfl
      exact az (by simp only [putAll,Act.put,ac,ae,af]) (hCont (.slice d1 A.length d2,I,d) _ ⟨hHeld,(kv (am q.out (fun _=>ra2))),(kv (am D.out (fun _=>ra2))),(kz b.out),(kz c.out),(kz u.out),E.out,F.out,l.out,x.out,m.out,y.out,(kw HB.out)⟩)
     ·skip
      refine aJ ?hg (N:=5) ?hd (cs:=#[.slice none 0 0,.bool false]) (t:=51) ?hr ?_;(case hd=>rfl);(case hg=>rfl);(case hr=>first|(go_simp;done)|(go_simp;rfl));intro d hg e7 hbox hb;replace q:=ka (aG (aE (kv q.out) d (aD hg.symm)) hb);have u:=ka (hbox);have E:=ka ((by rw [hg];exact (ag (kw HB.out)) : w.heap.size≤d));have F:=ka ((by rw [hg];exact (ag (kw HB.out)) : w.heap.size≤d));replace HB:=ka (ah (kw HB.out) hb);have l:=knb hg b;have x:=ka l.out.symm;replace b:=kbb b hb;have m:=knb hg c;have y:=ka m.out.symm;replace c:=kbb c hb;clear hb hbox hg;obtain ⟨b7,b8,b9⟩:=aA q.out;(first|subst b9|(injection b9 with f1_ f2_ f3_;have f4_:=f1_.symm;have f5_:=f3_.symm;clear f1_ f2_ f3_;subst f4_;subst f5_));refine hK.out _ _ ⟨(ad b.out 0).trans rfl,(ad b.out 1).trans rfl,(ad c.out 0).trans rfl,(ad c.out 1).trans rfl⟩ (fun hHeld=>?_);clear hK K;refine az (a':=?_) ?_ ?_;rotate_left
      ·show Act.put _ (some 5) _ = _
       simp only [Act.put,ac,ae,af,aB,aC]
       rfl
      refine aS (i:=3) (N:=some 9) #[aa,aa,aa,aa,aa,ab] rfl rfl (by kernel_rfl) (by decide) (fun K hK=>?_);refine aN Try.func23 (by kernel_rfl) rfl #[.agg #[.slice A0_0 l0_0.length c0_0,.bool a0_1],.agg #[.slice b7 A.length b8,.bool G]] (by rfl) rfl rfl (by (try simp only [ai,an,ap]);first|done|rfl|(simp only [aj,ak];rfl)) ?_;with_reducible refine (al k _ _ l0_0 a0_1 _ _ A G J false _ ?side1 ?side2 ?side3 ?side4 A4.out).mono ?_
      (case side1=>repeat (first|exact (aF HR0_0.out HB.out)|with_reducible first|refine aq ?_ _|refine ar ?_ _|refine aw ?_));(case side2=>exact HC0_0.out);(case side3=>repeat (first|exact (ao q.out).2.2|with_reducible first|refine aq ?_ _|refine ar ?_ _|refine aw ?_));(case side4=>exact (ao q.out).2.1);rintro e d9 ⟨I,rfl,ho0,hb⟩;refine ⟨_,rfl,?_⟩;replace q:=kvb q hb;have D:=ka (ax (am (ok':=fun z=>z≠o∧z≠s∧z≠d) ho0 (fun z B=>⟨(kf b B),(kf c B),(kf u B)⟩)) (ag (kw HB.out)));replace b:=kbb b hb;replace c:=kbb c hb;replace u:=kbb u hb;replace HB:=ka (ah (kw HB.out) hb);(try clear hb ho0);refine hK.out _ _ ⟨(ad b.out 0).trans rfl,(ad b.out 1).trans rfl,(ad c.out 0).trans rfl,(ad c.out 1).trans rfl⟩ (fun hHeld=>?_);clear hK K;refine az (a':=?_) ?_ ?_;rotate_left
      ·show Act.put _ (some 9) _ = _
       simp only [Act.put,ac,ae,af,aB,aC]
       rfl
      exact az (by simp only [putAll,Act.put,ac,ae,af]) (hCont (.slice b7 A.length b8,I,d) _ ⟨hHeld,(kv (am q.out (fun _=>ra2))),(kv D.out),(kz b.out),(kz c.out),(kz u.out),E.out,F.out,l.out,x.out,m.out,y.out,(kw HB.out)⟩)
    ·skip
     refine aJ ?hg (N:=5) ?hd (cs:=#[.slice none 0 0,.bool false]) (t:=51) ?hr ?_;(case hd=>rfl);(case hg=>rfl);(case hr=>first|(go_simp;done)|(go_simp;rfl));intro d hg e6 hbox hb;have u:=ka (hbox);have E:=ka ((by rw [hg];exact (ag (kw HB.out)) : w.heap.size≤d));have F:=ka ((by rw [hg];exact (ag (kw HB.out)) : w.heap.size≤d));replace HB:=ka (ah (kw HB.out) hb);have l:=knb hg b;have x:=ka l.out.symm;replace b:=kbb b hb;have m:=knb hg c;have y:=ka m.out.symm;replace c:=kbb c hb;clear hb hbox hg;refine hK.out _ _ ⟨(ad b.out 0).trans rfl,(ad b.out 1).trans rfl,(ad c.out 0).trans rfl,(ad c.out 1).trans rfl⟩ (fun hHeld=>?_);clear hK K;refine az (a':=?_) ?_ ?_;rotate_left
     ·show Act.put _ (some 5) _ = _
      simp only [Act.put,ac,ae,af,aB,aC]
      rfl
     refine aS (i:=2) (N:=some 8) #[aa,aa,aa,ab,aa,ab] rfl rfl (by kernel_rfl) (by decide) (fun K hK=>?_);refine aN Try.func28 (by kernel_rfl) rfl #[.agg #[.slice A1_0 l1_0.length c1_0,.bool a1_1]] (by rfl) rfl rfl (by (try simp only [ai,an,ap]);first|done|rfl|(simp only [aj,ak];rfl)) ?_;with_reducible refine (ay k (fun z=>z < w.heap.size) _ _ l1_0 a1_1 A G _ ?side1 A3.out).mono ?_
     (case side1=>exact aR HC1_0.out (aK (aU (aI .u64) HR1_0.out) (kw HB.out)));rintro e e7 ⟨U,rfl,ho0,hb⟩;refine ⟨_,rfl,?_⟩;have q:=ka (ax (am (ok':=fun z=>z≠o∧z≠s∧z≠d) ho0 (fun z B=>⟨Or.elim B (fun L=>fun e_=>Nat.not_le.2 L (by rw [e_];exact X.out)) (fun M=>(kf b M)),Or.elim B (fun L=>fun e_=>Nat.not_le.2 L (by rw [e_];exact Y.out)) (fun M=>(kf c M)),Or.elim B (fun L=>fun e_=>Nat.not_le.2 L (by rw [e_];exact E.out)) (fun M=>(kf u M))⟩)) (ag (kw HB.out)));replace b:=kbb b hb;replace c:=kbb c hb;replace u:=kbb u hb;replace HB:=ka (ah (kw HB.out) hb);(try clear hb ho0);obtain ⟨b7,b8,b9⟩:=aA q.out;(first|subst b9|(injection b9 with f1_ f2_ f3_;have f4_:=f1_.symm;have f5_:=f3_.symm;clear f1_ f2_ f3_;subst f4_;subst f5_));refine hK.out _ _ ⟨(ad b.out 0).trans rfl,(ad b.out 1).trans rfl,(ad c.out 0).trans rfl,(ad c.out 1).trans rfl⟩ (fun hHeld=>?_);clear hK K;refine az (a':=?_) ?_ ?_;rotate_left
     ·show Act.put _ (some 8) _ = _
      simp only [Act.put,ac,ae,af,aB,aC]
      rfl
     refine aS (i:=3) (N:=some 9) #[aa,aa,aa,aa,aa,ab] rfl rfl (by kernel_rfl) (by decide) (fun K hK=>?_);refine aN Try.func23 (by kernel_rfl) rfl #[.agg #[.slice A0_0 l0_0.length c0_0,.bool a0_1],.agg #[.slice b7 A.length b8,.bool G]] (by rfl) rfl rfl (by (try simp only [ai,an,ap]);first|done|rfl|(simp only [aj,ak];rfl)) ?_;with_reducible refine (al k _ _ l0_0 a0_1 _ _ A G J false _ ?side1 ?side2 ?side3 ?side4 A4.out).mono ?_
     (case side1=>repeat (first|exact (aF HR0_0.out HB.out)|with_reducible first|refine aq ?_ _|refine ar ?_ _|refine aw ?_));(case side2=>exact HC0_0.out);(case side3=>repeat (first|exact (ao q.out).2.2|with_reducible first|refine aq ?_ _|refine ar ?_ _|refine aw ?_));(case side4=>exact (ao q.out).2.1);rintro e d9 ⟨I,rfl,ho0,hb⟩;refine ⟨_,rfl,?_⟩;replace q:=kvb q hb;have D:=ka (ax (am (ok':=fun z=>z≠o∧z≠s∧z≠d) ho0 (fun z B=>⟨(kf b B),(kf c B),(kf u B)⟩)) (ag (kw HB.out)));replace b:=kbb b hb;replace c:=kbb c hb;replace u:=kbb u hb;replace HB:=ka (ah (kw HB.out) hb);(try clear hb ho0);refine hK.out _ _ ⟨(ad b.out 0).trans rfl,(ad b.out 1).trans rfl,(ad c.out 0).trans rfl,(ad c.out 1).trans rfl⟩ (fun hHeld=>?_);clear hK K;refine az (a':=?_) ?_ ?_;rotate_left
     ·show Act.put _ (some 9) _ = _
      simp only [Act.put,ac,ae,af,aB,aC]
      rfl
     exact az (by simp only [putAll,Act.put,ac,ae,af]) (hCont (.slice b7 A.length b8,I,d) _ ⟨hHeld,(kv q.out),(kv D.out),(kz b.out),(kz c.out),(kz u.out),E.out,F.out,l.out,x.out,m.out,y.out,(kw HB.out)⟩)
   rintro ⟨U,I,d⟩ a1 ⟨hS_,h0_,h1_,h2_,h3_,h4_,h5_,h6_,h7_,h8_,h9_,h10_,h11_⟩;have q : au (aT (aH .u64) 60 a1 w.heap.size (fun z=>z≠o∧z≠s∧z≠d) U A):=⟨h0_⟩
   have D : au (aT (aH .u64) 60 a1 w.heap.size (fun z=>z≠o∧z≠s∧z≠d) I J):=⟨h1_⟩
   replace b : au (a1.heap[o]? = some (.cells #[.slice A0_0 l0_0.length c0_0,.bool a0_1] 51 (0,0))):=⟨h2_⟩
   replace c : au (a1.heap[s]? = some (.cells #[.slice A1_0 l1_0.length c1_0,.bool a1_1] 51 (0,0))):=⟨h3_⟩
   have u : au (a1.heap[d]? = some (.cells #[.slice none 0 0,.bool false] 51 (0,0))):=⟨h4_⟩
   have E : au (w.heap.size≤d):=⟨h5_⟩
   have F : au (w.heap.size≤d):=⟨h6_⟩
   have l : au (o≠d):=⟨h7_⟩
   have x : au (d≠o):=⟨h8_⟩
   have m : au (s≠d):=⟨h9_⟩
   have y : au (d≠s):=⟨h10_⟩
   replace HB : au (Below w.heap.size w a1):=⟨h11_⟩
   clear h0_ h1_ h2_ h3_ h4_ h5_ h6_ h7_ h8_ h9_ h10_ h11_;have hHeld : a1.cell? ⟨o,0,none⟩ = some (.slice A0_0 l0_0.length c0_0)∧a1.cell? ⟨o,1,none⟩ = some (.bool a0_1)∧a1.cell? ⟨s,0,none⟩ = some (.slice A1_0 l1_0.length c1_0)∧a1.cell? ⟨s,1,none⟩ = some (.bool a1_1):=hS_;obtain ⟨g9,h0,d4⟩:=aA D.out;(first|subst d4|(injection d4 with f1_ f2_ f3_;have f4_:=f1_.symm;have f5_:=f3_.symm;clear f1_ f2_ f3_;subst f4_;subst f5_));refine az (a':=?_) ?_ ?_;rotate_left
   ·simp only [putAll,Act.put,ac,ae,af]
    rfl
   refine aS (i:=5) (N:=none) #[aa,aa,aa,aa,aa,aa] rfl rfl (by kernel_rfl) (by decide) (fun K hK=>?_);have hs44 : a1.cell? ⟨d,0,none⟩ = some (.slice none 0 0):=(ad u.out 0).trans rfl;have hfs44:=aL u.out 0;have hns44_0:=l.out;have hns44_1:=m.out;have hms44_0:=x.out;have hms44_1:=y.out;have hs45 : a1.cell? ⟨d,1,none⟩ = some (.bool false):=(ad u.out 1).trans rfl;have hfs45:=aL u.out 1;have hns45_0:=l.out;have hns45_1:=m.out;have hms45_0:=x.out;have hms45_1:=y.out;refine skip_ (w1:=?_) (by rfl) rfl ?_ ?_;rotate_left
   ·go_simp
    rfl
   refine hK.out _ _ ⟨((av (p:=⟨d,_,none⟩) l.out _).trans (((av (p:=⟨d,_,none⟩) l.out _).trans (hHeld.1)))),((av (p:=⟨d,_,none⟩) l.out _).trans (((av (p:=⟨d,_,none⟩) l.out _).trans (hHeld.2.1)))),((av (p:=⟨d,_,none⟩) m.out _).trans (((av (p:=⟨d,_,none⟩) m.out _).trans (hHeld.2.2.1)))),((av (p:=⟨d,_,none⟩) m.out _).trans (((av (p:=⟨d,_,none⟩) m.out _).trans (hHeld.2.2.2))))⟩ (fun hHeld=>?_);clear hK K;refine done_ (by kernel_rfl) ?_;have f8:=x.out;have f9:=l.out;have g0:=y.out;have g1:=m.out;have g2:=blkAll2 u.out;try go_wp2
   go_ret
   exact ⟨by first|rfl|(simp [errW_none,errW_some] <;> rfl)|(simp [*,errW_none,errW_some] <;> rfl),by repeat (first|(with_reducible first|exact HB.out|apply kc1|apply kc2|apply kc3|refine kc4 ?_ a4.out|refine kc4 ?_ a5.out|refine kc4 ?_ F.out)|exact HB.out)⟩
end Go.Proofs.Ytghimjkoaldafaa.P
