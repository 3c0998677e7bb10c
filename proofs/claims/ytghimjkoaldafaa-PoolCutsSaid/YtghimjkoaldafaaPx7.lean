-- Written by a program of this session out of the translation of the seat: Lean functions and the proofs that the Go functions come to them.
import Derived.Test.YtghimjkoaldafaaPx0
import Derived.Test.YtghimjkoaldafaaPx6
namespace Go.Proofs.Ytghimjkoaldafaa.P
open Go.RowKit Go.Proofs.YtghimjkoaldafaaW.PrintWords Go.Proofs.YtghimjkoaldafaaW.PrintLast Go.Proofs.YtghimjkoaldafaaW.PrintMore
open Go.IntKind renaming u64 → aa
open Go.Proofs.YtghimjkoaldafaaW.PrintWords.Kd renaming R_types → ab, R_reads' → ak, int → am, R_ne → an, R_elder' → ao, R_lt → av, R_append → aw, R_slice → ax, C_alloc → ay, C_drewN → az, R_new' → aC, R_base → aD, V_mono → aE, C_drew → aG, R_lower → aH, R_after → aI, R_newM → aJ, fresh' → aK, R_tight → aN, V_lower → aQ, R_below → aR, V_slice → aT
open Go.Proofs.YtghimjkoaldafaaW.PrintWords renaming below_size → ac, below_step → ae, blk_grown → ag, Aside0 → ah, gate_builtin → ar, gate_dst → au, blk_below → aA, blk_lt → aM
open Option renaming bind_some → ad, bind_eq_some_iff → al
open Nat renaming le_trans → af, le_refl → aj
open List renaming setIfInBounds_toArray → ai, set_cons_zero → ap, set_cons_succ → aq
set_option maxHeartbeats 8000000
set_option maxRecDepth 100000
attribute [local go_sem] max2_int min2_int max_two min_two max_three min_three max_four min_four   -- for this text's walks alone
set_option linter.unusedVariables false
set_option linter.unusedSimpArgs false
theorem trivetref01_norm.tells (k : Nat) : ∀ (d : List Int) (m : Bool),U.Dg d→d.length < k→(d.length : Int) < 9223372036854775808→trivetref01_norm.f k d m = some (U.dig (U.val d),m && !(U.dig (U.val d)).isEmpty):=by
 induction k with
 | zero=>intro d m _ h _;omega
 | succ k ih=>
  intro d m hd h hl;unfold trivetref01_norm.f
  simp only [trivetref01_norm.l0]
  rcases List.eq_nil_or_concat d with rfl|⟨r,x,rfl⟩
  ·rw [if_neg (by simp)]
   simp only [U.val,U.dig_zero]
   cases m <;> simp
  ·rw [List.concat_eq_append] at *
   have hlen : (r ++ [x]).length = r.length + 1:=by simp
   have hw : wrap64 (((r ++ [x]).length : Int) - 1) = r.length:=by rw [hlen,M.w64_id (by omega) (by omega)];omega
   rw [if_pos (by omega),hw,if_pos (by omega),if_pos (by omega)]
   have hr : rd (r ++ [x]) (r.length : Int) = x:=by simp [rd]
   rw [hr]
   by_cases hx : x = 0
   ·subst hx;rw [if_pos rfl,if_pos (by omega)]
    have ht : (r ++ [(0 : Int)]).take ((r.length : Int)).toNat = r:=by simp
    rw [ht,U.val_append,U.val_one,Int.mul_zero,Int.add_zero]
    exact ih r m hd.left (by omega) (by omega)
   ·rw [if_neg hx,U.dig_val_top hd hx]
    cases m <;> simp
theorem trivetref01_norm.num (k : Nat) (d : List Int) (m : Bool) (z : Int) (hd : U.Dg d) (h : d.length < k) (hl : (d.length : Int) < 9223372036854775808) (hz : z = if m = true then -U.val d else U.val d) : trivetref01_norm.f k d m = some (U.num z):=by
 rw [trivetref01_norm.tells k d m hd h hl,U.num_of (U.val_nonneg hd) hz]
mutual
def trivetref01_Of.j0 : Nat→Int→Int→Option (List Int × Bool)
 | 0,_,_=>none
 | k + 1,x0,x3=>trivetref01_Of.l0 k x0 x3 ([] : List Int) 0
def trivetref01_Of.l0 : Nat→Int→Int→List Int→Int→Option (List Int × Bool)
 | 0,_,_,_,_=>none
 | k + 1,x0,x3,x4,x5=>if x5 < 4 then (if x4.length < 17592186044416 then (trivetref01_Of.l0 k x0 (aa.wrap (Int.tdiv x3 65536)) (x4 ++ [Int.tmod x3 65536]) (wrap64 (x5 + 1))) else (none)) else ((trivetref01_norm.f k x4 (decide (x0 < 0))).bind fun f1=>(some (f1.1,f1.2)))
end
def trivetref01_Of.f (k : Nat) (a0 : Int) : Option (List Int × Bool):=if a0 < 0 then (trivetref01_Of.j0 k a0 (aa.wrap ((Go.bits .xor .u64 18446744073709551615 (aa.wrap (a0))) + 1))) else (trivetref01_Of.j0 k a0 (aa.wrap (a0)))
theorem trivetref01_Of.calls (k : Nat) (a0 : Int) (r1 : List Int) (r2 : Bool) (w : World) (h : trivetref01_Of.f k a0 = some (r1,r2)) :
  Calls Try.prog 24 #[.int .i64 a0] w fun e w'=>∃ v0_ : Value,e = .returned (.agg #[v0_,.bool r2])∧Kd.V (am .u64) 60 w' w.heap.size (fun D=>(w.heap.size≤D)) v0_ r1∧Below w.heap.size w w':=by
 have hu51:=Try.underlying51;have HB:=ka (Below.refl w.heap.size w);have H : (if a0 < 0 then (trivetref01_Of.j0 k a0 (aa.wrap ((Go.bits .xor .u64 18446744073709551615 (aa.wrap (a0))) + 1))) else (trivetref01_Of.j0 k a0 (aa.wrap (a0)))) = some (r1,r2):=h;clear h;have f9:=ka H;clear H;go_enter Try.func24,Try.ntmps24
 go_upto_if 9 with (first|((with_reducible refine au (N:=2) rfl ?_);refine kx (N:=2) (cs:=#[.slice none 0 0,.bool false]) (t:=51) ?_;intro b1 hg w3 hbox hb;have O:=ka (ae (kw HB.out) hb);have Q:=ka (hbox);have K:=ka ((by rw [hg];exact (ac (kw HB.out)) : w.heap.size≤b1));have L:=K;clear HB;have HB:=O;have S:=Q;have k9:=K;have b9:=L;clear O Q K L;clear hb hbox hg))
 (try simp only [Act.put,ai,ap,aq]);go_cut [3] (fun v3 wc=>∃ (kq : Nat) (x3_1 : Int),v3 = .int .u64 x3_1∧ah (trivetref01_Of.j0 kq a0 x3_1 = some (r1,r2))∧ah (kq≤k)∧ah (wc.heap[b1]? = some (.cells #[(.slice none 0 0),.bool false] 51 (0,0)))∧ah (Below w.heap.size w wc))
 case first=>
  have H:=f9.out;clear f9;by_cases c4 : a0 < 0
  ·rw [if_pos c4] at H
   have c4b0 : decide (a0 < 0) = true:=decide_eq_true c4;clear c4;(first|rw [c4b0]|(simp only [i64_w,i32_w];rw [c4b0])|skip);have H':=ka H;clear H;go_wp2
   go_meet
   case rel=>exact ⟨_,(aa.wrap ((Go.bits .xor .u64 18446744073709551615 (aa.wrap (a0))) + 1)),(by first|rfl|(simp;done)|(simp [*];done)),H',⟨by first|omega|exact aj _⟩,⟨by (with_reducible repeat (first|apply kb1|apply kb2|apply kb3));exact S.out⟩,⟨by repeat (first|(with_reducible first|exact HB.out|apply kc1|apply kc2|apply kc3|refine kc4 ?_ b9.out)|exact HB.out)⟩⟩
  ·rw [if_neg c4] at H
   have c4b0 : decide (a0 < 0) = false:=decide_eq_false c4;clear c4;(first|rw [c4b0]|(simp only [i64_w,i32_w];rw [c4b0])|skip);have H':=ka H;clear H;go_wp2
   go_meet
   case rel=>exact ⟨_,(aa.wrap (a0)),(by first|rfl|(simp;done)|(simp [*];done)),H',⟨by first|omega|exact aj _⟩,⟨by (with_reducible repeat (first|apply kb1|apply kb2|apply kb3));exact S.out⟩,⟨by repeat (first|(with_reducible first|exact HB.out|apply kc1|apply kc2|apply kc3|refine kc4 ?_ b9.out)|exact HB.out)⟩⟩
 case rest=>
  clear f9;try clear c2
  obtain ⟨kq,x3_1,rfl,HA,i3,S,HB⟩:=hcut;cases kq with
  | zero=>exact absurd HA.out (by simp [trivetref01_Of.j0])
  | succ kj1=>
   have H:=HA.out;clear HA;simp only [trivetref01_Of.j0] at H
   have H':=ka H;clear H;go_wp2
   (try simp only [Act.put,ai,ap,aq]);go_loopg [3,4,5] kj1 (fun kq v3 v4 v5 w'=>∃ (x3_2 : Int) (x4_2 : List Int) (x5_2 : Int),v3 = .int .u64 x3_2∧v5 = .int .i64 x5_2∧ah (trivetref01_Of.l0 kq a0 x3_2 x4_2 x5_2 = some (r1,r2))∧ah (kq≤kj1)∧ah (Kd.R (am .u64) 60 w' w.heap.size (fun D=>(w.heap.size≤D)) v4 x4_2)∧ah (w'.heap[b1]? = some (.cells #[(.slice none 0 0),.bool false] 51 (0,0)))∧ah (Below w.heap.size w w'))
   case atStart=>exact ⟨(x3_1),(([] : List Int)),(0),(by first|rfl|(simp;done)|(simp [*];done)),(by first|rfl|(simp;done)|(simp [*];done)),H',⟨aj _⟩,⟨by first|exact Kd.R_nil _ _ _ _ _|exact Kd.N_nil _ _ _ _ _|exact Kd.V_nil _ _ _ _ _|exact Kd.Q_nil _ _ _ _ _|exact Kd.S_nil _ _ _ _ _⟩,⟨by (with_reducible repeat (first|apply kb1|apply kb2|apply kb3));exact S.out⟩,⟨by repeat (first|(with_reducible first|exact HB.out|apply kc1|apply kc2|apply kc3|refine kc4 ?_ b9.out)|exact HB.out)⟩⟩
   case round=>
    clear H';try clear c2
    obtain ⟨x3_2,x4_2,x5_2,rfl,rfl,HA,HK2,b2,S,HB⟩:=hrel;cases gk with
    | zero=>exact absurd HA.out (by simp [trivetref01_Of.l0])
    | succ k2=>
     have H:=HA.out;clear HA;simp only [trivetref01_Of.l0] at H
     by_cases c5 : x5_2 < 4
     ·rw [if_pos c5] at H
      have c5b0 : decide (x5_2 < 4) = true:=decide_eq_true c5;clear c5;by_cases c6 : x4_2.length < 17592186044416
      ·rw [if_pos c6] at H
       have LMc6:=ka c6;clear c6;obtain ⟨y492,hy492⟩ : ∃ y_ : List Int,y_ = (x4_2 ++ [Int.tmod x3_2 65536]):=⟨_,rfl⟩
       replace H : (trivetref01_Of.l0 k2 a0 (aa.wrap (Int.tdiv x3_2 65536)) y492 (wrap64 (x5_2 + 1))) = some (r1,r2):=by first|(rw [hy492];with_reducible exact H)|(have H2_:=(ad _ _).symm.trans H;rw [hy492];with_reducible exact H2_)|(have H2_:=(ad _ _).symm.trans H;with_reducible exact H2_)|with_reducible exact H|(rw [hy492];exact H)|exact H
       have Ny492:=ka hy492;clear hy492;have H':=ka H;clear H;go_wp2_with (first|((with_reducible refine ar (b:=.append) (xs:=#[.tmp 17,.tmp 20]) rfl ?_);at_builtin;refine aw (am .u64) (w0:=w) w.heap.size rfl (.tmp 17) (.tmp 20) 49 60 (.int .u64 0) 8 rfl Try.underlying49 info60 rfl (by decide) (by omega) u4 x4_2 (Int.tmod x3_2 65536) [.int .u64 (Int.tmod x3_2 65536)] (fun D=>(w.heap.size≤D)) (fun _=>False) rfl rfl ?aP (fun _ hk=>hk.elim) ?aF ?aO ?aB ?aS ?aL ?_;(case aP=>exact rfl);(case aB=>exact (kw HB.out));(case aF=>exact (fun D hk=>(af (ac (kw HB.out)) hk)));(case aO=>exact (kr b2.out));(case aS=>exact (ac (kw HB.out)));(case aL=>have:=LMc6.out;omega);intro n7 w7 ho hb hg hat;rw [← Ny492.out] at ho;replace S:=ka (ag (g:=b1) (kz S.out) hg (an b2.out S.out (by decide)));replace HB:=ka (hb);have h8:=ka (ho);clear b2;clear ho hb hg hat))
       go_roundg k2
       case measure=>have:=i3.out;have:=HK2.out;omega
       case rel=>exact ⟨(aa.wrap (Int.tdiv x3_2 65536)),(y492),(wrap64 (x5_2 + 1)),(by first|rfl|(simp;done)|(simp [*];done)),(by first|rfl|(simp;done)|(simp [*];done)),H',⟨by have:=i3.out;have:=HK2.out;omega⟩,⟨kr h8.out⟩,⟨by (with_reducible repeat (first|apply kb1|apply kb2|apply kb3));exact S.out⟩,⟨by repeat (first|(with_reducible first|exact HB.out|apply kc1|apply kc2|apply kc3|refine kc4 ?_ b9.out)|exact HB.out)⟩⟩
      ·rw [if_neg c6] at H
       exact absurd H (by simp)
     ·rw [if_neg c5] at H
      have c5b0 : decide (x5_2 < 4) = false:=decide_eq_false c5;clear c5;replace H:=al.mp H;obtain ⟨⟨d8,d9⟩,e7,H⟩:=H;replace H : (some (d8,d9)) = some (r1,r2):=H;have A8:=ka e7;clear e7;simp only [Option.some.injEq,Prod.mk.injEq] at H
      obtain ⟨rfl,rfl⟩:=H;obtain ⟨i4,i5,k4⟩:=ax b2.out;subst k4;go_wp2_with (first|((with_reducible refine gate_callee (f:=39) rfl ?_);refine kg (some 27) rfl rfl Try.func39 (by kernel_rfl) rfl #[.slice i4 x4_2.length i5,.bool (decide (a0 < 0))] rfl ?_;(with_reducible refine (trivetref01_norm.calls k2 (fun D=>some D = (.slice i4 x4_2.length i5 : Value).ownBlock) _ _ x4_2 (decide (a0 < 0)) d8 d9 _ ?side1 A8.out).mono ?_);(case side1=>exact Kd.R_V (aN rfl (ab (b2.out) S.out (by decide))));rintro e k5 ⟨n8,rfl,ho0,hb⟩;refine ⟨_,rfl,?_⟩;have f2:=ka (aQ (aE (ok':=fun D=>(w.heap.size≤D)∧D≠b1) ho0 (fun D a6=>⟨Or.elim a6 (fun T=>((ab (b2.out) S.out (by decide)).1 D T.symm).1) (fun W=>(af (ac (kw HB.out)) W)),Or.elim a6 (fun T=>((ab (b2.out) S.out (by decide)).1 D T.symm).2) (fun W=>(kf S W))⟩)) (ac (kw HB.out)));replace b2:=ka (aR (kr b2.out) hb);replace S:=kbb S hb;replace HB:=ka (ae (kw HB.out) hb);(try clear hb ho0);obtain ⟨g2,g3,j8⟩:=aT f2.out;subst j8;have l2:=blkAll2 S.out))
      refine bodyPost_ret (results_cell_row rfl _ _ b1 51 #[.slice g2 d8.length g3,.bool d9] (0,0) _ rfl (by (with_reducible repeat (first|apply kb1|apply kb2|apply kb3|apply blkPut2_1|apply blkPut2_0));exact S.out) Try.underlying51 rfl (by kernel_rfl)) rfl ?_;exact ⟨_,by first|rfl|(simp [errW_none,errW_some] <;> rfl)|(simp [*,errW_none,errW_some] <;> rfl),by (with_reducible repeat (first|apply Kd.V_alloc|apply Kd.V_drewN|apply Kd.V_drew));exact aE (Kd.V_far (p:=⟨b1,1,none⟩) (Kd.V_far (p:=⟨b1,0,none⟩) (aE f2.out (fun D hk=>(⟨hk,hk.2⟩ : _∧D≠b1))) (fun _ hk=>hk.2) (.slice g2 d8.length g3)) (fun _ hk=>hk.2) (.bool d9)) (fun _ hk=>hk.1.1),by repeat (first|(with_reducible first|exact HB.out|apply kc1|apply kc2|apply kc3|refine kc4 ?_ b9.out)|exact HB.out)⟩
theorem trivetref01_Of.sized (k : Nat) (a u : Int) (hu : 0≤u∧u < 18446744073709551616) (ha : u = M.abs a) (hk : 12≤k) : trivetref01_Of.j0 k a u = some (U.num a):=by
 obtain ⟨j,rfl⟩ : ∃ j,k = j + 6 + 6:=⟨k - 12,by omega⟩
 have d0:=Int.emod_nonneg u (show (65536 : Int)≠0 by decide);simp only [trivetref01_Of.j0,trivetref01_Of.l0]
 rw [M.tdivu (show 0≤u by omega),M.tmodu (show 0≤u by omega),M.wrapu_id (n:=u / 65536) (by omega) (by omega)]
 rw [M.tdivu (show 0≤u / 65536 by omega),M.tmodu (show 0≤u / 65536 by omega),M.wrapu_id (n:=u / 65536 / 65536) (by omega) (by omega)]
 rw [M.tdivu (show 0≤u / 65536 / 65536 by omega),M.tmodu (show 0≤u / 65536 / 65536 by omega),M.wrapu_id (n:=u / 65536 / 65536 / 65536) (by omega) (by omega)]
 rw [M.tmodu (show 0≤u / 65536 / 65536 / 65536 by omega)]
 have w1 : wrap64 (0 + 1) = 1:=by unfold wrap64;decide
 have w2 : wrap64 (1 + 1) = 2:=by unfold wrap64;decide
 have w3 : wrap64 (2 + 1) = 3:=by unfold wrap64;decide
 have w4 : wrap64 (3 + 1) = 4:=by unfold wrap64;decide
 simp only [w1,w2,w3,w4]
 rw [if_pos (by decide),if_pos (by simp),if_pos (by decide),if_pos (by simp),if_pos (by decide),if_pos (by simp),if_pos (by decide),if_pos (by simp),if_neg (by decide)]
 rw [trivetref01_norm.num _ _ _ a]
 ·rfl
 ·intro x hx;simp at hx
  rcases hx with rfl|rfl|rfl|rfl <;> omega
 ·simp
 ·simp
 ·simp only [List.nil_append,List.cons_append,U.val]
  unfold M.abs at ha
  by_cases h : a < 0
  ·rw [if_pos h] at ha;rw [if_pos (decide_eq_true h)];omega
  ·rw [if_neg h] at ha;rw [if_neg (by simpa using h)];omega
theorem trivetref01_Of.num (k : Nat) (a : Int) (ha : M.In a) (hk : 12≤k) : trivetref01_Of.f k a = some (U.num a):=by
 unfold M.In at ha
 unfold trivetref01_Of.f
 by_cases h : a < 0
 ·rw [if_pos h]
  have e : aa.wrap (Go.bits .xor .u64 18446744073709551615 (aa.wrap a) + 1) = -a:=by
   have e1 : aa.wrap a = a + 18446744073709551616:=by rw [M.wrapu];omega
   rw [e1,M.xor_all _ (by omega) (by omega),M.wrapu];omega
  rw [e]
  exact trivetref01_Of.sized k a (-a) (by omega) (by unfold M.abs;rw [if_pos h]) hk
 ·rw [if_neg h,M.wrapu_id (by omega) (by omega)]
  exact trivetref01_Of.sized k a a (by omega) (by unfold M.abs;rw [if_neg h]) hk
def trivetref01_at.f (l0 : List Int) (a1 : Int) : Option (Int):=if a1 < (l0.length : Int) then (if 0≤a1 then (some (rd l0 a1)) else (none)) else (some 0)
theorem trivetref01_at.calls (A0 : Option Addr) (c0 : Nat) (l0 : List Int) (a1 : Int) (r : Int) (w : World) (hr0 : Kd.C (am .u64) w A0 l0.length l0) (hc0 : l0.length≤c0) (h : trivetref01_at.f l0 a1 = some r) :
  Calls Try.prog 47 #[.slice A0 l0.length c0,.int .i64 a1] w fun e w'=>e = .returned (.int .u64 r)∧Drawn0 w w':=by
 have HR0:=ka hr0;have i6:=ka hc0;clear hr0 hc0;have H : (if a1 < (l0.length : Int) then (if 0≤a1 then (some (rd l0 a1)) else (none)) else (some 0)) = some r:=h;clear h;by_cases c3 : a1 < (l0.length : Int)
 ·rw [if_pos c3] at H
  have c3b0 : decide (a1 < (l0.length : Int)) = true:=decide_eq_true c3;clear c3;by_cases c4 : 0≤a1
  ·rw [if_pos c4] at H
   have c4b0 : decide (0≤a1) = true:=decide_eq_true c4;clear c4;obtain rfl:=Option.some.inj H;have p499 : 0≤(a1 : Int):=of_decide_eq_true (by first|(with_reducible assumption)|assumption);have q499 : a1 < (l0.length : Int):=of_decide_eq_true (by first|(with_reducible assumption)|assumption);obtain ⟨ad499,e499,hx499_0⟩:=Kd.at_int HR0.out a1 p499 q499;cases e499
   replace p499:=eq_true p499;replace q499:=eq_true q499;go_enter Try.func47,Try.ntmps47
   go_wp2
   go_ret
   exact ⟨by first|rfl|(simp;done)|(simp [*];done),by repeat (first|exact Drawn0.refl _|apply Drawn0.step)⟩
  ·rw [if_neg c4] at H
   exact absurd H (by simp)
 ·rw [if_neg c3] at H
  have c3b0 : decide (a1 < (l0.length : Int)) = false:=decide_eq_false c3;clear c3;obtain rfl:=Option.some.inj H;go_enter Try.func47,Try.ntmps47
  go_wp2
  go_ret
  exact ⟨by first|rfl|(simp;done)|(simp [*];done),by repeat (first|exact Drawn0.refl _|apply Drawn0.step)⟩
theorem trivetref01_at.num (d : List Int) (i : Nat) : trivetref01_at.f d i = some (d.getD i 0):=by
 unfold trivetref01_at.f
 by_cases h : (i : Int) < d.length
 ·rw [if_pos h,if_pos (by omega)]
  simp [rd]
 ·rw [if_neg h,List.getD_eq_getElem?_getD,List.getElem?_eq_none (by omega)];rfl
mutual
def trivetref01_plus.l0 : Nat→List Int→List Int→List Int→Int→Int→Option (List Int)
 | 0,_,_,_,_,_=>none
 | k + 1,x0,x1,x5,x6,x7=>if x7 < (x0.length : Int) then (trivetref01_plus.j1 k x0 x1 x5 x6 x7 true) else (if x7 < (x1.length : Int) then (trivetref01_plus.j1 k x0 x1 x5 x6 x7 true) else (trivetref01_plus.j1 k x0 x1 x5 x6 x7 (decide (x6 > 0))))
def trivetref01_plus.j1 : Nat→List Int→List Int→List Int→Int→Int→Bool→Option (List Int)
 | 0,_,_,_,_,_,_=>none
 | k + 1,x0,x1,x5,x6,x7,x22=>if x22 = true then ((trivetref01_at.f x0 x7).bind fun Y=>((trivetref01_at.f x1 x7).bind fun X=>(if x5.length < 17592186044416 then (trivetref01_plus.l0 k x0 x1 (x5 ++ [Int.tmod (aa.wrap ((aa.wrap (Y + X)) + x6)) 65536]) (aa.wrap (Int.tdiv (aa.wrap ((aa.wrap (Y + X)) + x6)) 65536)) (wrap64 (x7 + 1))) else (none)))) else (some x5)
end
def trivetref01_plus.f (k : Nat) (l0 : List Int) (l1 : List Int) : Option (List Int):=trivetref01_plus.l0 k l0 l1 ([] : List Int) 0 0
theorem trivetref01_plus.calls (k : Nat) (A0 : Option Addr) (c0 : Nat) (l0 : List Int) (A1 : Option Addr) (c1 : Nat) (l1 : List Int) (r : List Int) (w : World) (hr0 : Kd.C (am .u64) w A0 l0.length l0) (hc0 : l0.length≤c0) (hr1 : Kd.C (am .u64) w A1 l1.length l1) (hc1 : l1.length≤c1) (h : trivetref01_plus.f k l0 l1 = some r) :
  Calls Try.prog 40 #[.slice A0 l0.length c0,.slice A1 l1.length c1] w fun e w'=>∃ v0_ : Value,e = .returned (v0_)∧Kd.R (am .u64) 60 w' w.heap.size (fun _=>True) v0_ r∧Below w.heap.size w w':=by
 have HR0:=ka hr0;have i6:=ka hc0;clear hr0 hc0;have HR1:=ka hr1;have k6:=ka hc1;clear hr1 hc1;have HB:=ka (Below.refl w.heap.size w);have H : (trivetref01_plus.l0 k l0 l1 ([] : List Int) 0 0) = some r:=h;clear h;have H':=ka H;clear H;go_enter Try.func40,Try.ntmps40
 go_wp2
 (try simp only [Act.put,ai,ap,aq]);go_loopg [5,6,7] k (fun kq v5 v6 v7 w'=>∃ (x5_1 : List Int) (x6_1 : Int) (x7_1 : Int),v6 = .int .u64 x6_1∧v7 = .int .i64 x7_1∧ah (trivetref01_plus.l0 kq l0 l1 x5_1 x6_1 x7_1 = some r)∧ah (kq≤k)∧ah (Kd.R (am .u64) 60 w' w.heap.size (fun _=>True) v5 x5_1)∧ah (Below w.heap.size w w'))
 case atStart=>exact ⟨(([] : List Int)),(0),(0),(by first|rfl|(simp;done)|(simp [*];done)),(by first|rfl|(simp;done)|(simp [*];done)),H',⟨aj _⟩,⟨by first|exact Kd.R_nil _ _ _ _ _|exact Kd.N_nil _ _ _ _ _|exact Kd.V_nil _ _ _ _ _|exact Kd.Q_nil _ _ _ _ _|exact Kd.S_nil _ _ _ _ _⟩,⟨by repeat (first|(with_reducible first|exact HB.out|apply kc1|apply kc2|apply kc3)|exact HB.out)⟩⟩
 case round=>
  clear H';try clear c1
  obtain ⟨x5_1,x6_1,x7_1,rfl,rfl,HA,HK1,B,HB⟩:=hrel;cases gk with
  | zero=>exact absurd HA.out (by simp [trivetref01_plus.l0])
  | succ k1=>
   have H:=HA.out;clear HA;simp only [trivetref01_plus.l0] at H
   have g4:=ka H;clear H;go_upto_region 4 with (fail)
   go_cut [22] (fun k7 wc=>∃ (kq : Nat) (x22_2 : Bool),k7 = .bool x22_2∧ah (trivetref01_plus.j1 kq l0 l1 x5_1 x6_1 x7_1 x22_2 = some r)∧ah (kq≤k1)∧ah (Kd.R (am .u64) 60 wc w.heap.size (fun _=>True) u5 x5_1)∧ah (Below w.heap.size w wc))
   case first=>
    have H:=g4.out;clear g4;by_cases c4 : x7_1 < (l0.length : Int)
    ·rw [if_pos c4] at H
     have c4b0 : decide (x7_1 < (l0.length : Int)) = true:=decide_eq_true c4;clear c4;(first|rw [c4b0]|(simp only [i64_w,i32_w];rw [c4b0])|skip);have H':=ka H;clear H;go_wp2
     go_meet
     case rel=>exact ⟨_,(true),(by first|rfl|(simp;done)|(simp [*];done)),H',⟨by have:=HK1.out;first|omega|exact aj _⟩,⟨kr B.out⟩,⟨by repeat (first|(with_reducible first|exact HB.out|apply kc1|apply kc2|apply kc3)|exact HB.out)⟩⟩
    ·rw [if_neg c4] at H
     have c4b0 : decide (x7_1 < (l0.length : Int)) = false:=decide_eq_false c4;clear c4;(first|rw [c4b0]|(simp only [i64_w,i32_w];rw [c4b0])|skip);by_cases c5 : x7_1 < (l1.length : Int)
     ·rw [if_pos c5] at H
      have c5b0 : decide (x7_1 < (l1.length : Int)) = true:=decide_eq_true c5;clear c5;have H':=ka H;clear H;go_wp2
      go_meet
      case rel=>exact ⟨_,(true),(by first|rfl|(simp;done)|(simp [*];done)),H',⟨by have:=HK1.out;first|omega|exact aj _⟩,⟨kr B.out⟩,⟨by repeat (first|(with_reducible first|exact HB.out|apply kc1|apply kc2|apply kc3)|exact HB.out)⟩⟩
     ·rw [if_neg c5] at H
      have c5b0 : decide (x7_1 < (l1.length : Int)) = false:=decide_eq_false c5;clear c5;have H':=ka H;clear H;go_wp2
      go_meet
      case rel=>exact ⟨_,(decide (x6_1 > 0)),(by first|rfl|(simp;done)|(simp [*];done)),H',⟨by have:=HK1.out;first|omega|exact aj _⟩,⟨kr B.out⟩,⟨by repeat (first|(with_reducible first|exact HB.out|apply kc1|apply kc2|apply kc3)|exact HB.out)⟩⟩
   case rest=>
    clear g4;try clear c1
    obtain ⟨kq,x22_2,rfl,HA,i7,B,HB⟩:=hcut;cases kq with
    | zero=>exact absurd HA.out (by simp [trivetref01_plus.j1])
    | succ kj2=>
     have H:=HA.out;clear HA;simp only [trivetref01_plus.j1] at H
     by_cases c6 : x22_2 = true
     ·subst c6;have H1 : ((trivetref01_at.f l0 x7_1).bind fun Y=>((trivetref01_at.f l1 x7_1).bind fun X=>(if x5_1.length < 17592186044416 then (trivetref01_plus.l0 kj2 l0 l1 (x5_1 ++ [Int.tmod (aa.wrap ((aa.wrap (Y + X)) + x6_1)) 65536]) (aa.wrap (Int.tdiv (aa.wrap ((aa.wrap (Y + X)) + x6_1)) 65536)) (wrap64 (x7_1 + 1))) else (none)))) = some r:=by rw [if_pos rfl] at H;exact H
      clear H;have H:=H1;clear H1;replace H:=al.mp H;obtain ⟨Y,i8,H⟩:=H;replace H : ((trivetref01_at.f l1 x7_1).bind fun X=>(if x5_1.length < 17592186044416 then (trivetref01_plus.l0 kj2 l0 l1 (x5_1 ++ [Int.tmod (aa.wrap ((aa.wrap (Y + X)) + x6_1)) 65536]) (aa.wrap (Int.tdiv (aa.wrap ((aa.wrap (Y + X)) + x6_1)) 65536)) (wrap64 (x7_1 + 1))) else (none))) = some r:=H;have A7:=ka i8;clear i8;replace H:=al.mp H;obtain ⟨X,e7,H⟩:=H;replace H : (if x5_1.length < 17592186044416 then (trivetref01_plus.l0 kj2 l0 l1 (x5_1 ++ [Int.tmod (aa.wrap ((aa.wrap (Y + X)) + x6_1)) 65536]) (aa.wrap (Int.tdiv (aa.wrap ((aa.wrap (Y + X)) + x6_1)) 65536)) (wrap64 (x7_1 + 1))) else (none)) = some r:=H;have A8:=ka e7;clear e7;by_cases c9 : x5_1.length < 17592186044416
      ·rw [if_pos c9] at H
       have LMc9:=ka c9;clear c9;obtain ⟨y502,hy502⟩ : ∃ y_ : List Int,y_ = (x5_1 ++ [Int.tmod (aa.wrap ((aa.wrap (Y + X)) + x6_1)) 65536]):=⟨_,rfl⟩
       replace H : (trivetref01_plus.l0 kj2 l0 l1 y502 (aa.wrap (Int.tdiv (aa.wrap ((aa.wrap (Y + X)) + x6_1)) 65536)) (wrap64 (x7_1 + 1))) = some r:=by first|(rw [hy502];with_reducible exact H)|(have H2_:=(ad _ _).symm.trans H;rw [hy502];with_reducible exact H2_)|(have H2_:=(ad _ _).symm.trans H;with_reducible exact H2_)|with_reducible exact H|(rw [hy502];exact H)|exact H
       have Ny502:=ka hy502;clear hy502;have H':=ka H;clear H;go_wp2_with (first|((with_reducible refine gate_callee (f:=47) rfl ?_);refine kg (some 27) rfl rfl Try.func47 (by kernel_rfl) rfl #[.slice A0 l0.length c0,.int .i64 x7_1] rfl ?_;(with_reducible refine (trivetref01_at.calls _ _ l0 x7_1 Y _ ?side1 ?side2 A7.out).mono ?_);(case side1=>repeat (first|exact (Kd.C_below HR0.out HB.out)|with_reducible first|refine ay ?_ _|refine az ?_ _|refine aG ?_));(case side2=>exact i6.out);rintro e w' ⟨rfl,⟨nd,rfl⟩⟩;refine ⟨_,rfl,?_⟩)|((with_reducible refine gate_callee (f:=47) rfl ?_);refine kg (some 30) rfl rfl Try.func47 (by kernel_rfl) rfl #[.slice A1 l1.length c1,.int .i64 x7_1] rfl ?_;(with_reducible refine (trivetref01_at.calls _ _ l1 x7_1 X _ ?side1 ?side2 A8.out).mono ?_);(case side1=>repeat (first|exact (Kd.C_below HR1.out (kw HB.out))|with_reducible first|refine ay ?_ _|refine az ?_ _|refine aG ?_));(case side2=>exact k6.out);rintro e w' ⟨rfl,⟨nd,rfl⟩⟩;refine ⟨_,rfl,?_⟩)|((with_reducible refine ar (b:=.append) (xs:=#[.tmp 34,.tmp 37]) rfl ?_);(try (refine gate_guard (by rfl) ?_;dsimp only));at_builtin;refine aw (am .u64) (w0:=w) w.heap.size rfl (.tmp 34) (.tmp 37) 49 60 (.int .u64 0) 8 rfl Try.underlying49 info60 rfl (by decide) (by omega) u5 x5_1 (Int.tmod (aa.wrap ((aa.wrap (Y + X)) + x6_1)) 65536) [.int .u64 (Int.tmod (aa.wrap ((aa.wrap (Y + X)) + x6_1)) 65536)] (fun _=>True) (fun _=>False) rfl rfl ?aP (fun _ hk=>hk.elim) ?aF ?aO ?aB ?aS ?aL ?_;(case aP=>exact rfl);(case aB=>exact (kw HB.out));(case aF=>exact (fun _ _=>trivial));(case aO=>exact (kr B.out));(case aS=>exact (ac (kw HB.out)));(case aL=>have:=LMc9.out;omega);intro o6 k5 ho hb hg hat;rw [← Ny502.out] at ho;replace HB:=ka (hb);have i1:=ka (ho);clear B;clear ho hb hg hat))
       go_roundg kj2
       case measure=>have:=HK1.out;have:=i7.out;omega
       case rel=>exact ⟨(y502),(aa.wrap (Int.tdiv (aa.wrap ((aa.wrap (Y + X)) + x6_1)) 65536)),(wrap64 (x7_1 + 1)),(by first|rfl|(simp;done)|(simp [*];done)),(by first|rfl|(simp;done)|(simp [*];done)),H',⟨by have:=HK1.out;have:=i7.out;omega⟩,⟨kr i1.out⟩,⟨by repeat (first|(with_reducible first|exact HB.out|apply kc1|apply kc2|apply kc3)|exact HB.out)⟩⟩
      ·rw [if_neg c9] at H
       exact absurd H (by simp)
     ·replace c6:=Bool.eq_false_iff.mpr c6;subst c6;have H1 : (some x5_1) = some r:=by rw [if_neg (show ¬ (false = true) by decide)] at H;exact H
      clear H;have H:=H1;clear H1;obtain rfl:=Option.some.inj H;go_wp2
      go_ret
      exact ⟨_,by first|rfl|(simp [errW_none,errW_some] <;> rfl)|(simp [*,errW_none,errW_some] <;> rfl),by (with_reducible repeat (first|apply Kd.R_alloc|apply Kd.R_drewN|apply Kd.R_drew));exact B.out,by repeat (first|(with_reducible first|exact HB.out|apply kc1|apply kc2|apply kc3)|exact HB.out)⟩
theorem trivetref01_plus.step (k : Nat) (a b acc : List Int) (c : Int) (i : Nat) (ha : U.Dg a) (hb : U.Dg b) (hc : 0≤c∧c≤1) (hi : i < 1000000) (hl : acc.length < 1000000) : trivetref01_plus.j1 (k + 1) a b acc c i true = trivetref01_plus.l0 k a b (acc ++ [(a.getD i 0 + b.getD i 0 + c) % 65536]) ((a.getD i 0 + b.getD i 0 + c) / 65536) ((i + 1 : Nat) : Int):=by
 have ga:=ha.get i;have gb:=hb.get i;simp only [trivetref01_plus.j1]
 rw [if_pos trivial,trivetref01_at.num,ad,trivetref01_at.num,ad,if_pos (by omega)]
 generalize a.getD i 0 = x at *;generalize b.getD i 0 = y at *;rw [M.wrapu_id (n:=x + y) (by omega) (by omega),M.wrapu_id (n:=x + y + c) (by omega) (by omega),M.tdivu (show 0≤x + y + c by omega),M.tmodu (show 0≤x + y + c by omega),M.wrapu_id (n:=(x + y + c) / 65536) (by omega) (by omega),M.w64_id (n:=(i : Int) + 1) (by omega) (by omega)]
 rfl
theorem trivetref01_plus.loop (n : Nat) : ∀ (k : Nat) (a b acc : List Int) (c : Int) (i : Nat),U.Dg a→U.Dg b→U.Dg acc→0≤c∧c≤1→a.length≤i + n→b.length≤i + n→(a.length = i + n∨b.length = i + n)→acc.length = i→i + n < 500000→2 * n + 4≤k→
  ∃ out,trivetref01_plus.l0 k a b acc c i = some out∧U.Dg out∧U.val out = U.val acc + 65536 ^ i * (U.val (a.drop i) + U.val (b.drop i) + c)∧out.length≤i + n + 1:=by
 induction n with
 | zero=>
  intro k a b acc c i ha hb hacc hc la lb lab hl hi hk;obtain ⟨j,rfl⟩ : ∃ j,k = j + 2 + 2:=⟨k - 4,by omega⟩
  rw [List.drop_eq_nil_of_le (by omega),List.drop_eq_nil_of_le (by omega)]
  simp only [trivetref01_plus.l0]
  rw [if_neg (by omega),if_neg (by omega)]
  by_cases h : c > 0
  ·rw [decide_eq_true h,show j + 2 + 1 = (j + 2) + 1 from rfl,trivetref01_plus.step _ _ _ _ _ _ ha hb hc (by omega) (by omega)]
   have e1 : a.getD i 0 = 0:=by rw [List.getD_eq_getElem?_getD,List.getElem?_eq_none (by omega)];rfl
   have e2 : b.getD i 0 = 0:=by rw [List.getD_eq_getElem?_getD,List.getElem?_eq_none (by omega)];rfl
   have ec : c = 1:=by omega
   subst ec;rw [e1,e2]
   simp only [trivetref01_plus.l0]
   rw [if_neg (by omega),if_neg (by omega),decide_eq_false (by decide)]
   simp only [trivetref01_plus.j1]
   rw [if_neg (by decide)]
   refine ⟨_,rfl,hacc.add (U.Dg.one (by decide)),?_,by simp;omega⟩;rw [U.val_append,U.val_one,hl]
   simp [U.val]
  ·have ec : c = 0:=by omega
   subst ec;rw [decide_eq_false h]
   simp only [trivetref01_plus.j1]
   rw [if_neg (by decide)]
   exact ⟨_,rfl,hacc,by simp [U.val],by omega⟩
 | succ n ih=>
  intro k a b acc c i ha hb hacc hc la lb lab hl hi hk;obtain ⟨j,rfl⟩ : ∃ j,k = j + 1 + 1:=⟨k - 2,by omega⟩
  have e : trivetref01_plus.l0 (j + 1 + 1) a b acc c i = trivetref01_plus.j1 (j + 1) a b acc c i true:=by
   simp only [trivetref01_plus.l0]
   by_cases h : (i : Int) < a.length
   ·rw [if_pos h]
   ·rw [if_neg h,if_pos (by omega)]
  have ga:=ha.get i;have gb:=hb.get i;obtain ⟨out,o1,o2,o3,o4⟩:=ih j a b (acc ++ [(a.getD i 0 + b.getD i 0 + c) % 65536]) ((a.getD i 0 + b.getD i 0 + c) / 65536) (i + 1) ha hb (hacc.add (U.Dg.one (by omega))) (by omega) (by omega) (by omega) (by omega) (by simp;omega) (by omega) (by omega);refine ⟨out,?_,o2,?_,by omega⟩
  ·rw [e,trivetref01_plus.step _ _ _ _ _ _ ha hb hc (by omega) (by omega),o1]
  ·rw [o3,U.val_append,U.val_one,hl,U.pow_succ,U.drop_step a i,U.drop_step b i]
   generalize a.getD i 0 = x at *;generalize b.getD i 0 = y at *;have hx : (x + y + c) % 65536 + 65536 * ((x + y + c) / 65536) = x + y + c:=by omega
   generalize (x + y + c) % 65536 = r at *;generalize (x + y + c) / 65536 = q at *;generalize U.val (a.drop (i + 1)) = u;generalize U.val (b.drop (i + 1)) = v;have : x + 65536 * u + (y + 65536 * v) + c = r + 65536 * (u + v + q):=by omega
   rw [this]
   generalize u + v + q = s;generalize (65536 : Int) ^ i = p;rw [Int.mul_add,Int.mul_comm 65536 p,Int.mul_assoc,Int.add_assoc]
theorem trivetref01_plus.num (k : Nat) (a b : List Int) (ha : U.Dg a) (hb : U.Dg b) (la : a.length≤1000) (lb : b.length≤1000) (hk : 2 * a.length + 2 * b.length + 4≤k) :
  ∃ out,trivetref01_plus.f k a b = some out∧U.Dg out∧U.val out = U.val a + U.val b∧out.length≤max a.length b.length + 1:=by
 obtain ⟨out,o1,o2,o3,o4⟩:=trivetref01_plus.loop (max a.length b.length) k a b [] 0 0 ha hb U.Dg.nil (by omega) (by omega) (by omega) (by omega) rfl (by omega) (by omega);refine ⟨out,o1,o2,?_,by omega⟩;rw [o3]
 simp [U.val]
mutual
def trivetref01_Mul.l0 : Nat→List Int→Int→List Int→Bool→List Int→Bool→Option (List Int × Bool)
 | 0,_,_,_,_,_,_=>none
 | k + 1,x5,x6,x506000,x506001,x507000,x507001=>if x6 < (x506000.length : Int) then (if 0≤x6 then (if (x6 : Int).toNat≤35184372088832 then (trivetref01_Mul.l1 k x5 x6 (List.replicate (x6 : Int).toNat 0) 0 0 x506000 x506001 x507000 x507001) else (none)) else (none)) else ((trivetref01_norm.f k x5 (!(x506001 == x507001))).bind fun f3=>(some (f3.1,f3.2)))
def trivetref01_Mul.l1 : Nat→List Int→Int→List Int→Int→Int→List Int→Bool→List Int→Bool→Option (List Int × Bool)
 | 0,_,_,_,_,_,_,_,_,_=>none
 | k + 1,x5,x6,x7,x8,x9,x506000,x506001,x507000,x507001=>if x9 < (x507000.length : Int) then (if 0≤x6 then (if x6 < (x506000.length : Int) then (if 0≤x9 then (if x7.length < 17592186044416 then (trivetref01_Mul.l1 k x5 x6 (x7 ++ [Int.tmod (aa.wrap ((aa.wrap ((rd x506000 x6) * (rd x507000 x9))) + x8)) 65536]) (aa.wrap (Int.tdiv (aa.wrap ((aa.wrap ((rd x506000 x6) * (rd x507000 x9))) + x8)) 65536)) (wrap64 (x9 + 1)) x506000 x506001 x507000 x507001) else (none)) else (none)) else (none)) else (none)) else (if x7.length < 17592186044416 then ((trivetref01_plus.f k x5 (x7 ++ [x8])).bind fun b3=>(trivetref01_Mul.l0 k b3 (wrap64 (x6 + 1)) x506000 x506001 x507000 x507001)) else (none))
end
def trivetref01_Mul.f (k : Nat) (l0_0 : List Int) (a0_1 : Bool) (l1_0 : List Int) (a1_1 : Bool) : Option (List Int × Bool):=trivetref01_Mul.l0 k ([] : List Int) 0 l0_0 a0_1 l1_0 a1_1
theorem trivetref01_Mul.calls (k : Nat) (A0_0 : Option Addr) (c0_0 : Nat) (l0_0 : List Int) (a0_1 : Bool) (A1_0 : Option Addr) (c1_0 : Nat) (l1_0 : List Int) (a1_1 : Bool) (r1 : List Int) (r2 : Bool) (w : World) (hr0_0 : Kd.C (am .u64) w A0_0 l0_0.length l0_0) (hc0_0 : l0_0.length≤c0_0) (hr1_0 : Kd.C (am .u64) w A1_0 l1_0.length l1_0) (hc1_0 : l1_0.length≤c1_0) (h : trivetref01_Mul.f k l0_0 a0_1 l1_0 a1_1 = some (r1,r2)) :
  Calls Try.prog 25 #[.agg #[.slice A0_0 l0_0.length c0_0,.bool a0_1],.agg #[.slice A1_0 l1_0.length c1_0,.bool a1_1]] w fun e w'=>∃ v0_ : Value,e = .returned (.agg #[v0_,.bool r2])∧Kd.V (am .u64) 60 w' w.heap.size (fun D=>(w.heap.size≤D)) v0_ r1∧Below w.heap.size w w':=by
 have hu51:=Try.underlying51;have HR0_0:=ka hr0_0;have HC0_0:=ka hc0_0;clear hr0_0 hc0_0;have HR1_0:=ka hr1_0;have HC1_0:=ka hc1_0;clear hr1_0 hc1_0;have HB:=ka (Below.refl w.heap.size w);have H : (trivetref01_Mul.l0 k ([] : List Int) 0 l0_0 a0_1 l1_0 a1_1) = some (r1,r2):=h;clear h;have H':=ka H;clear H;go_enter Try.func25,Try.ntmps25
 go_wp2_with (first|((with_reducible refine au (N:=2) rfl ?_);refine kx (N:=2) (cs:=#[.slice A0_0 l0_0.length c0_0,.bool a0_1]) (t:=51) ?_;intro E hg w3 hbox hb;have O:=ka (ae (kw HB.out) hb);have Q:=ka (hbox);have K:=ka ((by rw [hg];exact (ac (kw HB.out)) : w.heap.size≤E));have L:=K;clear HB;have HB:=O;have l:=Q;have f4:=K;have b4:=L;clear O Q K L;clear hb hbox hg)|((with_reducible refine au (N:=3) rfl ?_);refine kx (N:=3) (cs:=#[.slice A1_0 l1_0.length c1_0,.bool a1_1]) (t:=51) ?_;intro F hg w4 hbox hb;have O:=ka (aA (g:=E) (kz l.out) hb);have Q:=ka (ae (kw HB.out) hb);have K:=ka (hbox);have L:=ka ((by rw [hg];exact (ac (kw HB.out)) : w.heap.size≤F));have Z:=L;have a2:=ka ((by rw [hg];exact Nat.ne_of_lt (aM (g:=E) (kz l.out)) : E≠F));have a3:=ka a2.out.symm;clear l;clear HB;have l:=O;have HB:=Q;have o:=K;have f5:=L;have b5:=Z;have a4:=a2;have a5:=a3;clear O Q K L Z a2 a3;clear hb hbox hg)|((with_reducible refine au (N:=4) rfl ?_);refine kx (N:=4) (cs:=#[.slice none 0 0,.bool false]) (t:=51) ?_;intro G hg w5 hbox hb;have O:=ka (aA (g:=E) (kz l.out) hb);have Q:=ka (aA (g:=F) (kz o.out) hb);have K:=ka (ae (kw HB.out) hb);have L:=ka (hbox);have Z:=ka ((by rw [hg];exact (ac (kw HB.out)) : w.heap.size≤G));have a2:=Z;have a3:=ka ((by rw [hg];exact Nat.ne_of_lt (aM (g:=E) (kz l.out)) : E≠G));have d3:=ka a3.out.symm;have b7:=ka ((by rw [hg];exact Nat.ne_of_lt (aM (g:=F) (kz o.out)) : F≠G));have d4:=ka b7.out.symm;clear l;clear o;clear HB;have l:=O;have o:=Q;have HB:=K;have A:=L;have f6:=Z;have b6:=a2;have a7:=a3;have a8:=d3;have a9:=b7;have b0:=d4;clear O Q K L Z a2 a3 d3 b7 d4;clear hb hbox hg))
 repeat (go_quiet (first|((with_reducible refine au (N:=2) rfl ?_);refine kx (N:=2) (cs:=#[.slice A0_0 l0_0.length c0_0,.bool a0_1]) (t:=51) ?_;intro E hg w3 hbox hb;have O:=ka (ae (kw HB.out) hb);have Q:=ka (hbox);have K:=ka ((by rw [hg];exact (ac (kw HB.out)) : w.heap.size≤E));have L:=K;clear HB;have HB:=O;have l:=Q;have f4:=K;have b4:=L;clear O Q K L;clear hb hbox hg)|((with_reducible refine au (N:=3) rfl ?_);refine kx (N:=3) (cs:=#[.slice A1_0 l1_0.length c1_0,.bool a1_1]) (t:=51) ?_;intro F hg w4 hbox hb;have O:=ka (aA (g:=E) (kz l.out) hb);have Q:=ka (ae (kw HB.out) hb);have K:=ka (hbox);have L:=ka ((by rw [hg];exact (ac (kw HB.out)) : w.heap.size≤F));have Z:=L;have a2:=ka ((by rw [hg];exact Nat.ne_of_lt (aM (g:=E) (kz l.out)) : E≠F));have a3:=ka a2.out.symm;clear l;clear HB;have l:=O;have HB:=Q;have o:=K;have f5:=L;have b5:=Z;have a4:=a2;have a5:=a3;clear O Q K L Z a2 a3;clear hb hbox hg)|((with_reducible refine au (N:=4) rfl ?_);refine kx (N:=4) (cs:=#[.slice none 0 0,.bool false]) (t:=51) ?_;intro G hg w5 hbox hb;have O:=ka (aA (g:=E) (kz l.out) hb);have Q:=ka (aA (g:=F) (kz o.out) hb);have K:=ka (ae (kw HB.out) hb);have L:=ka (hbox);have Z:=ka ((by rw [hg];exact (ac (kw HB.out)) : w.heap.size≤G));have a2:=Z;have a3:=ka ((by rw [hg];exact Nat.ne_of_lt (aM (g:=E) (kz l.out)) : E≠G));have d3:=ka a3.out.symm;have b7:=ka ((by rw [hg];exact Nat.ne_of_lt (aM (g:=F) (kz o.out)) : F≠G));have d4:=ka b7.out.symm;clear l;clear o;clear HB;have l:=O;have o:=Q;have HB:=K;have A:=L;have f6:=Z;have b6:=a2;have a7:=a3;have a8:=d3;have a9:=b7;have b0:=d4;clear O Q K L Z a2 a3 d3 b7 d4;clear hb hbox hg));try go_wp2_with (first|((with_reducible refine au (N:=2) rfl ?_);refine kx (N:=2) (cs:=#[.slice A0_0 l0_0.length c0_0,.bool a0_1]) (t:=51) ?_;intro E hg w3 hbox hb;have O:=ka (ae (kw HB.out) hb);have Q:=ka (hbox);have K:=ka ((by rw [hg];exact (ac (kw HB.out)) : w.heap.size≤E));have L:=K;clear HB;have HB:=O;have l:=Q;have f4:=K;have b4:=L;clear O Q K L;clear hb hbox hg)|((with_reducible refine au (N:=3) rfl ?_);refine kx (N:=3) (cs:=#[.slice A1_0 l1_0.length c1_0,.bool a1_1]) (t:=51) ?_;intro F hg w4 hbox hb;have O:=ka (aA (g:=E) (kz l.out) hb);have Q:=ka (ae (kw HB.out) hb);have K:=ka (hbox);have L:=ka ((by rw [hg];exact (ac (kw HB.out)) : w.heap.size≤F));have Z:=L;have a2:=ka ((by rw [hg];exact Nat.ne_of_lt (aM (g:=E) (kz l.out)) : E≠F));have a3:=ka a2.out.symm;clear l;clear HB;have l:=O;have HB:=Q;have o:=K;have f5:=L;have b5:=Z;have a4:=a2;have a5:=a3;clear O Q K L Z a2 a3;clear hb hbox hg)|((with_reducible refine au (N:=4) rfl ?_);refine kx (N:=4) (cs:=#[.slice none 0 0,.bool false]) (t:=51) ?_;intro G hg w5 hbox hb;have O:=ka (aA (g:=E) (kz l.out) hb);have Q:=ka (aA (g:=F) (kz o.out) hb);have K:=ka (ae (kw HB.out) hb);have L:=ka (hbox);have Z:=ka ((by rw [hg];exact (ac (kw HB.out)) : w.heap.size≤G));have a2:=Z;have a3:=ka ((by rw [hg];exact Nat.ne_of_lt (aM (g:=E) (kz l.out)) : E≠G));have d3:=ka a3.out.symm;have b7:=ka ((by rw [hg];exact Nat.ne_of_lt (aM (g:=F) (kz o.out)) : F≠G));have d4:=ka b7.out.symm;clear l;clear o;clear HB;have l:=O;have o:=Q;have HB:=K;have A:=L;have f6:=Z;have b6:=a2;have a7:=a3;have a8:=d3;have a9:=b7;have b0:=d4;clear O Q K L Z a2 a3 d3 b7 d4;clear hb hbox hg)))
 (try simp only [Act.put,ai,ap,aq]);go_loopg [5,6] k (fun kq v5 v6 w'=>∃ (x5_1 : List Int) (x6_1 : Int),v6 = .int .i64 x6_1∧ah (trivetref01_Mul.l0 kq x5_1 x6_1 l0_0 a0_1 l1_0 a1_1 = some (r1,r2))∧ah (kq≤k)∧ah (Kd.R (am .u64) 60 w' w.heap.size (fun D=>(w.heap.size≤D)) v5 x5_1)∧ah (w'.heap[E]? = some (.cells #[(.slice A0_0 l0_0.length c0_0),.bool a0_1] 51 (0,0)))∧ah (w'.heap[F]? = some (.cells #[(.slice A1_0 l1_0.length c1_0),.bool a1_1] 51 (0,0)))∧ah (w'.heap[G]? = some (.cells #[(.slice none 0 0),.bool false] 51 (0,0)))∧ah (Below w.heap.size w w'))
 case atStart=>exact ⟨(([] : List Int)),(0),(by first|rfl|(simp;done)|(simp [*];done)),H',⟨aj _⟩,⟨by first|exact Kd.R_nil _ _ _ _ _|exact Kd.N_nil _ _ _ _ _|exact Kd.V_nil _ _ _ _ _|exact Kd.Q_nil _ _ _ _ _|exact Kd.S_nil _ _ _ _ _⟩,⟨by (with_reducible repeat (first|apply kb1|apply kb2|apply kb3));exact l.out⟩,⟨by (with_reducible repeat (first|apply kb1|apply kb2|apply kb3));exact o.out⟩,⟨by (with_reducible repeat (first|apply kb1|apply kb2|apply kb3));exact A.out⟩,⟨by repeat (first|(with_reducible first|exact HB.out|apply kc1|apply kc2|apply kc3|refine kc4 ?_ b4.out|refine kc4 ?_ b5.out|refine kc4 ?_ b6.out)|exact HB.out)⟩⟩
 case round=>
  clear H';try clear c1
  obtain ⟨x5_1,x6_1,rfl,HA,HK1,B,l,o,A,HB⟩:=hrel;cases gk with
  | zero=>exact absurd HA.out (by simp [trivetref01_Mul.l0])
  | succ k1=>
   have H:=HA.out;clear HA;simp only [trivetref01_Mul.l0] at H
   by_cases c6 : x6_1 < (l0_0.length : Int)
   ·rw [if_pos c6] at H
    have c6b0 : decide (x6_1 < (l0_0.length : Int)) = true:=decide_eq_true c6;clear c6;by_cases c7 : 0≤x6_1
    ·rw [if_pos c7] at H
     have c7b0:=eq_true c7;have c7b1 : decide (0≤x6_1) = true:=decide_eq_true c7;clear c7;by_cases c8 : (x6_1 : Int).toNat≤35184372088832
     ·rw [if_pos c8] at H
      have c8b0:=eq_true c8;have c8b1 : decide ((x6_1 : Int).toNat≤35184372088832) = true:=decide_eq_true c8;clear c8;obtain ⟨y512,hy512⟩ : ∃ y_ : List Int,y_ = (List.replicate (x6_1 : Int).toNat 0):=⟨_,rfl⟩
      replace H : (trivetref01_Mul.l1 k1 x5_1 x6_1 y512 0 0 l0_0 a0_1 l1_0 a1_1) = some (r1,r2):=by first|(rw [hy512];with_reducible exact H)|(have H2_:=(ad _ _).symm.trans H;rw [hy512];with_reducible exact H2_)|(have H2_:=(ad _ _).symm.trans H;with_reducible exact H2_)|with_reducible exact H|(rw [hy512];exact H)|exact H
      have Ny512:=ka hy512;clear hy512;have H':=ka H;clear H;have o7:=a4.out;have o8:=a5.out;have l3:=a7.out;have l4:=a8.out;have i2:=blkAll2 l.out;go_wp2_with (first|((with_reducible refine au (N:=19) rfl ?_);refine Kd.R_make (am .u64) _ 60 rfl (N:=19) rfl 49 _ _ rfl x6_1 rfl rfl Try.underlying49 (.int .u64 0) 8 info60 rfl (by decide) (by omega) 0 (ok:=fun _=>True) (okp:=fun _=>True) rfl (fun _ hk=>hk) trivial (of_decide_eq_true (by first|(with_reducible assumption)|assumption)) (af (Nat.mul_le_mul_right _ (of_decide_eq_true (by first|(with_reducible assumption)|assumption) : x6_1.toNat≤35184372088832)) (by omega)) (Below.refl _ _) (aj _) ?_;intro g5 i9 ho13 hb hg_ hnew_;clear hg_ hnew_;(first|rw [← Ny512.out] at ho13|(simp only [Int.reduceToNat] at ho13;rw [← Ny512.out] at ho13));have e0:=ka (aH (aC (aJ (M:=fun D=>(w.heap.size≤D)) ho13 (ac (kw HB.out)) (fun D h_=>h_)) (av (kr B.out))) (ac (kw HB.out)));replace B:=ka (ao (kr B.out) (aD ho13) hb);replace l:=kbb l hb;replace o:=kbb o hb;replace A:=kbb A hb;replace HB:=ka (ae (kw HB.out) hb);clear hb ho13))
      repeat (go_quiet (first|((with_reducible refine au (N:=19) rfl ?_);refine Kd.R_make (am .u64) _ 60 rfl (N:=19) rfl 49 _ _ rfl x6_1 rfl rfl Try.underlying49 (.int .u64 0) 8 info60 rfl (by decide) (by omega) 0 (ok:=fun _=>True) (okp:=fun _=>True) rfl (fun _ hk=>hk) trivial (of_decide_eq_true (by first|(with_reducible assumption)|assumption)) (af (Nat.mul_le_mul_right _ (of_decide_eq_true (by first|(with_reducible assumption)|assumption) : x6_1.toNat≤35184372088832)) (by omega)) (Below.refl _ _) (aj _) ?_;intro g5 i9 ho13 hb hg_ hnew_;clear hg_ hnew_;(first|rw [← Ny512.out] at ho13|(simp only [Int.reduceToNat] at ho13;rw [← Ny512.out] at ho13));have e0:=ka (aH (aC (aJ (M:=fun D=>(w.heap.size≤D)) ho13 (ac (kw HB.out)) (fun D h_=>h_)) (av (kr B.out))) (ac (kw HB.out)));replace B:=ka (ao (kr B.out) (aD ho13) hb);replace l:=kbb l hb;replace o:=kbb o hb;replace A:=kbb A hb;replace HB:=ka (ae (kw HB.out) hb);clear hb ho13));try go_wp2_with (first|((with_reducible refine au (N:=19) rfl ?_);refine Kd.R_make (am .u64) _ 60 rfl (N:=19) rfl 49 _ _ rfl x6_1 rfl rfl Try.underlying49 (.int .u64 0) 8 info60 rfl (by decide) (by omega) 0 (ok:=fun _=>True) (okp:=fun _=>True) rfl (fun _ hk=>hk) trivial (of_decide_eq_true (by first|(with_reducible assumption)|assumption)) (af (Nat.mul_le_mul_right _ (of_decide_eq_true (by first|(with_reducible assumption)|assumption) : x6_1.toNat≤35184372088832)) (by omega)) (Below.refl _ _) (aj _) ?_;intro g5 i9 ho13 hb hg_ hnew_;clear hg_ hnew_;(first|rw [← Ny512.out] at ho13|(simp only [Int.reduceToNat] at ho13;rw [← Ny512.out] at ho13));have e0:=ka (aH (aC (aJ (M:=fun D=>(w.heap.size≤D)) ho13 (ac (kw HB.out)) (fun D h_=>h_)) (av (kr B.out))) (ac (kw HB.out)));replace B:=ka (ao (kr B.out) (aD ho13) hb);replace l:=kbb l hb;replace o:=kbb o hb;replace A:=kbb A hb;replace HB:=ka (ae (kw HB.out) hb);clear hb ho13)))
      (try simp only [Act.put,ai,ap,aq]);go_loopg [7,8,9] k1 (fun kq v7 v8 v9 w'=>∃ (x7_2 : List Int) (x8_2 : Int) (x9_2 : Int),v8 = .int .u64 x8_2∧v9 = .int .i64 x9_2∧ah (trivetref01_Mul.l1 kq x5_1 x6_1 x7_2 x8_2 x9_2 l0_0 a0_1 l1_0 a1_1 = some (r1,r2))∧ah (kq≤k1)∧ah (Kd.R (am .u64) 60 w' w.heap.size (fun D=>(w.heap.size≤D)∧some D≠(v7 : Value).ownBlock) u5 x5_1)∧ah (Kd.R (am .u64) 60 w' w.heap.size (fun D=>(w.heap.size≤D)∧some D≠(u5 : Value).ownBlock) v7 x7_2)∧ah (w'.heap[E]? = some (.cells #[(.slice A0_0 l0_0.length c0_0),.bool a0_1] 51 (0,0)))∧ah (w'.heap[F]? = some (.cells #[(.slice A1_0 l1_0.length c1_0),.bool a1_1] 51 (0,0)))∧ah (w'.heap[G]? = some (.cells #[(.slice none 0 0),.bool false] 51 (0,0)))∧ah (Below w.heap.size w w'))
      case atStart=>exact ⟨(y512),(0),(0),(by first|rfl|(simp;done)|(simp [*];done)),(by first|rfl|(simp;done)|(simp [*];done)),H',⟨aj _⟩,⟨kr B.out⟩,⟨kr (Kd.R_mono e0.out (fun _ hk=>⟨hk.1.1,hk.2⟩))⟩,⟨by (with_reducible repeat (first|apply kb1|apply kb2|apply kb3));exact l.out⟩,⟨by (with_reducible repeat (first|apply kb1|apply kb2|apply kb3));exact o.out⟩,⟨by (with_reducible repeat (first|apply kb1|apply kb2|apply kb3));exact A.out⟩,⟨by repeat (first|(with_reducible first|exact HB.out|apply kc1|apply kc2|apply kc3|refine kc4 ?_ b4.out|refine kc4 ?_ b5.out|refine kc4 ?_ b6.out)|exact HB.out)⟩⟩
      case round=>
       clear H';try clear c1
       try clear c6
       try clear c6b0
       try clear c7
       try clear c7b0
       try clear c7b1
       try clear c8
       try clear c8b0
       try clear c8b1
       try clear i2
       obtain ⟨x7_2,x8_2,x9_2,rfl,rfl,HA,HK2,B,I,l,o,A,HB⟩:=hrel;cases gk with
       | zero=>exact absurd HA.out (by simp [trivetref01_Mul.l1])
       | succ k2=>
        have H:=HA.out;clear HA;simp only [trivetref01_Mul.l1] at H
        by_cases c14 : x9_2 < (l1_0.length : Int)
        ·rw [if_pos c14] at H
         have c14b0 : decide (x9_2 < (l1_0.length : Int)) = true:=decide_eq_true c14;clear c14;by_cases c15 : 0≤x6_1
         ·rw [if_pos c15] at H
          have c15b0 : decide (0≤x6_1) = true:=decide_eq_true c15;clear c15;by_cases c16 : x6_1 < (l0_0.length : Int)
          ·rw [if_pos c16] at H
           have c16b0 : decide (x6_1 < (l0_0.length : Int)) = true:=decide_eq_true c16;clear c16;by_cases c17 : 0≤x9_2
           ·rw [if_pos c17] at H
            have c17b0 : decide (0≤x9_2) = true:=decide_eq_true c17;clear c17;by_cases c18 : x7_2.length < 17592186044416
            ·rw [if_pos c18] at H
             have LMc18:=ka c18;clear c18;obtain ⟨y517,hy517⟩ : ∃ y_ : List Int,y_ = (x7_2 ++ [Int.tmod (aa.wrap ((aa.wrap ((rd l0_0 x6_1) * (rd l1_0 x9_2))) + x8_2)) 65536]):=⟨_,rfl⟩
             replace H : (trivetref01_Mul.l1 k2 x5_1 x6_1 y517 (aa.wrap (Int.tdiv (aa.wrap ((aa.wrap ((rd l0_0 x6_1) * (rd l1_0 x9_2))) + x8_2)) 65536)) (wrap64 (x9_2 + 1)) l0_0 a0_1 l1_0 a1_1) = some (r1,r2):=by first|(rw [hy517];with_reducible exact H)|(have H2_:=(ad _ _).symm.trans H;rw [hy517];with_reducible exact H2_)|(have H2_:=(ad _ _).symm.trans H;with_reducible exact H2_)|with_reducible exact H|(rw [hy517];exact H)|exact H
             have Ny517:=ka hy517;clear hy517;have H':=ka H;clear H;have l5:=a5.out;have l6:=a4.out;have l7:=a9.out;have l8:=b0.out;have l9:=blkAll2 o.out;have m0:=a7.out;have m1:=a8.out;have m2:=blkAll2 l.out;have p515 : 0≤(x6_1 : Int):=of_decide_eq_true (by first|(with_reducible assumption)|assumption);have q515 : x6_1 < (l0_0.length : Int):=of_decide_eq_true (by first|(with_reducible assumption)|assumption);obtain ⟨ad515,e515,hx515_0⟩:=Kd.at_int HR0_0.out x6_1 p515 q515;cases e515
             replace hx515_0:=(HB.out.cell (World.block_lt_of_cell? w _ hx515_0)).trans hx515_0;replace p515:=eq_true p515;replace q515:=eq_true q515;have p516 : 0≤(x9_2 : Int):=of_decide_eq_true (by first|(with_reducible assumption)|assumption);have q516 : x9_2 < (l1_0.length : Int):=of_decide_eq_true (by first|(with_reducible assumption)|assumption);obtain ⟨ad516,e516,hx516_0⟩:=Kd.at_int HR1_0.out x9_2 p516 q516;cases e516
             replace hx516_0:=(HB.out.cell (World.block_lt_of_cell? w _ hx516_0)).trans hx516_0;replace p516:=eq_true p516;replace q516:=eq_true q516;go_wp2_with (first|((with_reducible refine ar (b:=.append) (xs:=#[.tmp 40,.tmp 43]) rfl ?_);at_builtin;refine aw (am .u64) (w0:=w) w.heap.size rfl (.tmp 40) (.tmp 43) 49 60 (.int .u64 0) 8 rfl Try.underlying49 info60 rfl (by decide) (by omega) u7 x7_2 (Int.tmod (aa.wrap ((aa.wrap ((rd l0_0 x6_1) * (rd l1_0 x9_2))) + x8_2)) 65536) [.int .u64 (Int.tmod (aa.wrap ((aa.wrap ((rd l0_0 x6_1) * (rd l1_0 x9_2))) + x8_2)) 65536)] (fun D=>(w.heap.size≤D)∧some D≠(u5 : Value).ownBlock) (fun _=>False) rfl rfl ?aP (fun _ hk=>hk.elim) ?aF ?aO ?aB ?aS ?aL ?_;(case aP=>exact rfl);(case aB=>exact (kw HB.out));(case aF=>exact (fun D hk=>⟨(af (ac (kw HB.out)) hk),aK (av (kr B.out)) D hk⟩));(case aO=>exact (kr I.out));(case aS=>exact (ac (kw HB.out)));(case aL=>have:=LMc18.out;omega);intro g6 j2 ho hb hg hat;rw [← Ny517.out] at ho;replace B:=ka (aI (ok:=(fun D=>(w.heap.size≤D))) (kr B.out) hg hat);replace l:=ka (ag (g:=E) (kz l.out) hg (an I.out l.out (by decide)));replace o:=ka (ag (g:=F) (kz o.out) hg (an I.out o.out (by decide)));replace A:=ka (ag (g:=G) (kz A.out) hg (an I.out A.out (by decide)));replace HB:=ka (hb);have e3:=ka (ho);clear I;clear ho hb hg hat))
             repeat (go_quiet (first|((with_reducible refine ar (b:=.append) (xs:=#[.tmp 40,.tmp 43]) rfl ?_);at_builtin;refine aw (am .u64) (w0:=w) w.heap.size rfl (.tmp 40) (.tmp 43) 49 60 (.int .u64 0) 8 rfl Try.underlying49 info60 rfl (by decide) (by omega) u7 x7_2 (Int.tmod (aa.wrap ((aa.wrap ((rd l0_0 x6_1) * (rd l1_0 x9_2))) + x8_2)) 65536) [.int .u64 (Int.tmod (aa.wrap ((aa.wrap ((rd l0_0 x6_1) * (rd l1_0 x9_2))) + x8_2)) 65536)] (fun D=>(w.heap.size≤D)∧some D≠(u5 : Value).ownBlock) (fun _=>False) rfl rfl ?aP (fun _ hk=>hk.elim) ?aF ?aO ?aB ?aS ?aL ?_;(case aP=>exact rfl);(case aB=>exact (kw HB.out));(case aF=>exact (fun D hk=>⟨(af (ac (kw HB.out)) hk),aK (av (kr B.out)) D hk⟩));(case aO=>exact (kr I.out));(case aS=>exact (ac (kw HB.out)));(case aL=>have:=LMc18.out;omega);intro g6 j2 ho hb hg hat;rw [← Ny517.out] at ho;replace B:=ka (aI (ok:=(fun D=>(w.heap.size≤D))) (kr B.out) hg hat);replace l:=ka (ag (g:=E) (kz l.out) hg (an I.out l.out (by decide)));replace o:=ka (ag (g:=F) (kz o.out) hg (an I.out o.out (by decide)));replace A:=ka (ag (g:=G) (kz A.out) hg (an I.out A.out (by decide)));replace HB:=ka (hb);have e3:=ka (ho);clear I;clear ho hb hg hat));try go_wp2_with (first|((with_reducible refine ar (b:=.append) (xs:=#[.tmp 40,.tmp 43]) rfl ?_);at_builtin;refine aw (am .u64) (w0:=w) w.heap.size rfl (.tmp 40) (.tmp 43) 49 60 (.int .u64 0) 8 rfl Try.underlying49 info60 rfl (by decide) (by omega) u7 x7_2 (Int.tmod (aa.wrap ((aa.wrap ((rd l0_0 x6_1) * (rd l1_0 x9_2))) + x8_2)) 65536) [.int .u64 (Int.tmod (aa.wrap ((aa.wrap ((rd l0_0 x6_1) * (rd l1_0 x9_2))) + x8_2)) 65536)] (fun D=>(w.heap.size≤D)∧some D≠(u5 : Value).ownBlock) (fun _=>False) rfl rfl ?aP (fun _ hk=>hk.elim) ?aF ?aO ?aB ?aS ?aL ?_;(case aP=>exact rfl);(case aB=>exact (kw HB.out));(case aF=>exact (fun D hk=>⟨(af (ac (kw HB.out)) hk),aK (av (kr B.out)) D hk⟩));(case aO=>exact (kr I.out));(case aS=>exact (ac (kw HB.out)));(case aL=>have:=LMc18.out;omega);intro g6 j2 ho hb hg hat;rw [← Ny517.out] at ho;replace B:=ka (aI (ok:=(fun D=>(w.heap.size≤D))) (kr B.out) hg hat);replace l:=ka (ag (g:=E) (kz l.out) hg (an I.out l.out (by decide)));replace o:=ka (ag (g:=F) (kz o.out) hg (an I.out o.out (by decide)));replace A:=ka (ag (g:=G) (kz A.out) hg (an I.out A.out (by decide)));replace HB:=ka (hb);have e3:=ka (ho);clear I;clear ho hb hg hat)))
             go_roundg k2
             case measure=>have:=HK1.out;have:=HK2.out;omega
             case rel=>exact ⟨(y517),(aa.wrap (Int.tdiv (aa.wrap ((aa.wrap ((rd l0_0 x6_1) * (rd l1_0 x9_2))) + x8_2)) 65536)),(wrap64 (x9_2 + 1)),(by first|rfl|(simp;done)|(simp [*];done)),(by first|rfl|(simp;done)|(simp [*];done)),H',⟨by have:=HK1.out;have:=HK2.out;omega⟩,⟨kr B.out⟩,⟨kr e3.out⟩,⟨by (with_reducible repeat (first|apply kb1|apply kb2|apply kb3));exact l.out⟩,⟨by (with_reducible repeat (first|apply kb1|apply kb2|apply kb3));exact o.out⟩,⟨by (with_reducible repeat (first|apply kb1|apply kb2|apply kb3));exact A.out⟩,⟨by repeat (first|(with_reducible first|exact HB.out|apply kc1|apply kc2|apply kc3|refine kc4 ?_ b4.out|refine kc4 ?_ b5.out|refine kc4 ?_ b6.out)|exact HB.out)⟩⟩
            ·rw [if_neg c18] at H
             exact absurd H (by simp)
           ·rw [if_neg c17] at H
            exact absurd H (by simp)
          ·rw [if_neg c16] at H
           exact absurd H (by simp)
         ·rw [if_neg c15] at H
          exact absurd H (by simp)
        ·rw [if_neg c14] at H
         have c14b0 : decide (x9_2 < (l1_0.length : Int)) = false:=decide_eq_false c14;clear c14;by_cases c25 : x7_2.length < 17592186044416
         ·rw [if_pos c25] at H
          have LMc25:=ka c25;clear c25;obtain ⟨y520,hy520⟩ : ∃ y_ : List Int,y_ = (x7_2 ++ [x8_2]):=⟨_,rfl⟩
          replace H : ((trivetref01_plus.f k2 x5_1 y520).bind fun b3=>(trivetref01_Mul.l0 k2 b3 (wrap64 (x6_1 + 1)) l0_0 a0_1 l1_0 a1_1)) = some (r1,r2):=by first|(rw [hy520];with_reducible exact H)|(have H2_:=(ad _ _).symm.trans H;rw [hy520];with_reducible exact H2_)|(have H2_:=(ad _ _).symm.trans H;with_reducible exact H2_)|with_reducible exact H|(rw [hy520];exact H)|exact H
          have Ny520:=ka hy520;clear hy520;replace H:=al.mp H;obtain ⟨b3,g7,H⟩:=H;replace H : (trivetref01_Mul.l0 k2 b3 (wrap64 (x6_1 + 1)) l0_0 a0_1 l1_0 a1_1) = some (r1,r2):=H;have g8:=ka g7;clear g7;have H':=ka H;clear H;have m3:=a5.out;have m4:=a4.out;have m5:=a9.out;have m6:=b0.out;have m7:=blkAll2 o.out;go_wp2_with (first|((with_reducible refine ar (b:=.append) (xs:=#[.tmp 47,.tmp 49]) rfl ?_);at_builtin;refine aw (am .u64) (w0:=w) w.heap.size rfl (.tmp 47) (.tmp 49) 49 60 (.int .u64 0) 8 rfl Try.underlying49 info60 rfl (by decide) (by omega) u7 x7_2 x8_2 [.int .u64 x8_2] (fun D=>(w.heap.size≤D)∧some D≠(u5 : Value).ownBlock) (fun _=>False) rfl rfl ?aP (fun _ hk=>hk.elim) ?aF ?aO ?aB ?aS ?aL ?_;(case aP=>exact rfl);(case aB=>exact (kw HB.out));(case aF=>exact (fun D hk=>⟨(af (ac (kw HB.out)) hk),aK (av (kr B.out)) D hk⟩));(case aO=>exact (kr I.out));(case aS=>exact (ac (kw HB.out)));(case aL=>have:=LMc25.out;omega);intro g9 j3 ho hb hg hat;rw [← Ny520.out] at ho;replace B:=ka (aI (ok:=(fun D=>(w.heap.size≤D))) (kr B.out) hg hat);replace l:=ka (ag (g:=E) (kz l.out) hg (an I.out l.out (by decide)));replace o:=ka (ag (g:=F) (kz o.out) hg (an I.out o.out (by decide)));replace A:=ka (ag (g:=G) (kz A.out) hg (an I.out A.out (by decide)));replace HB:=ka (hb);have J:=ka (ho);clear I;clear ho hb hg hat;obtain ⟨h0,h1,d5⟩:=ax B.out;subst d5;obtain ⟨h2,h3,d6⟩:=ax J.out;subst d6)|(go_at_call 40;(with_reducible refine (trivetref01_plus.calls k2 _ _ x5_1 _ _ y520 b3 _ ?side1 ?side2 ?side3 ?side4 g8.out).mono ?_);(case side1=>repeat (first|exact (ak B.out).2.2|with_reducible first|refine ay ?_ _|refine az ?_ _|refine aG ?_));(case side2=>exact (ak B.out).2.1);(case side3=>repeat (first|exact (ak J.out).2.2|with_reducible first|refine ay ?_ _|refine az ?_ _|refine aG ?_));(case side4=>exact (ak J.out).2.1);rintro e j4 ⟨h4,rfl,ho0,hb⟩;have e4:=ka (aH (aC (aC (aJ (M:=fun D=>(w.heap.size≤D)) ho0 (ac (kw HB.out)) (fun D h_=>h_)) (av (kr B.out))) (av (kr J.out))) (ac (kw HB.out)));replace B:=ka (ao (kr B.out) (aD ho0) hb);replace J:=ka (ao (kr J.out) (aD ho0) hb);replace l:=kbb l hb;replace o:=kbb o hb;replace A:=kbb A hb;replace HB:=ka (ae (kw HB.out) hb);(try clear hb ho0)))
          repeat (go_quiet (first|((with_reducible refine ar (b:=.append) (xs:=#[.tmp 47,.tmp 49]) rfl ?_);at_builtin;refine aw (am .u64) (w0:=w) w.heap.size rfl (.tmp 47) (.tmp 49) 49 60 (.int .u64 0) 8 rfl Try.underlying49 info60 rfl (by decide) (by omega) u7 x7_2 x8_2 [.int .u64 x8_2] (fun D=>(w.heap.size≤D)∧some D≠(u5 : Value).ownBlock) (fun _=>False) rfl rfl ?aP (fun _ hk=>hk.elim) ?aF ?aO ?aB ?aS ?aL ?_;(case aP=>exact rfl);(case aB=>exact (kw HB.out));(case aF=>exact (fun D hk=>⟨(af (ac (kw HB.out)) hk),aK (av (kr B.out)) D hk⟩));(case aO=>exact (kr I.out));(case aS=>exact (ac (kw HB.out)));(case aL=>have:=LMc25.out;omega);intro g9 j3 ho hb hg hat;rw [← Ny520.out] at ho;replace B:=ka (aI (ok:=(fun D=>(w.heap.size≤D))) (kr B.out) hg hat);replace l:=ka (ag (g:=E) (kz l.out) hg (an I.out l.out (by decide)));replace o:=ka (ag (g:=F) (kz o.out) hg (an I.out o.out (by decide)));replace A:=ka (ag (g:=G) (kz A.out) hg (an I.out A.out (by decide)));replace HB:=ka (hb);have J:=ka (ho);clear I;clear ho hb hg hat;obtain ⟨h0,h1,d5⟩:=ax B.out;subst d5;obtain ⟨h2,h3,d6⟩:=ax J.out;subst d6)|(go_at_call 40;(with_reducible refine (trivetref01_plus.calls k2 _ _ x5_1 _ _ y520 b3 _ ?side1 ?side2 ?side3 ?side4 g8.out).mono ?_);(case side1=>repeat (first|exact (ak B.out).2.2|with_reducible first|refine ay ?_ _|refine az ?_ _|refine aG ?_));(case side2=>exact (ak B.out).2.1);(case side3=>repeat (first|exact (ak J.out).2.2|with_reducible first|refine ay ?_ _|refine az ?_ _|refine aG ?_));(case side4=>exact (ak J.out).2.1);rintro e j4 ⟨h4,rfl,ho0,hb⟩;have e4:=ka (aH (aC (aC (aJ (M:=fun D=>(w.heap.size≤D)) ho0 (ac (kw HB.out)) (fun D h_=>h_)) (av (kr B.out))) (av (kr J.out))) (ac (kw HB.out)));replace B:=ka (ao (kr B.out) (aD ho0) hb);replace J:=ka (ao (kr J.out) (aD ho0) hb);replace l:=kbb l hb;replace o:=kbb o hb;replace A:=kbb A hb;replace HB:=ka (ae (kw HB.out) hb);(try clear hb ho0)));try go_wp2_with (first|((with_reducible refine ar (b:=.append) (xs:=#[.tmp 47,.tmp 49]) rfl ?_);at_builtin;refine aw (am .u64) (w0:=w) w.heap.size rfl (.tmp 47) (.tmp 49) 49 60 (.int .u64 0) 8 rfl Try.underlying49 info60 rfl (by decide) (by omega) u7 x7_2 x8_2 [.int .u64 x8_2] (fun D=>(w.heap.size≤D)∧some D≠(u5 : Value).ownBlock) (fun _=>False) rfl rfl ?aP (fun _ hk=>hk.elim) ?aF ?aO ?aB ?aS ?aL ?_;(case aP=>exact rfl);(case aB=>exact (kw HB.out));(case aF=>exact (fun D hk=>⟨(af (ac (kw HB.out)) hk),aK (av (kr B.out)) D hk⟩));(case aO=>exact (kr I.out));(case aS=>exact (ac (kw HB.out)));(case aL=>have:=LMc25.out;omega);intro g9 j3 ho hb hg hat;rw [← Ny520.out] at ho;replace B:=ka (aI (ok:=(fun D=>(w.heap.size≤D))) (kr B.out) hg hat);replace l:=ka (ag (g:=E) (kz l.out) hg (an I.out l.out (by decide)));replace o:=ka (ag (g:=F) (kz o.out) hg (an I.out o.out (by decide)));replace A:=ka (ag (g:=G) (kz A.out) hg (an I.out A.out (by decide)));replace HB:=ka (hb);have J:=ka (ho);clear I;clear ho hb hg hat;obtain ⟨h0,h1,d5⟩:=ax B.out;subst d5;obtain ⟨h2,h3,d6⟩:=ax J.out;subst d6)|(go_at_call 40;(with_reducible refine (trivetref01_plus.calls k2 _ _ x5_1 _ _ y520 b3 _ ?side1 ?side2 ?side3 ?side4 g8.out).mono ?_);(case side1=>repeat (first|exact (ak B.out).2.2|with_reducible first|refine ay ?_ _|refine az ?_ _|refine aG ?_));(case side2=>exact (ak B.out).2.1);(case side3=>repeat (first|exact (ak J.out).2.2|with_reducible first|refine ay ?_ _|refine az ?_ _|refine aG ?_));(case side4=>exact (ak J.out).2.1);rintro e j4 ⟨h4,rfl,ho0,hb⟩;have e4:=ka (aH (aC (aC (aJ (M:=fun D=>(w.heap.size≤D)) ho0 (ac (kw HB.out)) (fun D h_=>h_)) (av (kr B.out))) (av (kr J.out))) (ac (kw HB.out)));replace B:=ka (ao (kr B.out) (aD ho0) hb);replace J:=ka (ao (kr J.out) (aD ho0) hb);replace l:=kbb l hb;replace o:=kbb o hb;replace A:=kbb A hb;replace HB:=ka (ae (kw HB.out) hb);(try clear hb ho0))))
          go_roundg k2
          case measure=>have:=HK1.out;have:=HK2.out;omega
          case rel=>exact ⟨(b3),(wrap64 (x6_1 + 1)),(by first|rfl|(simp;done)|(simp [*];done)),H',⟨by have:=HK1.out;have:=HK2.out;omega⟩,⟨kr (Kd.R_mono e4.out (fun _ hk=>hk.1.1.1))⟩,⟨by (with_reducible repeat (first|apply kb1|apply kb2|apply kb3));exact l.out⟩,⟨by (with_reducible repeat (first|apply kb1|apply kb2|apply kb3));exact o.out⟩,⟨by (with_reducible repeat (first|apply kb1|apply kb2|apply kb3));exact A.out⟩,⟨by repeat (first|(with_reducible first|exact HB.out|apply kc1|apply kc2|apply kc3|refine kc4 ?_ b4.out|refine kc4 ?_ b5.out|refine kc4 ?_ b6.out)|exact HB.out)⟩⟩
         ·rw [if_neg c25] at H
          exact absurd H (by simp)
     ·rw [if_neg c8] at H
      exact absurd H (by simp)
    ·rw [if_neg c7] at H
     exact absurd H (by simp)
   ·rw [if_neg c6] at H
    have c6b0 : decide (x6_1 < (l0_0.length : Int)) = false:=decide_eq_false c6;clear c6;replace H:=al.mp H;obtain ⟨⟨d1,d2⟩,h5,H⟩:=H;replace H : (some (d1,d2)) = some (r1,r2):=H;have h6:=ka h5;clear h5;simp only [Option.some.injEq,Prod.mk.injEq] at H
    obtain ⟨rfl,rfl⟩:=H;have m8:=a4.out;have m9:=a5.out;have n0:=a7.out;have n1:=a8.out;have n2:=blkAll2 l.out;have n3:=a9.out;have n4:=b0.out;have n5:=blkAll2 o.out;obtain ⟨e9,f0,k3⟩:=ax B.out;subst k3;go_wp2_with (first|(go_at_call 39;(with_reducible refine (trivetref01_norm.calls k1 (fun D=>some D = (.slice e9 x5_1.length f0 : Value).ownBlock) _ _ x5_1 (!(a0_1 == a1_1)) d1 d2 _ ?side1 h6.out).mono ?_);(case side1=>exact Kd.R_V (aN rfl (ab (ab (ab (B.out) l.out (by decide)) o.out (by decide)) A.out (by decide))));rintro e j5 ⟨h7,rfl,ho0,hb⟩;have b8:=ka (aQ (aE (ok':=fun D=>(w.heap.size≤D)∧D≠E∧D≠F∧D≠G) ho0 (fun D a6=>⟨Or.elim a6 (fun T=>((ab (ab (ab (B.out) l.out (by decide)) o.out (by decide)) A.out (by decide)).1 D T.symm).1.1.1) (fun W=>(af (ac (kw HB.out)) W)),Or.elim a6 (fun T=>((ab (ab (ab (B.out) l.out (by decide)) o.out (by decide)) A.out (by decide)).1 D T.symm).1.1.2) (fun W=>(kf l W)),Or.elim a6 (fun T=>((ab (ab (ab (B.out) l.out (by decide)) o.out (by decide)) A.out (by decide)).1 D T.symm).1.2) (fun W=>(kf o W)),Or.elim a6 (fun T=>((ab (ab (ab (B.out) l.out (by decide)) o.out (by decide)) A.out (by decide)).1 D T.symm).2) (fun W=>(kf A W))⟩)) (ac (kw HB.out)));replace B:=ka (aR (kr B.out) hb);replace l:=kbb l hb;replace o:=kbb o hb;replace A:=kbb A hb;replace HB:=ka (ae (kw HB.out) hb);(try clear hb ho0);obtain ⟨e5,e6,d7⟩:=aT b8.out;subst d7;have f7:=blkAll2 A.out))
    repeat (go_quiet (first|(go_at_call 39;(with_reducible refine (trivetref01_norm.calls k1 (fun D=>some D = (.slice e9 x5_1.length f0 : Value).ownBlock) _ _ x5_1 (!(a0_1 == a1_1)) d1 d2 _ ?side1 h6.out).mono ?_);(case side1=>exact Kd.R_V (aN rfl (ab (ab (ab (B.out) l.out (by decide)) o.out (by decide)) A.out (by decide))));rintro e j5 ⟨h7,rfl,ho0,hb⟩;have b8:=ka (aQ (aE (ok':=fun D=>(w.heap.size≤D)∧D≠E∧D≠F∧D≠G) ho0 (fun D a6=>⟨Or.elim a6 (fun T=>((ab (ab (ab (B.out) l.out (by decide)) o.out (by decide)) A.out (by decide)).1 D T.symm).1.1.1) (fun W=>(af (ac (kw HB.out)) W)),Or.elim a6 (fun T=>((ab (ab (ab (B.out) l.out (by decide)) o.out (by decide)) A.out (by decide)).1 D T.symm).1.1.2) (fun W=>(kf l W)),Or.elim a6 (fun T=>((ab (ab (ab (B.out) l.out (by decide)) o.out (by decide)) A.out (by decide)).1 D T.symm).1.2) (fun W=>(kf o W)),Or.elim a6 (fun T=>((ab (ab (ab (B.out) l.out (by decide)) o.out (by decide)) A.out (by decide)).1 D T.symm).2) (fun W=>(kf A W))⟩)) (ac (kw HB.out)));replace B:=ka (aR (kr B.out) hb);replace l:=kbb l hb;replace o:=kbb o hb;replace A:=kbb A hb;replace HB:=ka (ae (kw HB.out) hb);(try clear hb ho0);obtain ⟨e5,e6,d7⟩:=aT b8.out;subst d7;have f7:=blkAll2 A.out));try go_wp2_with (first|(go_at_call 39;(with_reducible refine (trivetref01_norm.calls k1 (fun D=>some D = (.slice e9 x5_1.length f0 : Value).ownBlock) _ _ x5_1 (!(a0_1 == a1_1)) d1 d2 _ ?side1 h6.out).mono ?_);(case side1=>exact Kd.R_V (aN rfl (ab (ab (ab (B.out) l.out (by decide)) o.out (by decide)) A.out (by decide))));rintro e j5 ⟨h7,rfl,ho0,hb⟩;have b8:=ka (aQ (aE (ok':=fun D=>(w.heap.size≤D)∧D≠E∧D≠F∧D≠G) ho0 (fun D a6=>⟨Or.elim a6 (fun T=>((ab (ab (ab (B.out) l.out (by decide)) o.out (by decide)) A.out (by decide)).1 D T.symm).1.1.1) (fun W=>(af (ac (kw HB.out)) W)),Or.elim a6 (fun T=>((ab (ab (ab (B.out) l.out (by decide)) o.out (by decide)) A.out (by decide)).1 D T.symm).1.1.2) (fun W=>(kf l W)),Or.elim a6 (fun T=>((ab (ab (ab (B.out) l.out (by decide)) o.out (by decide)) A.out (by decide)).1 D T.symm).1.2) (fun W=>(kf o W)),Or.elim a6 (fun T=>((ab (ab (ab (B.out) l.out (by decide)) o.out (by decide)) A.out (by decide)).1 D T.symm).2) (fun W=>(kf A W))⟩)) (ac (kw HB.out)));replace B:=ka (aR (kr B.out) hb);replace l:=kbb l hb;replace o:=kbb o hb;replace A:=kbb A hb;replace HB:=ka (ae (kw HB.out) hb);(try clear hb ho0);obtain ⟨e5,e6,d7⟩:=aT b8.out;subst d7;have f7:=blkAll2 A.out)))
    refine bodyPost_ret (results_cell_row rfl _ _ G 51 #[.slice e5 d1.length e6,.bool d2] (0,0) _ rfl (by (with_reducible repeat (first|apply kb1|apply kb2|apply kb3|apply blkPut2_1|apply blkPut2_0));exact A.out) Try.underlying51 rfl (by kernel_rfl)) rfl ?_;exact ⟨_,by first|rfl|(simp [errW_none,errW_some] <;> rfl)|(simp [*,errW_none,errW_some] <;> rfl),by (with_reducible repeat (first|apply Kd.V_alloc|apply Kd.V_drewN|apply Kd.V_drew));exact aE (Kd.V_far (p:=⟨G,1,none⟩) (Kd.V_far (p:=⟨G,0,none⟩) (aE b8.out (fun D hk=>(⟨hk,hk.2.2.2⟩ : _∧D≠G))) (fun _ hk=>hk.2) (.slice e5 d1.length e6)) (fun _ hk=>hk.2) (.bool d2)) (fun _ hk=>hk.1.1),by repeat (first|(with_reducible first|exact HB.out|apply kc1|apply kc2|apply kc3|refine kc4 ?_ b4.out|refine kc4 ?_ b5.out|refine kc4 ?_ b6.out)|exact HB.out)⟩
end Go.Proofs.Ytghimjkoaldafaa.P
