-- Written by a program of this session out of the translation of the seat: Lean functions and the proofs that the Go functions come to them.
import Derived.Test.YtcpmfdagnchlbaaPx0
import Derived.Test.YtcpmfdagnchlbaaPx5
import Derived.Test.YtcpmfdagnchlbaaPx6
namespace Go.Proofs.Ytcpmfdagnchlbaa.P
open Go.RowKit Go.Proofs.YtcpmfdagnchlbaaW.PrintWords Go.Proofs.YtcpmfdagnchlbaaW.PrintLast Go.Proofs.YtcpmfdagnchlbaaW.PrintMore
attribute [local go_sem] max2_int min2_int max_two min_two max_three min_three max_four min_four   -- for this text's walks alone
set_option linter.unusedVariables false
set_option linter.unusedSimpArgs false

/-! ### trivetref01_minus: function 30 -/
@[go_sem] theorem fieldAgg34_0 (x0 x1 : Value) (w : World) : (Instr.field 34 (.agg #[x0,x1]) 0).run Try.prog w = .ok x0 w:=by
 have h1 : (isAgg 32).run Try.prog w = .ok false w:=by simp [isAgg,run_underlying Try.underlying32]
 simp [Instr.field,run_underlying Try.underlying34,asAgg,part,h1]
def trivetref01_minus.l0 : Nat→List Int→List Int→List Int→Int→Int→Option (List Int)
 | 0,_,_,_,_,_=>none
 | k + 1,x0,x1,x5,x6,x7=>if x7 < (x0.length : Int) then (if 0≤x7 then ((trivetref01_at.f x1 x7).bind fun a4=>(if x5.length < 17592186044416 then (trivetref01_minus.l0 k x0 x1 (x5 ++ [Int.tmod (IntKind.u64.wrap ((IntKind.u64.wrap ((IntKind.u64.wrap (65536 + (rd x0 x7))) - a4)) - x6)) 65536]) (IntKind.u64.wrap (1 - (IntKind.u64.wrap (Int.tdiv (IntKind.u64.wrap ((IntKind.u64.wrap ((IntKind.u64.wrap (65536 + (rd x0 x7))) - a4)) - x6)) 65536)))) (wrap64 (x7 + 1))) else (none))) else (none)) else ((trivetref01_norm.f k x5 false).bind fun i7=>(some i7.1))
def trivetref01_minus.f (k : Nat) (l0 : List Int) (l1 : List Int) : Option (List Int):=trivetref01_minus.l0 k l0 l1 ([] : List Int) 0 0
set_option maxHeartbeats 8000000 in
set_option maxRecDepth 100000 in
theorem trivetref01_minus.calls (k : Nat) (A0 : Option Addr) (c0 : Nat) (l0 : List Int) (A1 : Option Addr) (c1 : Nat) (l1 : List Int) (r : List Int) (w : World) (hr0 : Kd.C (Kd.int .u64) w A0 l0.length l0) (hc0 : l0.length≤c0) (hr1 : Kd.C (Kd.int .u64) w A1 l1.length l1) (hc1 : l1.length≤c1) (h : trivetref01_minus.f k l0 l1 = some r) :
  Calls Try.prog 30 #[.slice A0 l0.length c0,.slice A1 l1.length c1] w fun e w'=>∃ v0_ : Value,e = .returned (v0_)∧Kd.V (Kd.int .u64) 42 w' w.heap.size (fun z=>(w.heap.size≤z)) v0_ r∧Below w.heap.size w w':=by
 have HR0:=ka hr0;have q5:=ka hc0;clear hr0 hc0;have HR1:=ka hr1;have g0:=ka hc1;clear hr1 hc1;have HB:=ka (Below.refl w.heap.size w);have H : (trivetref01_minus.l0 k l0 l1 ([] : List Int) 0 0) = some r:=h;clear h;have H':=ka H;clear H;go_enter Try.func30,Try.ntmps30
 go_wp2
 repeat (go_quiet (fail);try go_wp2)
 (try simp only [Act.put,List.setIfInBounds_toArray,List.set_cons_zero,List.set_cons_succ]);go_loopg [5,6,7] k (fun kq v5 v6 v7 w'=>∃ (x5_1 : List Int) (x6_1 : Int) (x7_1 : Int),v6 = .int .u64 x6_1∧v7 = .int .i64 x7_1∧Aside0 (trivetref01_minus.l0 kq l0 l1 x5_1 x6_1 x7_1 = some r)∧Aside0 (kq≤k)∧Aside0 (Kd.R (Kd.int .u64) 42 w' w.heap.size (fun z=>(w.heap.size≤z)) v5 x5_1)∧Aside0 (Below w.heap.size w w'))
 case atStart=>exact ⟨(([] : List Int)),(0),(0),(by first|rfl|(simp;done)|(simp [*];done)),(by first|rfl|(simp;done)|(simp [*];done)),H',⟨Nat.le_refl _⟩,⟨by first|exact Kd.R_nil _ _ _ _ _|exact Kd.N_nil _ _ _ _ _|exact Kd.V_nil _ _ _ _ _|exact Kd.Q_nil _ _ _ _ _|exact Kd.S_nil _ _ _ _ _⟩,⟨by repeat (first|(with_reducible first|exact HB.out|apply kc1|apply kc2|apply kc3)|exact HB.out)⟩⟩
 case round=>
  clear H';try clear c1
  try clear p2
  obtain ⟨x5_1,x6_1,x7_1,rfl,rfl,HA,HK1,Y,HB⟩:=hrel;cases gk with
  | zero=>exact absurd HA.out (by simp [trivetref01_minus.l0])
  | succ k1=>
   have H:=HA.out;clear HA;simp only [trivetref01_minus.l0] at H
   by_cases c3 : x7_1 < (l0.length : Int)
   ·rw [if_pos c3] at H
    have c3b0 : decide (x7_1 < (l0.length : Int)) = true:=decide_eq_true c3;clear c3;by_cases c4 : 0≤x7_1
    ·rw [if_pos c4] at H
     have c4b0 : decide (0≤x7_1) = true:=decide_eq_true c4;clear c4;replace H:=Option.bind_eq_some_iff.mp H;obtain ⟨a4,e8,H⟩:=H;replace H : (if x5_1.length < 17592186044416 then (trivetref01_minus.l0 k1 l0 l1 (x5_1 ++ [Int.tmod (IntKind.u64.wrap ((IntKind.u64.wrap ((IntKind.u64.wrap (65536 + (rd l0 x7_1))) - a4)) - x6_1)) 65536]) (IntKind.u64.wrap (1 - (IntKind.u64.wrap (Int.tdiv (IntKind.u64.wrap ((IntKind.u64.wrap ((IntKind.u64.wrap (65536 + (rd l0 x7_1))) - a4)) - x6_1)) 65536)))) (wrap64 (x7_1 + 1))) else (none)) = some r:=H;have A5:=ka e8;clear e8;by_cases c6 : x5_1.length < 17592186044416
     ·rw [if_pos c6] at H
      have LMc6:=ka c6;clear c6;obtain ⟨y495,hy495⟩ : ∃ y_ : List Int,y_ = (x5_1 ++ [Int.tmod (IntKind.u64.wrap ((IntKind.u64.wrap ((IntKind.u64.wrap (65536 + (rd l0 x7_1))) - a4)) - x6_1)) 65536]):=⟨_,rfl⟩
      replace H : (trivetref01_minus.l0 k1 l0 l1 y495 (IntKind.u64.wrap (1 - (IntKind.u64.wrap (Int.tdiv (IntKind.u64.wrap ((IntKind.u64.wrap ((IntKind.u64.wrap (65536 + (rd l0 x7_1))) - a4)) - x6_1)) 65536)))) (wrap64 (x7_1 + 1))) = some r:=by first|(rw [hy495];with_reducible exact H)|(have H2_:=(Option.bind_some _ _).symm.trans H;rw [hy495];with_reducible exact H2_)|(have H2_:=(Option.bind_some _ _).symm.trans H;with_reducible exact H2_)|with_reducible exact H|(rw [hy495];exact H)|exact H
      have Ny495:=ka hy495;clear hy495;have H':=ka H;clear H;have p493 : 0≤(x7_1 : Int):=of_decide_eq_true (by first|(with_reducible assumption)|assumption);have q493 : x7_1 < (l0.length : Int):=of_decide_eq_true (by first|(with_reducible assumption)|assumption);obtain ⟨ad493,e493,hx493_0⟩:=Kd.at_int HR0.out x7_1 p493 q493;cases e493
      replace hx493_0:=(HB.out.cell (World.block_lt_of_cell? w _ hx493_0)).trans hx493_0;replace p493:=eq_true p493;replace q493:=eq_true q493;go_wp2_with (first|(go_at_call 36;(with_reducible refine (trivetref01_at.calls _ _ l1 x7_1 a4 _ ?side1 ?side2 A5.out).mono ?_);(case side1=>repeat (first|exact (Kd.C_below HR1.out HB.out)|(with_reducible refine Kd.C_alloc ?_ _)|(with_reducible refine Kd.C_drewN ?_ _)|(with_reducible refine Kd.C_drew ?_)));(case side2=>exact g0.out);rintro e w' ⟨rfl,⟨nd,rfl⟩⟩;(try first|exact ⟨rfl,_,World.drewN_drewN _ _ _⟩|exact ⟨rfl,_,Eq.trans (World.drewN_drewN _ _ _) (congrArg (World.drewN _) (Nat.add_assoc _ _ _))⟩))|((with_reducible refine gate_builtin (b:=.append) (xs:=#[.tmp 26,.tmp 29]) rfl ?_);at_builtin;refine Kd.R_append (Kd.int .u64) (w0:=w) w.heap.size rfl (.tmp 26) (.tmp 29) 32 42 (.int .u64 0) 8 rfl Try.underlying32 info42 rfl (by decide) (by omega) u5 x5_1 (Int.tmod (IntKind.u64.wrap ((IntKind.u64.wrap ((IntKind.u64.wrap (65536 + (rd l0 x7_1))) - a4)) - x6_1)) 65536) [.int .u64 (Int.tmod (IntKind.u64.wrap ((IntKind.u64.wrap ((IntKind.u64.wrap (65536 + (rd l0 x7_1))) - a4)) - x6_1)) 65536)] (fun z=>(w.heap.size≤z)) (fun _=>False) rfl rfl ?aP (fun _ hk=>hk.elim) ?aF ?aO ?aB ?aS ?aL ?_;(case aP=>exact rfl);(case aB=>exact (kw HB.out));(case aF=>exact (fun z hk=>(Nat.le_trans (below_size (kw HB.out)) hk)));(case aO=>exact (kr Y.out));(case aS=>exact (below_size (kw HB.out)));(case aL=>have:=LMc6.out;omega);intro g2 w7 ho hb hg hat;rw [← Ny495.out] at ho;replace HB:=ka (hb);have d7:=ka (ho);clear Y;clear ho hb hg hat))
      repeat (go_quiet (first|(go_at_call 36;(with_reducible refine (trivetref01_at.calls _ _ l1 x7_1 a4 _ ?side1 ?side2 A5.out).mono ?_);(case side1=>repeat (first|exact (Kd.C_below HR1.out HB.out)|(with_reducible refine Kd.C_alloc ?_ _)|(with_reducible refine Kd.C_drewN ?_ _)|(with_reducible refine Kd.C_drew ?_)));(case side2=>exact g0.out);rintro e w' ⟨rfl,⟨nd,rfl⟩⟩;(try first|exact ⟨rfl,_,World.drewN_drewN _ _ _⟩|exact ⟨rfl,_,Eq.trans (World.drewN_drewN _ _ _) (congrArg (World.drewN _) (Nat.add_assoc _ _ _))⟩))|((with_reducible refine gate_builtin (b:=.append) (xs:=#[.tmp 26,.tmp 29]) rfl ?_);at_builtin;refine Kd.R_append (Kd.int .u64) (w0:=w) w.heap.size rfl (.tmp 26) (.tmp 29) 32 42 (.int .u64 0) 8 rfl Try.underlying32 info42 rfl (by decide) (by omega) u5 x5_1 (Int.tmod (IntKind.u64.wrap ((IntKind.u64.wrap ((IntKind.u64.wrap (65536 + (rd l0 x7_1))) - a4)) - x6_1)) 65536) [.int .u64 (Int.tmod (IntKind.u64.wrap ((IntKind.u64.wrap ((IntKind.u64.wrap (65536 + (rd l0 x7_1))) - a4)) - x6_1)) 65536)] (fun z=>(w.heap.size≤z)) (fun _=>False) rfl rfl ?aP (fun _ hk=>hk.elim) ?aF ?aO ?aB ?aS ?aL ?_;(case aP=>exact rfl);(case aB=>exact (kw HB.out));(case aF=>exact (fun z hk=>(Nat.le_trans (below_size (kw HB.out)) hk)));(case aO=>exact (kr Y.out));(case aS=>exact (below_size (kw HB.out)));(case aL=>have:=LMc6.out;omega);intro g2 w7 ho hb hg hat;rw [← Ny495.out] at ho;replace HB:=ka (hb);have d7:=ka (ho);clear Y;clear ho hb hg hat));try go_wp2_with (first|(go_at_call 36;(with_reducible refine (trivetref01_at.calls _ _ l1 x7_1 a4 _ ?side1 ?side2 A5.out).mono ?_);(case side1=>repeat (first|exact (Kd.C_below HR1.out HB.out)|(with_reducible refine Kd.C_alloc ?_ _)|(with_reducible refine Kd.C_drewN ?_ _)|(with_reducible refine Kd.C_drew ?_)));(case side2=>exact g0.out);rintro e w' ⟨rfl,⟨nd,rfl⟩⟩;(try first|exact ⟨rfl,_,World.drewN_drewN _ _ _⟩|exact ⟨rfl,_,Eq.trans (World.drewN_drewN _ _ _) (congrArg (World.drewN _) (Nat.add_assoc _ _ _))⟩))|((with_reducible refine gate_builtin (b:=.append) (xs:=#[.tmp 26,.tmp 29]) rfl ?_);at_builtin;refine Kd.R_append (Kd.int .u64) (w0:=w) w.heap.size rfl (.tmp 26) (.tmp 29) 32 42 (.int .u64 0) 8 rfl Try.underlying32 info42 rfl (by decide) (by omega) u5 x5_1 (Int.tmod (IntKind.u64.wrap ((IntKind.u64.wrap ((IntKind.u64.wrap (65536 + (rd l0 x7_1))) - a4)) - x6_1)) 65536) [.int .u64 (Int.tmod (IntKind.u64.wrap ((IntKind.u64.wrap ((IntKind.u64.wrap (65536 + (rd l0 x7_1))) - a4)) - x6_1)) 65536)] (fun z=>(w.heap.size≤z)) (fun _=>False) rfl rfl ?aP (fun _ hk=>hk.elim) ?aF ?aO ?aB ?aS ?aL ?_;(case aP=>exact rfl);(case aB=>exact (kw HB.out));(case aF=>exact (fun z hk=>(Nat.le_trans (below_size (kw HB.out)) hk)));(case aO=>exact (kr Y.out));(case aS=>exact (below_size (kw HB.out)));(case aL=>have:=LMc6.out;omega);intro g2 w7 ho hb hg hat;rw [← Ny495.out] at ho;replace HB:=ka (hb);have d7:=ka (ho);clear Y;clear ho hb hg hat)))
      go_roundg k1
      case measure=>have:=HK1.out;omega
      case rel=>exact ⟨(y495),(IntKind.u64.wrap (1 - (IntKind.u64.wrap (Int.tdiv (IntKind.u64.wrap ((IntKind.u64.wrap ((IntKind.u64.wrap (65536 + (rd l0 x7_1))) - a4)) - x6_1)) 65536)))),(wrap64 (x7_1 + 1)),(by first|rfl|(simp;done)|(simp [*];done)),(by first|rfl|(simp;done)|(simp [*];done)),H',⟨by have:=HK1.out;omega⟩,⟨kr d7.out⟩,⟨by repeat (first|(with_reducible first|exact HB.out|apply kc1|apply kc2|apply kc3)|exact HB.out)⟩⟩
     ·rw [if_neg c6] at H
      exact absurd H (by simp)
    ·rw [if_neg c4] at H
     exact absurd H (by simp)
   ·rw [if_neg c3] at H
    have c3b0 : decide (x7_1 < (l0.length : Int)) = false:=decide_eq_false c3;clear c3;replace H:=Option.bind_eq_some_iff.mp H;obtain ⟨⟨d8,f1⟩,j1,H⟩:=H;replace H : (some d8) = some r:=H;have A8:=ka j1;clear j1;obtain rfl:=Option.some.inj H;obtain ⟨g3,g4,k9⟩:=Kd.R_slice Y.out;subst k9;go_wp2_with (first|(go_at_call 28;(with_reducible refine (trivetref01_norm.calls k1 (fun z=>some z = (.slice g3 x5_1.length g4 : Value).ownBlock) _ _ x5_1 false d8 f1 _ ?side1 A8.out).mono ?_);(case side1=>exact Kd.R_V (Kd.R_tight rfl (Y.out)));rintro e j2 ⟨g5,rfl,ho0,hb⟩;have d9:=ka (Kd.V_lower (Kd.V_mono (ok':=fun z=>(w.heap.size≤z)) ho0 (fun z Q=>Or.elim Q (fun G=>((Y.out).1 z G.symm)) (fun I=>(Nat.le_trans (below_size (kw HB.out)) I)))) (below_size (kw HB.out)));replace Y:=ka (Kd.R_below (kr Y.out) hb);replace HB:=ka (below_step (kw HB.out) hb);(try clear hb);(try clear hb2);(try clear hk);(try clear hi);(try clear ho0)))
    repeat (go_quiet (first|(go_at_call 28;(with_reducible refine (trivetref01_norm.calls k1 (fun z=>some z = (.slice g3 x5_1.length g4 : Value).ownBlock) _ _ x5_1 false d8 f1 _ ?side1 A8.out).mono ?_);(case side1=>exact Kd.R_V (Kd.R_tight rfl (Y.out)));rintro e j2 ⟨g5,rfl,ho0,hb⟩;have d9:=ka (Kd.V_lower (Kd.V_mono (ok':=fun z=>(w.heap.size≤z)) ho0 (fun z Q=>Or.elim Q (fun G=>((Y.out).1 z G.symm)) (fun I=>(Nat.le_trans (below_size (kw HB.out)) I)))) (below_size (kw HB.out)));replace Y:=ka (Kd.R_below (kr Y.out) hb);replace HB:=ka (below_step (kw HB.out) hb);(try clear hb);(try clear hb2);(try clear hk);(try clear hi);(try clear ho0)));try go_wp2_with (first|(go_at_call 28;(with_reducible refine (trivetref01_norm.calls k1 (fun z=>some z = (.slice g3 x5_1.length g4 : Value).ownBlock) _ _ x5_1 false d8 f1 _ ?side1 A8.out).mono ?_);(case side1=>exact Kd.R_V (Kd.R_tight rfl (Y.out)));rintro e j2 ⟨g5,rfl,ho0,hb⟩;have d9:=ka (Kd.V_lower (Kd.V_mono (ok':=fun z=>(w.heap.size≤z)) ho0 (fun z Q=>Or.elim Q (fun G=>((Y.out).1 z G.symm)) (fun I=>(Nat.le_trans (below_size (kw HB.out)) I)))) (below_size (kw HB.out)));replace Y:=ka (Kd.R_below (kr Y.out) hb);replace HB:=ka (below_step (kw HB.out) hb);(try clear hb);(try clear hb2);(try clear hk);(try clear hi);(try clear ho0))))
    go_ret
    exact ⟨_,by first|rfl|(simp [errW_none,errW_some] <;> rfl)|(simp [*,errW_none,errW_some] <;> rfl),by (with_reducible repeat (first|apply Kd.V_alloc|apply Kd.V_drewN|apply Kd.V_drew));exact d9.out,by repeat (first|(with_reducible first|exact HB.out|apply kc1|apply kc2|apply kc3)|exact HB.out)⟩

/-! ### trivetref01_minus: function 30,its laws -/
theorem trivetref01_minus.loop (n : Nat) : ∀ (k : Nat) (a b acc : List Int) (c : Int) (i : Nat),U.Dg a→U.Dg b→U.Dg acc→0≤c∧c≤1→a.length = i + n→b.length≤a.length→acc.length = i→i + n < 500000→U.val b≤U.val a→U.val acc + 65536 ^ i * (U.val (a.drop i) - U.val (b.drop i) - c) = U.val a - U.val b→2 * n + i + 4≤k→
  trivetref01_minus.l0 k a b acc c i = some (U.dig (U.val a - U.val b)):=by
 induction n with
 | zero=>
  intro k a b acc c i ha hb hacc hc la lb hl hi hv hi2 hk;obtain ⟨j,rfl⟩ : ∃ j,k = j + 1:=⟨k - 1,by omega⟩
  rw [List.drop_eq_nil_of_le (by omega),List.drop_eq_nil_of_le (by omega)] at hi2
  simp only [U.val] at hi2
  have hlt:=U.val_lt hacc;have h0:=U.val_nonneg hacc;rw [hl] at hlt
  have hp:=U.pow_pos i
  have ec : c = 0:=by
   refine Classical.byContradiction fun hn=>?_
   have : c = 1:=by omega
   subst this;have e : (65536 : Int) ^ i * (0 - 0 - 1) = -65536 ^ i:=by omega
   rw [e] at hi2
   omega
  subst ec;have hi3 : U.val acc = U.val a - U.val b:=by simpa using hi2
  simp only [trivetref01_minus.l0]
  rw [if_neg (by omega),trivetref01_norm.tells j acc false hacc (by omega) (by omega),hi3]
  rfl
 | succ n ih=>
  intro k a b acc c i ha hb hacc hc la lb hl hi hv hi2 hk;obtain ⟨j,rfl⟩ : ∃ j,k = j + 1:=⟨k - 1,by omega⟩
  have ga:=ha.get i;have gb:=hb.get i;have ra : rd a (i : Int) = a.getD i 0:=rfl;rw [U.drop_step a i,U.drop_step b i] at hi2
  simp only [trivetref01_minus.l0]
  rw [if_pos (by omega),if_pos (by omega),trivetref01_at.num,Option.bind_some,if_pos (by omega),ra]
  have ih':=fun q r=>ih j a b (acc ++ [r]) q (i + 1) ha hb
  generalize a.getD i 0 = x at *;generalize b.getD i 0 = y at *;rw [M.wrapu_id (n:=65536 + x) (by omega) (by omega),M.wrapu_id (n:=65536 + x - y) (by omega) (by omega),M.wrapu_id (n:=65536 + x - y - c) (by omega) (by omega),M.tdivu (show 0≤65536 + x - y - c by omega),M.tmodu (show 0≤65536 + x - y - c by omega),M.wrapu_id (n:=(65536 + x - y - c) / 65536) (by omega) (by omega),M.wrapu_id (n:=1 - (65536 + x - y - c) / 65536) (by omega) (by omega),M.w64_id (n:=(i : Int) + 1) (by omega) (by omega)]
  refine ih' _ _ (hacc.add (U.Dg.one (by omega))) (by omega) (by omega) lb (by simp;omega) (by omega) hv ?_ (by omega);rw [← hi2,U.val_append,U.val_one,hl,U.pow_succ]
  generalize U.val (a.drop (i + 1)) = u;generalize U.val (b.drop (i + 1)) = v;have : x + 65536 * u - (y + 65536 * v) - c = (65536 + x - y - c) % 65536 + 65536 * (u - v - (1 - (65536 + x - y - c) / 65536)):=by omega
  rw [this]
  generalize (65536 + x - y - c) % 65536 = r;generalize u - v - (1 - (65536 + x - y - c) / 65536) = s;generalize (65536 : Int) ^ i = p;rw [Int.mul_add,Int.mul_comm 65536 p,Int.mul_assoc,Int.add_assoc]
theorem trivetref01_minus.num (k : Nat) (x y : Int) (hy : 0≤y) (hxy : y≤x) (lx : (U.dig x).length≤1000) (hk : 2 * (U.dig x).length + 4≤k) : trivetref01_minus.f k (U.dig x) (U.dig y) = some (U.dig (x - y)):=by
 have ax:=U.val_dig (n:=x) (by omega);have ay:=U.val_dig hy
 have ly : (U.dig y).length≤(U.dig x).length:=by
  have h1:=U.val_lt (U.dig_dg x);rw [ax] at h1
  exact U.len_dig (U.dig x).length y (by omega)
 have:=trivetref01_minus.loop (U.dig x).length k (U.dig x) (U.dig y) [] 0 0 (U.dig_dg x) (U.dig_dg y) U.Dg.nil (by omega) (by omega) ly rfl (by omega) (by omega) (by simp [U.val]) (by omega);rw [ax,ay] at this
 exact this

/-! ### trivetref01_Add: function 16 -/
def trivetref01_Add.f (k : Nat) (l0_0 : List Int) (a0_1 : Bool) (l1_0 : List Int) (a1_1 : Bool) : Option (List Int × Bool):=if (a0_1 == a1_1) = true then ((trivetref01_plus.f k l0_0 l1_0).bind fun b5=>((trivetref01_norm.f k b5 a0_1).bind fun b2=>(some (b2.1,b2.2)))) else ((trivetref01_less.f k l0_0 l1_0).bind fun d1=>(if d1 = true then ((trivetref01_minus.f k l1_0 l0_0).bind fun a8=>((trivetref01_norm.f k a8 a1_1).bind fun Z=>(some (Z.1,Z.2)))) else ((trivetref01_minus.f k l0_0 l1_0).bind fun a9=>((trivetref01_norm.f k a9 a0_1).bind fun a0=>(some (a0.1,a0.2))))))
def trivetref01_Add.T2 : Bool × List (List Nat × List Nat):=(true,[([],[]),([0],[0]),([],[]),([2],[2]),([1,3],[1,3]),([],[]),([5],[5]),([4,6,4],[4,6]),([7,7,0,1,2,3,4,5,6,7],[7])])
def trivetref01_Add.B2 : List Nat:=[0,1,0,4,15,0,32,127,255]
theorem trivetref01_Add.tab2 : rtab .any (opsOf Try.f16 2) = trivetref01_Add.T2:=by kernel_rfl
theorem trivetref01_Add.bits2 : waitsOk trivetref01_Add.T2.2 trivetref01_Add.B2 = true:=by kernel_rfl
def trivetref01_Add.T5 : Bool × List (List Nat × List Nat):=(true,[([],[]),([0],[0]),([],[]),([2],[2]),([1,3],[1,3]),([],[]),([5],[5]),([4,6,4],[4,6]),([7,7,0,1,2,3,4,5,6,7],[7])])
def trivetref01_Add.B5 : List Nat:=[0,1,0,4,15,0,32,127,255]
theorem trivetref01_Add.tab5 : rtab .any (opsOf Try.f16 5) = trivetref01_Add.T5:=by kernel_rfl
theorem trivetref01_Add.bits5 : waitsOk trivetref01_Add.T5.2 trivetref01_Add.B5 = true:=by kernel_rfl
def trivetref01_Add.T6 : Bool × List (List Nat × List Nat):=(true,[([],[]),([0],[0]),([],[]),([2],[2]),([1,3],[1,3]),([],[]),([5],[5]),([4,6,4],[4,6]),([7,7,0,1,2,3,4,5,6,7],[7])])
def trivetref01_Add.B6 : List Nat:=[0,1,0,4,15,0,32,127,255]
theorem trivetref01_Add.tab6 : rtab .any (opsOf Try.f16 6) = trivetref01_Add.T6:=by kernel_rfl
theorem trivetref01_Add.bits6 : waitsOk trivetref01_Add.T6.2 trivetref01_Add.B6 = true:=by kernel_rfl
set_option maxHeartbeats 8000000 in
set_option maxRecDepth 100000 in
theorem trivetref01_Add.calls (k : Nat) (A0_0 : Option Addr) (c0_0 : Nat) (l0_0 : List Int) (a0_1 : Bool) (A1_0 : Option Addr) (c1_0 : Nat) (l1_0 : List Int) (a1_1 : Bool) (r1 : List Int) (r2 : Bool) (w : World) (hr0_0 : Kd.C (Kd.int .u64) w A0_0 l0_0.length l0_0) (hc0_0 : l0_0.length≤c0_0) (hr1_0 : Kd.C (Kd.int .u64) w A1_0 l1_0.length l1_0) (hc1_0 : l1_0.length≤c1_0) (h : trivetref01_Add.f k l0_0 a0_1 l1_0 a1_1 = some (r1,r2)) :
  Calls Try.prog 16 #[.agg #[.slice A0_0 l0_0.length c0_0,.bool a0_1],.agg #[.slice A1_0 l1_0.length c1_0,.bool a1_1]] w fun e w'=>∃ v0_ : Value,e = .returned (.agg #[v0_,.bool r2])∧Kd.V (Kd.int .u64) 42 w' w.heap.size (fun z=>(w.heap.size≤z)) v0_ r1∧Below w.heap.size w w':=by
 have hu34:=Try.underlying34;have HR0_0:=ka hr0_0;have HC0_0:=ka hc0_0;clear hr0_0 hc0_0;have HR1_0:=ka hr1_0;have HC1_0:=ka hc1_0;clear hr1_0 hc1_0;have HB:=ka (Below.refl w.heap.size w);have H : (if (a0_1 == a1_1) = true then ((trivetref01_plus.f k l0_0 l1_0).bind fun b5=>((trivetref01_norm.f k b5 a0_1).bind fun b2=>(some (b2.1,b2.2)))) else ((trivetref01_less.f k l0_0 l1_0).bind fun d1=>(if d1 = true then ((trivetref01_minus.f k l1_0 l0_0).bind fun a8=>((trivetref01_norm.f k a8 a1_1).bind fun Z=>(some (Z.1,Z.2)))) else ((trivetref01_minus.f k l0_0 l1_0).bind fun a9=>((trivetref01_norm.f k a9 a0_1).bind fun a0=>(some (a0.1,a0.2))))))) = some (r1,r2):=h;clear h;by_cases c3 : (a0_1 == a1_1) = true
 ·rw [if_pos c3] at H
  have c3b0 : (a0_1 == a1_1) = true:=c3;(try (have c3b1 : decide (a0_1 = a1_1) = true:=by simpa using c3));(try (have c3b2 : (a0_1 == a1_1) = true:=by simpa using c3));clear c3;replace H:=Option.bind_eq_some_iff.mp H;obtain ⟨b5,f2,H⟩:=H;replace H : ((trivetref01_norm.f k b5 a0_1).bind fun b2=>(some (b2.1,b2.2))) = some (r1,r2):=H;have A4:=ka f2;clear f2;replace H:=Option.bind_eq_some_iff.mp H;obtain ⟨⟨e0,e1⟩,e8,H⟩:=H;replace H : (some (e0,e1)) = some (r1,r2):=H;have A5:=ka e8;clear e8;simp only [Option.some.injEq,Prod.mk.injEq] at H
  obtain ⟨rfl,rfl⟩:=H;go_enter Try.func16,Try.ntmps16
  try go_wp2_with (first|((with_reducible refine gate_dst (N:=2) rfl ?_);refine kx (N:=2) (cs:=#[.slice A0_0 l0_0.length c0_0,.bool a0_1]) (t:=34) ?_;intro D hg w6 hbox hb;have T:=ka (below_step (kw HB.out) hb);have W:=ka (hbox);have J:=ka ((by rw [hg];exact (below_size (kw HB.out)) : w.heap.size≤D));have F:=J;clear HB;have HB:=T;have d:=W;have f3:=J;have b9:=F;clear T W J F;clear hb hbox hg)|((with_reducible refine gate_dst (N:=3) rfl ?_);refine kx (N:=3) (cs:=#[.slice A1_0 l1_0.length c1_0,.bool a1_1]) (t:=34) ?_;intro E hg w7 hbox hb;have T:=ka (blk_below (g:=D) (kz d.out) hb);have W:=ka (below_step (kw HB.out) hb);have J:=ka (hbox);have F:=ka ((by rw [hg];exact (below_size (kw HB.out)) : w.heap.size≤E));have X:=F;have a5:=ka ((by rw [hg];exact Nat.ne_of_lt (blk_lt (g:=D) (kz d.out)) : D≠E));have a3:=ka a5.out.symm;clear d;clear HB;have d:=T;have HB:=W;have l:=J;have f4:=F;have c5:=X;have a6:=a5;have a7:=a3;clear T W J F X a5 a3;clear hb hbox hg)|((with_reducible refine gate_dst (N:=4) rfl ?_);refine kx (N:=4) (cs:=#[.slice none 0 0,.bool false]) (t:=34) ?_;intro m hg w8 hbox hb;have T:=ka (blk_below (g:=D) (kz d.out) hb);have W:=ka (blk_below (g:=E) (kz l.out) hb);have J:=ka (below_step (kw HB.out) hb);have F:=ka (hbox);have X:=ka ((by rw [hg];exact (below_size (kw HB.out)) : w.heap.size≤m));have a5:=X;have a3:=ka ((by rw [hg];exact Nat.ne_of_lt (blk_lt (g:=D) (kz d.out)) : D≠m));have b7:=ka a3.out.symm;have b8:=ka ((by rw [hg];exact Nat.ne_of_lt (blk_lt (g:=E) (kz l.out)) : E≠m));have d2:=ka b8.out.symm;clear d;clear l;clear HB;have d:=T;have l:=W;have HB:=J;have o:=F;have f5:=X;have c7:=a5;have A:=a3;have L:=b7;have B:=b8;have O:=d2;clear T W J F X a5 a3 b7 b8 d2;clear hb hbox hg;have p0:=a6.out;have p1:=a7.out;have l7:=A.out;have l8:=L.out;have l9:=blkAll2 d.out;have m0:=B.out;have m1:=O.out;have m2:=blkAll2 l.out))
  replace d:=ka (blk_drew d.out);replace l:=ka (blk_drew l.out);replace o:=ka (blk_drew o.out);replace HB:=ka (below_drew1 HB.out);refine start_ (n:=9) (S:=fun w'=>w'.cell? ⟨D,0,none⟩ = some (.slice A0_0 l0_0.length c0_0)∧w'.cell? ⟨D,1,none⟩ = some (.bool a0_1)∧w'.cell? ⟨E,0,none⟩ = some (.slice A1_0 l1_0.length c1_0)∧w'.cell? ⟨E,1,none⟩ = some (.bool a1_1)) (ds:=[]) #[false,false,false,false,false,false,false,false,false] (by kernel_rfl) rfl rfl ⟨(blk_cell d.out 0).trans rfl,(blk_cell d.out 1).trans rfl,(blk_cell l.out 0).trans rfl,(blk_cell l.out 1).trans rfl⟩ (fun hHeld=>?_);refine with_tabW trivetref01_Add.tab2 trivetref01_Add.bits2 (fun HT_ HW_=>?_);generalize w8.drew = q6 at d l o HB hHeld ⊢;refine pure_ (i:=0) (N:=some 11) (v:=?_) (a':=?_) #[true,false,false,false,false,false,false,false,false] rfl rfl (any_of HT_.out (by kernel_rfl)) (fun _ _ _ h=>h) (Or.inl ⟨by rfl,?_⟩) ?_ ?_;rotate_left
  ·intro w';go_simp
   with_reducible rfl
  rotate_left
  ·simp only [Act.put,List.setIfInBounds_toArray,List.set_cons_zero,List.set_cons_succ,i64_w,i32_w]
   rfl
  refine pure_ (i:=2) (N:=some 13) (v:=?_) (a':=?_) #[true,false,true,false,false,false,false,false,false] rfl rfl (any_of HT_.out (by kernel_rfl)) (fun _ _ _ h=>h) (Or.inl ⟨by rfl,?_⟩) ?_ ?_;rotate_left
  ·intro w';go_simp
   with_reducible rfl
  rotate_left
  ·simp only [Act.put,List.setIfInBounds_toArray,List.set_cons_zero,List.set_cons_succ,i64_w,i32_w]
   rfl
  refine pure_ (i:=5) (N:=some 16) (v:=?_) (a':=?_) #[true,false,true,false,false,true,false,false,false] rfl rfl (any_of HT_.out (by kernel_rfl)) (fun _ _ _ h=>h) (Or.inl ⟨by rfl,?_⟩) ?_ ?_;rotate_left
  ·intro w';go_simp
   with_reducible rfl
  rotate_left
  ·simp only [Act.put,List.setIfInBounds_toArray,List.set_cons_zero,List.set_cons_succ,i64_w,i32_w]
   rfl
  refine take_ (i:=1) (N:=some 12) (v:=?_) (a':=?_) #[true,true,true,false,false,true,false,false,false] rfl rfl (take_ofW HT_.out HW_.out (by kernel_rfl)) (fun _ _ _ h=>h) (Or.inl ⟨by rfl,?_⟩) hHeld ?_ ?_;rotate_left
  ·rintro w' ⟨s0,s1,s2,s3⟩;go_simp
   with_reducible rfl
  rotate_left
  ·simp only [Act.put,List.setIfInBounds_toArray,List.set_cons_zero,List.set_cons_succ,i64_w,i32_w]
   rfl
  refine take_ (i:=3) (N:=some 14) (v:=?_) (a':=?_) #[true,true,true,true,false,true,false,false,false] rfl rfl (take_ofW HT_.out HW_.out (by kernel_rfl)) (fun _ _ _ h=>h) (Or.inl ⟨by rfl,?_⟩) hHeld ?_ ?_;rotate_left
  ·rintro w' ⟨s0,s1,s2,s3⟩;go_simp
   with_reducible rfl
  rotate_left
  ·simp only [Act.put,List.setIfInBounds_toArray,List.set_cons_zero,List.set_cons_succ,i64_w,i32_w]
   rfl
  refine take_ (i:=6) (N:=some 17) (v:=?_) (a':=?_) #[true,true,true,true,false,true,true,false,false] rfl rfl (take_ofW HT_.out HW_.out (by kernel_rfl)) (fun _ _ _ h=>h) (Or.inl ⟨by rfl,?_⟩) hHeld ?_ ?_;rotate_left
  ·rintro w' ⟨s0,s1,s2,s3⟩;go_simp
   with_reducible rfl
  rotate_left
  ·simp only [Act.put,List.setIfInBounds_toArray,List.set_cons_zero,List.set_cons_succ,i64_w,i32_w]
   rfl
  refine one_ (i:=4) (N:=some 15) #[true,true,true,true,true,true,true,false,false] rfl rfl (one_of HT_.out (by kernel_rfl)) (by decide) (fun K hK=>?_);refine goes_ Try.func27 (by kernel_rfl) rfl #[.slice A0_0 l0_0.length c0_0,.slice A1_0 l1_0.length c1_0] (by rfl) rfl rfl (by (try simp only [List.map_toArray,List.map_cons,List.map_nil]);first|done|rfl|(simp only [List.length_drop,List.length_take];rfl)) ?_;with_reducible refine (trivetref01_plus.calls k _ _ l0_0 _ _ l1_0 b5 _ ?side1 ?side2 ?side3 ?side4 A4.out).mono ?_
  (case side1=>repeat (first|exact (Kd.C_below HR0_0.out HB.out)|(with_reducible refine Kd.C_alloc ?_ _)|(with_reducible refine Kd.C_drewN ?_ _)|(with_reducible refine Kd.C_drew ?_)));(case side2=>exact HC0_0.out);(case side3=>repeat (first|exact (Kd.C_below HR1_0.out HB.out)|(with_reducible refine Kd.C_alloc ?_ _)|(with_reducible refine Kd.C_drewN ?_ _)|(with_reducible refine Kd.C_drew ?_)));(case side4=>exact HC1_0.out);rintro e q7 ⟨p3,rfl,ho0,hb⟩;refine ⟨_,rfl,?_⟩;have b3:=ka (Kd.R_lower (Kd.R_newM (M:=fun z=>(w.heap.size≤z)) ho0 (below_size (kw HB.out)) (fun z h_=>h_)) (below_size (kw HB.out)));replace d:=kbb d hb;replace l:=kbb l hb;replace o:=kbb o hb;replace HB:=ka (below_step (kw HB.out) hb);(try clear hb);(try clear hb2);(try clear hk);(try clear hi);(try clear ho0);obtain ⟨g6,g7,g8⟩:=Kd.R_slice b3.out;(first|subst g8|(injection g8 with f1_ f2_ f3_;have f4_:=f1_.symm;have f5_:=f3_.symm;clear f1_ f2_ f3_;subst f4_;subst f5_));refine hK.out _ _ ⟨(blk_cell d.out 0).trans rfl,(blk_cell d.out 1).trans rfl,(blk_cell l.out 0).trans rfl,(blk_cell l.out 1).trans rfl⟩ (fun hHeld=>?_);clear hK K;refine norm_ (a':=?_) ?_ ?_;rotate_left
  ·show Act.put _ (some 15) _ = _
   simp only [Act.put,List.setIfInBounds_toArray,List.set_cons_zero,List.set_cons_succ,i64_w,i32_w]
   rfl
  refine one_ (i:=7) (N:=some 18) #[true,true,true,true,true,true,true,true,false] rfl rfl (one_of HT_.out (by kernel_rfl)) (by decide) (fun K hK=>?_);refine goes_ Try.func28 (by kernel_rfl) rfl #[.slice g6 b5.length g7,.bool a0_1] (by rfl) rfl rfl (by (try simp only [List.map_toArray,List.map_cons,List.map_nil]);first|done|rfl|(simp only [List.length_drop,List.length_take];rfl)) ?_;with_reducible refine (trivetref01_norm.calls k (fun z=>some z = (.slice g6 b5.length g7 : Value).ownBlock) _ _ b5 a0_1 e0 e1 _ ?side1 A5.out).mono ?_
  (case side1=>exact Kd.R_V (Kd.R_tight rfl (Kd.R_types (Kd.R_types (Kd.R_types (b3.out) d.out (by decide)) l.out (by decide)) o.out (by decide))));rintro e j3 ⟨p4,rfl,ho0,hb⟩;refine ⟨_,rfl,?_⟩;have f6:=ka (Kd.V_lower (Kd.V_mono (ok':=fun z=>(w.heap.size≤z)∧z≠D∧z≠E∧z≠m) ho0 (fun z Q=>⟨Or.elim Q (fun G=>((Kd.R_types (Kd.R_types (Kd.R_types (b3.out) d.out (by decide)) l.out (by decide)) o.out (by decide)).1 z G.symm).1.1.1.1) (fun I=>(Nat.le_trans (below_size (kw HB.out)) I)),Or.elim Q (fun G=>((Kd.R_types (Kd.R_types (Kd.R_types (b3.out) d.out (by decide)) l.out (by decide)) o.out (by decide)).1 z G.symm).1.1.2) (fun I=>(kf d I)),Or.elim Q (fun G=>((Kd.R_types (Kd.R_types (Kd.R_types (b3.out) d.out (by decide)) l.out (by decide)) o.out (by decide)).1 z G.symm).1.2) (fun I=>(kf l I)),Or.elim Q (fun G=>((Kd.R_types (Kd.R_types (Kd.R_types (b3.out) d.out (by decide)) l.out (by decide)) o.out (by decide)).1 z G.symm).2) (fun I=>(kf o I))⟩)) (below_size (kw HB.out)));replace b3:=ka (Kd.R_below (kr b3.out) hb);replace d:=kbb d hb;replace l:=kbb l hb;replace o:=kbb o hb;replace HB:=ka (below_step (kw HB.out) hb);(try clear hb);(try clear hb2);(try clear hk);(try clear hi);(try clear ho0);obtain ⟨g9,h2,h3⟩:=Kd.V_slice f6.out;(first|subst h3|(injection h3 with f1_ f2_ f3_;have f4_:=f1_.symm;have f5_:=f3_.symm;clear f1_ f2_ f3_;subst f4_;subst f5_));refine hK.out _ _ ⟨(blk_cell d.out 0).trans rfl,(blk_cell d.out 1).trans rfl,(blk_cell l.out 0).trans rfl,(blk_cell l.out 1).trans rfl⟩ (fun hHeld=>?_);clear hK K;refine norm_ (a':=?_) ?_ ?_;rotate_left
  ·show Act.put _ (some 18) _ = _
   simp only [Act.put,List.setIfInBounds_toArray,List.set_cons_zero,List.set_cons_succ,i64_w,i32_w]
   rfl
  refine one_ (i:=8) (N:=none) #[true,true,true,true,true,true,true,true,true] rfl rfl (one_of HT_.out (by kernel_rfl)) (by decide) (fun K hK=>?_);have hs19 : j3.cell? ⟨m,0,none⟩ = some (.slice none 0 0):=(blk_cell o.out 0).trans rfl;have hfs19:=blk_frozen o.out 0;have hns19_0:=A.out;have hns19_1:=B.out;have hms19_0:=L.out;have hms19_1:=O.out;have hs20 : j3.cell? ⟨m,1,none⟩ = some (.bool false):=(blk_cell o.out 1).trans rfl;have hfs20:=blk_frozen o.out 1;have hns20_0:=A.out;have hns20_1:=B.out;have hms20_0:=L.out;have hms20_1:=O.out;refine skip_ (w1:=?_) (by rfl) rfl ?_ ?_;rotate_left
  ·go_simp
   rfl
  refine hK.out _ _ ⟨((cell_far (p:=⟨m,_,none⟩) A.out _).trans (((cell_far (p:=⟨m,_,none⟩) A.out _).trans (hHeld.1)))),((cell_far (p:=⟨m,_,none⟩) A.out _).trans (((cell_far (p:=⟨m,_,none⟩) A.out _).trans (hHeld.2.1)))),((cell_far (p:=⟨m,_,none⟩) B.out _).trans (((cell_far (p:=⟨m,_,none⟩) B.out _).trans (hHeld.2.2.1)))),((cell_far (p:=⟨m,_,none⟩) B.out _).trans (((cell_far (p:=⟨m,_,none⟩) B.out _).trans (hHeld.2.2.2))))⟩ (fun hHeld=>?_);clear hK K;refine done_ (done_of HT_.out (by kernel_rfl)) ?_;try go_wp2
  refine bodyPost_ret (results_cell_row rfl _ _ m 34 #[.slice g9 e0.length h2,.bool e1] (0,0) _ rfl (by (with_reducible repeat (first|apply kb1|apply kb2|apply kb3|apply blkPut2_1|apply blkPut2_0));exact o.out) Try.underlying34 rfl (by kernel_rfl)) rfl ?_;exact ⟨_,by first|rfl|(simp [errW_none,errW_some] <;> rfl)|(simp [*,errW_none,errW_some] <;> rfl),by (with_reducible repeat (first|apply Kd.V_alloc|apply Kd.V_drewN|apply Kd.V_drew));exact Kd.V_mono (Kd.V_far (p:=⟨m,1,none⟩) (Kd.V_far (p:=⟨m,0,none⟩) (Kd.V_mono f6.out (fun z hk=>(⟨hk,hk.2.2.2⟩ : _∧z≠m))) (fun _ hk=>hk.2) (.slice g9 e0.length h2)) (fun _ hk=>hk.2) (.bool e1)) (fun _ hk=>hk.1.1),by repeat (first|(with_reducible first|exact HB.out|apply kc1|apply kc2|apply kc3|refine kc4 ?_ b9.out|refine kc4 ?_ c5.out|refine kc4 ?_ c7.out)|exact HB.out)⟩
 ·rw [if_neg c3] at H
  have c3b0 : (a0_1 == a1_1) = false:=by simpa using c3
  (try (have c3b1 : decide (a0_1 = a1_1) = false:=by simpa using c3));(try (have c3b2 : (a0_1 == a1_1) = false:=by simpa using c3));(try (have c3b3 : ¬ (a0_1 = a1_1):=by simpa using c3));clear c3;replace H:=Option.bind_eq_some_iff.mp H;obtain ⟨d1,h4,H⟩:=H;replace H : (if d1 = true then ((trivetref01_minus.f k l1_0 l0_0).bind fun a8=>((trivetref01_norm.f k a8 a1_1).bind fun Z=>(some (Z.1,Z.2)))) else ((trivetref01_minus.f k l0_0 l1_0).bind fun a9=>((trivetref01_norm.f k a9 a0_1).bind fun a0=>(some (a0.1,a0.2))))) = some (r1,r2):=H;have j4:=ka h4;clear h4;by_cases c22 : d1 = true
  ·subst c22;have H1 : ((trivetref01_minus.f k l1_0 l0_0).bind fun a8=>((trivetref01_norm.f k a8 a1_1).bind fun Z=>(some (Z.1,Z.2)))) = some (r1,r2):=by rw [if_pos rfl] at H;exact H
   clear H;have H:=H1;clear H1;replace H:=Option.bind_eq_some_iff.mp H;obtain ⟨a8,h5,H⟩:=H;replace H : ((trivetref01_norm.f k a8 a1_1).bind fun Z=>(some (Z.1,Z.2))) = some (r1,r2):=H;have l3:=ka h5;clear h5;replace H:=Option.bind_eq_some_iff.mp H;obtain ⟨⟨e2,e3⟩,h6,H⟩:=H;replace H : (some (e2,e3)) = some (r1,r2):=H;have l4:=ka h6;clear h6;simp only [Option.some.injEq,Prod.mk.injEq] at H
   obtain ⟨rfl,rfl⟩:=H;go_enter Try.func16,Try.ntmps16
   try go_wp2_with (first|((with_reducible refine gate_dst (N:=2) rfl ?_);refine kx (N:=2) (cs:=#[.slice A0_0 l0_0.length c0_0,.bool a0_1]) (t:=34) ?_;intro D hg q8 hbox hb;have T:=ka (below_step (kw HB.out) hb);have W:=ka (hbox);have J:=ka ((by rw [hg];exact (below_size (kw HB.out)) : w.heap.size≤D));have F:=J;clear HB;have HB:=T;have d:=W;have f3:=J;have b9:=F;clear T W J F;clear hb hbox hg)|((with_reducible refine gate_dst (N:=3) rfl ?_);refine kx (N:=3) (cs:=#[.slice A1_0 l1_0.length c1_0,.bool a1_1]) (t:=34) ?_;intro E hg q9 hbox hb;have T:=ka (blk_below (g:=D) (kz d.out) hb);have W:=ka (below_step (kw HB.out) hb);have J:=ka (hbox);have F:=ka ((by rw [hg];exact (below_size (kw HB.out)) : w.heap.size≤E));have X:=F;have a5:=ka ((by rw [hg];exact Nat.ne_of_lt (blk_lt (g:=D) (kz d.out)) : D≠E));have a3:=ka a5.out.symm;clear d;clear HB;have d:=T;have HB:=W;have l:=J;have f4:=F;have c5:=X;have a6:=a5;have a7:=a3;clear T W J F X a5 a3;clear hb hbox hg)|((with_reducible refine gate_dst (N:=4) rfl ?_);refine kx (N:=4) (cs:=#[.slice none 0 0,.bool false]) (t:=34) ?_;intro m hg d3 hbox hb;have T:=ka (blk_below (g:=D) (kz d.out) hb);have W:=ka (blk_below (g:=E) (kz l.out) hb);have J:=ka (below_step (kw HB.out) hb);have F:=ka (hbox);have X:=ka ((by rw [hg];exact (below_size (kw HB.out)) : w.heap.size≤m));have a5:=X;have a3:=ka ((by rw [hg];exact Nat.ne_of_lt (blk_lt (g:=D) (kz d.out)) : D≠m));have b7:=ka a3.out.symm;have b8:=ka ((by rw [hg];exact Nat.ne_of_lt (blk_lt (g:=E) (kz l.out)) : E≠m));have d2:=ka b8.out.symm;clear d;clear l;clear HB;have d:=T;have l:=W;have HB:=J;have o:=F;have f5:=X;have c7:=a5;have A:=a3;have L:=b7;have B:=b8;have O:=d2;clear T W J F X a5 a3 b7 b8 d2;clear hb hbox hg;have m3:=a6.out;have m4:=a7.out;have m5:=A.out;have m6:=L.out;have m7:=blkAll2 d.out;have m8:=B.out;have m9:=O.out;have n0:=blkAll2 l.out)|((with_reducible refine gate_callee (f:=29) rfl ?_);refine kg (some 23) rfl rfl Try.func29 (by kernel_rfl) rfl #[.slice A0_0 l0_0.length c0_0,.slice A1_0 l1_0.length c1_0] rfl ?_;(with_reducible refine (trivetref01_less.calls k _ _ l0_0 _ _ l1_0 true _ ?side1 ?side2 ?side3 ?side4 j4.out).mono ?_);(case side1=>repeat (first|exact (Kd.C_below HR0_0.out HB.out)|(with_reducible refine Kd.C_alloc ?_ _)|(with_reducible refine Kd.C_drewN ?_ _)|(with_reducible refine Kd.C_drew ?_)));(case side2=>exact HC0_0.out);(case side3=>repeat (first|exact (Kd.C_below HR1_0.out HB.out)|(with_reducible refine Kd.C_alloc ?_ _)|(with_reducible refine Kd.C_drewN ?_ _)|(with_reducible refine Kd.C_drew ?_)));(case side4=>exact HC1_0.out);rintro e w' ⟨rfl,⟨nd,rfl⟩⟩;refine ⟨_,rfl,?_⟩;(try (rw [drewN_self d3];generalize hq_ : World.drewN d3 _ = d3;replace d : Aside0 (d3.heap[D]? = some (.cells #[.slice A0_0 l0_0.length c0_0,.bool a0_1] 34 (0,0))):=⟨by rw [← hq_];exact (kz d.out)⟩;replace l : Aside0 (d3.heap[E]? = some (.cells #[.slice A1_0 l1_0.length c1_0,.bool a1_1] 34 (0,0))):=⟨by rw [← hq_];exact (kz l.out)⟩;replace o : Aside0 (d3.heap[m]? = some (.cells #[.slice none 0 0,.bool false] 34 (0,0))):=⟨by rw [← hq_];exact (kz o.out)⟩;replace HB : Aside0 (Below w.heap.size w d3):=⟨by rw [← hq_];exact (kw HB.out)⟩;clear hq_))))
   replace d:=ka (blk_drew d.out);replace l:=ka (blk_drew l.out);replace o:=ka (blk_drew o.out);replace HB:=ka (below_drew1 HB.out);refine start_ (n:=9) (S:=fun w'=>w'.cell? ⟨E,0,none⟩ = some (.slice A1_0 l1_0.length c1_0)∧w'.cell? ⟨E,1,none⟩ = some (.bool a1_1)∧w'.cell? ⟨D,0,none⟩ = some (.slice A0_0 l0_0.length c0_0)∧w'.cell? ⟨D,1,none⟩ = some (.bool a0_1)) (ds:=[]) #[false,false,false,false,false,false,false,false,false] (by kernel_rfl) rfl rfl ⟨(blk_cell l.out 0).trans rfl,(blk_cell l.out 1).trans rfl,(blk_cell d.out 0).trans rfl,(blk_cell d.out 1).trans rfl⟩ (fun hHeld=>?_);refine with_tabW trivetref01_Add.tab5 trivetref01_Add.bits5 (fun HT_ HW_=>?_);generalize d3.drew = r0 at d l o HB hHeld ⊢;refine pure_ (i:=0) (N:=some 25) (v:=?_) (a':=?_) #[true,false,false,false,false,false,false,false,false] rfl rfl (any_of HT_.out (by kernel_rfl)) (fun _ _ _ h=>h) (Or.inl ⟨by rfl,?_⟩) ?_ ?_;rotate_left
   ·intro w';go_simp
    with_reducible rfl
   rotate_left
   ·simp only [Act.put,List.setIfInBounds_toArray,List.set_cons_zero,List.set_cons_succ,i64_w,i32_w]
    rfl
   refine pure_ (i:=2) (N:=some 27) (v:=?_) (a':=?_) #[true,false,true,false,false,false,false,false,false] rfl rfl (any_of HT_.out (by kernel_rfl)) (fun _ _ _ h=>h) (Or.inl ⟨by rfl,?_⟩) ?_ ?_;rotate_left
   ·intro w';go_simp
    with_reducible rfl
   rotate_left
   ·simp only [Act.put,List.setIfInBounds_toArray,List.set_cons_zero,List.set_cons_succ,i64_w,i32_w]
    rfl
   refine pure_ (i:=5) (N:=some 30) (v:=?_) (a':=?_) #[true,false,true,false,false,true,false,false,false] rfl rfl (any_of HT_.out (by kernel_rfl)) (fun _ _ _ h=>h) (Or.inl ⟨by rfl,?_⟩) ?_ ?_;rotate_left
   ·intro w';go_simp
    with_reducible rfl
   rotate_left
   ·simp only [Act.put,List.setIfInBounds_toArray,List.set_cons_zero,List.set_cons_succ,i64_w,i32_w]
    rfl
   refine take_ (i:=1) (N:=some 26) (v:=?_) (a':=?_) #[true,true,true,false,false,true,false,false,false] rfl rfl (take_ofW HT_.out HW_.out (by kernel_rfl)) (fun _ _ _ h=>h) (Or.inl ⟨by rfl,?_⟩) hHeld ?_ ?_;rotate_left
   ·rintro w' ⟨s0,s1,s2,s3⟩;go_simp
    with_reducible rfl
   rotate_left
   ·simp only [Act.put,List.setIfInBounds_toArray,List.set_cons_zero,List.set_cons_succ,i64_w,i32_w]
    rfl
   refine take_ (i:=3) (N:=some 28) (v:=?_) (a':=?_) #[true,true,true,true,false,true,false,false,false] rfl rfl (take_ofW HT_.out HW_.out (by kernel_rfl)) (fun _ _ _ h=>h) (Or.inl ⟨by rfl,?_⟩) hHeld ?_ ?_;rotate_left
   ·rintro w' ⟨s0,s1,s2,s3⟩;go_simp
    with_reducible rfl
   rotate_left
   ·simp only [Act.put,List.setIfInBounds_toArray,List.set_cons_zero,List.set_cons_succ,i64_w,i32_w]
    rfl
   refine take_ (i:=6) (N:=some 31) (v:=?_) (a':=?_) #[true,true,true,true,false,true,true,false,false] rfl rfl (take_ofW HT_.out HW_.out (by kernel_rfl)) (fun _ _ _ h=>h) (Or.inl ⟨by rfl,?_⟩) hHeld ?_ ?_;rotate_left
   ·rintro w' ⟨s0,s1,s2,s3⟩;go_simp
    with_reducible rfl
   rotate_left
   ·simp only [Act.put,List.setIfInBounds_toArray,List.set_cons_zero,List.set_cons_succ,i64_w,i32_w]
    rfl
   refine one_ (i:=4) (N:=some 29) #[true,true,true,true,true,true,true,false,false] rfl rfl (one_of HT_.out (by kernel_rfl)) (by decide) (fun K hK=>?_);refine goes_ Try.func30 (by kernel_rfl) rfl #[.slice A1_0 l1_0.length c1_0,.slice A0_0 l0_0.length c0_0] (by rfl) rfl rfl (by (try simp only [List.map_toArray,List.map_cons,List.map_nil]);first|done|rfl|(simp only [List.length_drop,List.length_take];rfl)) ?_;with_reducible refine (trivetref01_minus.calls k _ _ l1_0 _ _ l0_0 a8 _ ?side1 ?side2 ?side3 ?side4 l3.out).mono ?_
   (case side1=>repeat (first|exact (Kd.C_below HR1_0.out HB.out)|(with_reducible refine Kd.C_alloc ?_ _)|(with_reducible refine Kd.C_drewN ?_ _)|(with_reducible refine Kd.C_drew ?_)));(case side2=>exact HC1_0.out);(case side3=>repeat (first|exact (Kd.C_below HR0_0.out HB.out)|(with_reducible refine Kd.C_alloc ?_ _)|(with_reducible refine Kd.C_drewN ?_ _)|(with_reducible refine Kd.C_drew ?_)));(case side4=>exact HC0_0.out);rintro e r3 ⟨p5,rfl,ho0,hb⟩;refine ⟨_,rfl,?_⟩;have d5:=ka (Kd.V_lower (Kd.V_mono (ok':=fun z=>(w.heap.size≤z)∧z≠D∧z≠E∧z≠m) ho0 (fun z Q=>⟨(Nat.le_trans (below_size (kw HB.out)) Q),(kf d Q),(kf l Q),(kf o Q)⟩)) (below_size (kw HB.out)));replace d:=kbb d hb;replace l:=kbb l hb;replace o:=kbb o hb;replace HB:=ka (below_step (kw HB.out) hb);(try clear hb);(try clear hb2);(try clear hk);(try clear hi);(try clear ho0);obtain ⟨k2,k3,h7⟩:=Kd.V_slice d5.out;(first|subst h7|(injection h7 with f1_ f2_ f3_;have f4_:=f1_.symm;have f5_:=f3_.symm;clear f1_ f2_ f3_;subst f4_;subst f5_));refine hK.out _ _ ⟨(blk_cell l.out 0).trans rfl,(blk_cell l.out 1).trans rfl,(blk_cell d.out 0).trans rfl,(blk_cell d.out 1).trans rfl⟩ (fun hHeld=>?_);clear hK K;refine norm_ (a':=?_) ?_ ?_;rotate_left
   ·show Act.put _ (some 29) _ = _
    simp only [Act.put,List.setIfInBounds_toArray,List.set_cons_zero,List.set_cons_succ,i64_w,i32_w]
    rfl
   refine one_ (i:=7) (N:=some 32) #[true,true,true,true,true,true,true,true,false] rfl rfl (one_of HT_.out (by kernel_rfl)) (by decide) (fun K hK=>?_);refine goes_ Try.func28 (by kernel_rfl) rfl #[.slice k2 a8.length k3,.bool a1_1] (by rfl) rfl rfl (by (try simp only [List.map_toArray,List.map_cons,List.map_nil]);first|done|rfl|(simp only [List.length_drop,List.length_take];rfl)) ?_;with_reducible refine (trivetref01_norm.calls k (fun z=>((w.heap.size≤z)∧(z≠D∧(z≠E∧z≠m)))) _ _ a8 a1_1 e2 e3 _ ?side1 l4.out).mono ?_
   (case side1=>exact d5.out);rintro e j5 ⟨p6,rfl,ho0,hb⟩;refine ⟨_,rfl,?_⟩;replace d5:=kvb d5 hb;have f7:=ka (Kd.V_lower (Kd.V_mono (ok':=fun z=>(w.heap.size≤z)∧z≠D∧z≠E∧z≠m) ho0 (fun z Q=>⟨Or.elim Q (fun G=>G.1) (fun I=>(Nat.le_trans (below_size (kw HB.out)) I)),Or.elim Q (fun G=>G.2.1) (fun I=>(kf d I)),Or.elim Q (fun G=>G.2.2.1) (fun I=>(kf l I)),Or.elim Q (fun G=>G.2.2.2) (fun I=>(kf o I))⟩)) (below_size (kw HB.out)));replace d:=kbb d hb;replace l:=kbb l hb;replace o:=kbb o hb;replace HB:=ka (below_step (kw HB.out) hb);(try clear hb);(try clear hb2);(try clear hk);(try clear hi);(try clear ho0);obtain ⟨h8,h9,i0⟩:=Kd.V_slice f7.out;(first|subst i0|(injection i0 with f1_ f2_ f3_;have f4_:=f1_.symm;have f5_:=f3_.symm;clear f1_ f2_ f3_;subst f4_;subst f5_));refine hK.out _ _ ⟨(blk_cell l.out 0).trans rfl,(blk_cell l.out 1).trans rfl,(blk_cell d.out 0).trans rfl,(blk_cell d.out 1).trans rfl⟩ (fun hHeld=>?_);clear hK K;refine norm_ (a':=?_) ?_ ?_;rotate_left
   ·show Act.put _ (some 32) _ = _
    simp only [Act.put,List.setIfInBounds_toArray,List.set_cons_zero,List.set_cons_succ,i64_w,i32_w]
    rfl
   refine one_ (i:=8) (N:=none) #[true,true,true,true,true,true,true,true,true] rfl rfl (one_of HT_.out (by kernel_rfl)) (by decide) (fun K hK=>?_);have hs38 : j5.cell? ⟨m,0,none⟩ = some (.slice none 0 0):=(blk_cell o.out 0).trans rfl;have hfs38:=blk_frozen o.out 0;have hns38_0:=A.out;have hns38_1:=B.out;have hms38_0:=L.out;have hms38_1:=O.out;have hs39 : j5.cell? ⟨m,1,none⟩ = some (.bool false):=(blk_cell o.out 1).trans rfl;have hfs39:=blk_frozen o.out 1;have hns39_0:=A.out;have hns39_1:=B.out;have hms39_0:=L.out;have hms39_1:=O.out;refine skip_ (w1:=?_) (by rfl) rfl ?_ ?_;rotate_left
   ·go_simp
    rfl
   refine hK.out _ _ ⟨((cell_far (p:=⟨m,_,none⟩) B.out _).trans (((cell_far (p:=⟨m,_,none⟩) B.out _).trans (hHeld.1)))),((cell_far (p:=⟨m,_,none⟩) B.out _).trans (((cell_far (p:=⟨m,_,none⟩) B.out _).trans (hHeld.2.1)))),((cell_far (p:=⟨m,_,none⟩) A.out _).trans (((cell_far (p:=⟨m,_,none⟩) A.out _).trans (hHeld.2.2.1)))),((cell_far (p:=⟨m,_,none⟩) A.out _).trans (((cell_far (p:=⟨m,_,none⟩) A.out _).trans (hHeld.2.2.2))))⟩ (fun hHeld=>?_);clear hK K;refine done_ (done_of HT_.out (by kernel_rfl)) ?_;try go_wp2
   refine bodyPost_ret (results_cell_row rfl _ _ m 34 #[.slice h8 e2.length h9,.bool e3] (0,0) _ rfl (by (with_reducible repeat (first|apply kb1|apply kb2|apply kb3|apply blkPut2_1|apply blkPut2_0));exact o.out) Try.underlying34 rfl (by kernel_rfl)) rfl ?_;exact ⟨_,by first|rfl|(simp [errW_none,errW_some] <;> rfl)|(simp [*,errW_none,errW_some] <;> rfl),by (with_reducible repeat (first|apply Kd.V_alloc|apply Kd.V_drewN|apply Kd.V_drew));exact Kd.V_mono (Kd.V_far (p:=⟨m,1,none⟩) (Kd.V_far (p:=⟨m,0,none⟩) (Kd.V_mono f7.out (fun z hk=>(⟨hk,hk.2.2.2⟩ : _∧z≠m))) (fun _ hk=>hk.2) (.slice h8 e2.length h9)) (fun _ hk=>hk.2) (.bool e3)) (fun _ hk=>hk.1.1),by repeat (first|(with_reducible first|exact HB.out|apply kc1|apply kc2|apply kc3|refine kc4 ?_ b9.out|refine kc4 ?_ c5.out|refine kc4 ?_ c7.out)|exact HB.out)⟩
  ·replace c22:=Bool.eq_false_iff.mpr c22;subst c22;have H1 : ((trivetref01_minus.f k l0_0 l1_0).bind fun a9=>((trivetref01_norm.f k a9 a0_1).bind fun a0=>(some (a0.1,a0.2)))) = some (r1,r2):=by rw [if_neg (show ¬ (false = true) by decide)] at H;exact H
   clear H;have H:=H1;clear H1;replace H:=Option.bind_eq_some_iff.mp H;obtain ⟨a9,i1,H⟩:=H;replace H : ((trivetref01_norm.f k a9 a0_1).bind fun a0=>(some (a0.1,a0.2))) = some (r1,r2):=H;have f2:=ka i1;clear i1;replace H:=Option.bind_eq_some_iff.mp H;obtain ⟨⟨e4,e5⟩,i2,H⟩:=H;replace H : (some (e4,e5)) = some (r1,r2):=H;have l5:=ka i2;clear i2;simp only [Option.some.injEq,Prod.mk.injEq] at H
   obtain ⟨rfl,rfl⟩:=H;go_enter Try.func16,Try.ntmps16
   try go_wp2_with (first|((with_reducible refine gate_dst (N:=2) rfl ?_);refine kx (N:=2) (cs:=#[.slice A0_0 l0_0.length c0_0,.bool a0_1]) (t:=34) ?_;intro D hg r4 hbox hb;have T:=ka (below_step (kw HB.out) hb);have W:=ka (hbox);have J:=ka ((by rw [hg];exact (below_size (kw HB.out)) : w.heap.size≤D));have F:=J;clear HB;have HB:=T;have d:=W;have f3:=J;have b9:=F;clear T W J F;clear hb hbox hg)|((with_reducible refine gate_dst (N:=3) rfl ?_);refine kx (N:=3) (cs:=#[.slice A1_0 l1_0.length c1_0,.bool a1_1]) (t:=34) ?_;intro E hg r5 hbox hb;have T:=ka (blk_below (g:=D) (kz d.out) hb);have W:=ka (below_step (kw HB.out) hb);have J:=ka (hbox);have F:=ka ((by rw [hg];exact (below_size (kw HB.out)) : w.heap.size≤E));have X:=F;have a5:=ka ((by rw [hg];exact Nat.ne_of_lt (blk_lt (g:=D) (kz d.out)) : D≠E));have a3:=ka a5.out.symm;clear d;clear HB;have d:=T;have HB:=W;have l:=J;have f4:=F;have c5:=X;have a6:=a5;have a7:=a3;clear T W J F X a5 a3;clear hb hbox hg)|((with_reducible refine gate_dst (N:=4) rfl ?_);refine kx (N:=4) (cs:=#[.slice none 0 0,.bool false]) (t:=34) ?_;intro m hg d4 hbox hb;have T:=ka (blk_below (g:=D) (kz d.out) hb);have W:=ka (blk_below (g:=E) (kz l.out) hb);have J:=ka (below_step (kw HB.out) hb);have F:=ka (hbox);have X:=ka ((by rw [hg];exact (below_size (kw HB.out)) : w.heap.size≤m));have a5:=X;have a3:=ka ((by rw [hg];exact Nat.ne_of_lt (blk_lt (g:=D) (kz d.out)) : D≠m));have b7:=ka a3.out.symm;have b8:=ka ((by rw [hg];exact Nat.ne_of_lt (blk_lt (g:=E) (kz l.out)) : E≠m));have d2:=ka b8.out.symm;clear d;clear l;clear HB;have d:=T;have l:=W;have HB:=J;have o:=F;have f5:=X;have c7:=a5;have A:=a3;have L:=b7;have B:=b8;have O:=d2;clear T W J F X a5 a3 b7 b8 d2;clear hb hbox hg;have n1:=a6.out;have n2:=a7.out;have n3:=A.out;have n4:=L.out;have n5:=blkAll2 d.out;have n6:=B.out;have n7:=O.out;have n8:=blkAll2 l.out)|((with_reducible refine gate_callee (f:=29) rfl ?_);refine kg (some 23) rfl rfl Try.func29 (by kernel_rfl) rfl #[.slice A0_0 l0_0.length c0_0,.slice A1_0 l1_0.length c1_0] rfl ?_;(with_reducible refine (trivetref01_less.calls k _ _ l0_0 _ _ l1_0 false _ ?side1 ?side2 ?side3 ?side4 j4.out).mono ?_);(case side1=>repeat (first|exact (Kd.C_below HR0_0.out HB.out)|(with_reducible refine Kd.C_alloc ?_ _)|(with_reducible refine Kd.C_drewN ?_ _)|(with_reducible refine Kd.C_drew ?_)));(case side2=>exact HC0_0.out);(case side3=>repeat (first|exact (Kd.C_below HR1_0.out HB.out)|(with_reducible refine Kd.C_alloc ?_ _)|(with_reducible refine Kd.C_drewN ?_ _)|(with_reducible refine Kd.C_drew ?_)));(case side4=>exact HC1_0.out);rintro e w' ⟨rfl,⟨nd,rfl⟩⟩;refine ⟨_,rfl,?_⟩;(try (rw [drewN_self d4];generalize hq_ : World.drewN d4 _ = d4;replace d : Aside0 (d4.heap[D]? = some (.cells #[.slice A0_0 l0_0.length c0_0,.bool a0_1] 34 (0,0))):=⟨by rw [← hq_];exact (kz d.out)⟩;replace l : Aside0 (d4.heap[E]? = some (.cells #[.slice A1_0 l1_0.length c1_0,.bool a1_1] 34 (0,0))):=⟨by rw [← hq_];exact (kz l.out)⟩;replace o : Aside0 (d4.heap[m]? = some (.cells #[.slice none 0 0,.bool false] 34 (0,0))):=⟨by rw [← hq_];exact (kz o.out)⟩;replace HB : Aside0 (Below w.heap.size w d4):=⟨by rw [← hq_];exact (kw HB.out)⟩;clear hq_))))
   replace d:=ka (blk_drew d.out);replace l:=ka (blk_drew l.out);replace o:=ka (blk_drew o.out);replace HB:=ka (below_drew1 HB.out);refine start_ (n:=9) (S:=fun w'=>w'.cell? ⟨D,0,none⟩ = some (.slice A0_0 l0_0.length c0_0)∧w'.cell? ⟨D,1,none⟩ = some (.bool a0_1)∧w'.cell? ⟨E,0,none⟩ = some (.slice A1_0 l1_0.length c1_0)∧w'.cell? ⟨E,1,none⟩ = some (.bool a1_1)) (ds:=[]) #[false,false,false,false,false,false,false,false,false] (by kernel_rfl) rfl rfl ⟨(blk_cell d.out 0).trans rfl,(blk_cell d.out 1).trans rfl,(blk_cell l.out 0).trans rfl,(blk_cell l.out 1).trans rfl⟩ (fun hHeld=>?_);refine with_tabW trivetref01_Add.tab6 trivetref01_Add.bits6 (fun HT_ HW_=>?_);generalize d4.drew = r6 at d l o HB hHeld ⊢;refine pure_ (i:=0) (N:=some 33) (v:=?_) (a':=?_) #[true,false,false,false,false,false,false,false,false] rfl rfl (any_of HT_.out (by kernel_rfl)) (fun _ _ _ h=>h) (Or.inl ⟨by rfl,?_⟩) ?_ ?_;rotate_left
   ·intro w';go_simp
    with_reducible rfl
   rotate_left
   ·simp only [Act.put,List.setIfInBounds_toArray,List.set_cons_zero,List.set_cons_succ,i64_w,i32_w]
    rfl
   refine pure_ (i:=2) (N:=some 35) (v:=?_) (a':=?_) #[true,false,true,false,false,false,false,false,false] rfl rfl (any_of HT_.out (by kernel_rfl)) (fun _ _ _ h=>h) (Or.inl ⟨by rfl,?_⟩) ?_ ?_;rotate_left
   ·intro w';go_simp
    with_reducible rfl
   rotate_left
   ·simp only [Act.put,List.setIfInBounds_toArray,List.set_cons_zero,List.set_cons_succ,i64_w,i32_w]
    rfl
   refine pure_ (i:=5) (N:=some 38) (v:=?_) (a':=?_) #[true,false,true,false,false,true,false,false,false] rfl rfl (any_of HT_.out (by kernel_rfl)) (fun _ _ _ h=>h) (Or.inl ⟨by rfl,?_⟩) ?_ ?_;rotate_left
   ·intro w';go_simp
    with_reducible rfl
   rotate_left
   ·simp only [Act.put,List.setIfInBounds_toArray,List.set_cons_zero,List.set_cons_succ,i64_w,i32_w]
    rfl
   refine take_ (i:=1) (N:=some 34) (v:=?_) (a':=?_) #[true,true,true,false,false,true,false,false,false] rfl rfl (take_ofW HT_.out HW_.out (by kernel_rfl)) (fun _ _ _ h=>h) (Or.inl ⟨by rfl,?_⟩) hHeld ?_ ?_;rotate_left
   ·rintro w' ⟨s0,s1,s2,s3⟩;go_simp
    with_reducible rfl
   rotate_left
   ·simp only [Act.put,List.setIfInBounds_toArray,List.set_cons_zero,List.set_cons_succ,i64_w,i32_w]
    rfl
   refine take_ (i:=3) (N:=some 36) (v:=?_) (a':=?_) #[true,true,true,true,false,true,false,false,false] rfl rfl (take_ofW HT_.out HW_.out (by kernel_rfl)) (fun _ _ _ h=>h) (Or.inl ⟨by rfl,?_⟩) hHeld ?_ ?_;rotate_left
   ·rintro w' ⟨s0,s1,s2,s3⟩;go_simp
    with_reducible rfl
   rotate_left
   ·simp only [Act.put,List.setIfInBounds_toArray,List.set_cons_zero,List.set_cons_succ,i64_w,i32_w]
    rfl
   refine take_ (i:=6) (N:=some 39) (v:=?_) (a':=?_) #[true,true,true,true,false,true,true,false,false] rfl rfl (take_ofW HT_.out HW_.out (by kernel_rfl)) (fun _ _ _ h=>h) (Or.inl ⟨by rfl,?_⟩) hHeld ?_ ?_;rotate_left
   ·rintro w' ⟨s0,s1,s2,s3⟩;go_simp
    with_reducible rfl
   rotate_left
   ·simp only [Act.put,List.setIfInBounds_toArray,List.set_cons_zero,List.set_cons_succ,i64_w,i32_w]
    rfl
   refine one_ (i:=4) (N:=some 37) #[true,true,true,true,true,true,true,false,false] rfl rfl (one_of HT_.out (by kernel_rfl)) (by decide) (fun K hK=>?_);refine goes_ Try.func30 (by kernel_rfl) rfl #[.slice A0_0 l0_0.length c0_0,.slice A1_0 l1_0.length c1_0] (by rfl) rfl rfl (by (try simp only [List.map_toArray,List.map_cons,List.map_nil]);first|done|rfl|(simp only [List.length_drop,List.length_take];rfl)) ?_;with_reducible refine (trivetref01_minus.calls k _ _ l0_0 _ _ l1_0 a9 _ ?side1 ?side2 ?side3 ?side4 f2.out).mono ?_
   (case side1=>repeat (first|exact (Kd.C_below HR0_0.out HB.out)|(with_reducible refine Kd.C_alloc ?_ _)|(with_reducible refine Kd.C_drewN ?_ _)|(with_reducible refine Kd.C_drew ?_)));(case side2=>exact HC0_0.out);(case side3=>repeat (first|exact (Kd.C_below HR1_0.out HB.out)|(with_reducible refine Kd.C_alloc ?_ _)|(with_reducible refine Kd.C_drewN ?_ _)|(with_reducible refine Kd.C_drew ?_)));(case side4=>exact HC1_0.out);rintro e r7 ⟨p7,rfl,ho0,hb⟩;refine ⟨_,rfl,?_⟩;have d6:=ka (Kd.V_lower (Kd.V_mono (ok':=fun z=>(w.heap.size≤z)∧z≠D∧z≠E∧z≠m) ho0 (fun z Q=>⟨(Nat.le_trans (below_size (kw HB.out)) Q),(kf d Q),(kf l Q),(kf o Q)⟩)) (below_size (kw HB.out)));replace d:=kbb d hb;replace l:=kbb l hb;replace o:=kbb o hb;replace HB:=ka (below_step (kw HB.out) hb);(try clear hb);(try clear hb2);(try clear hk);(try clear hi);(try clear ho0);obtain ⟨k4,k5,i3⟩:=Kd.V_slice d6.out;(first|subst i3|(injection i3 with f1_ f2_ f3_;have f4_:=f1_.symm;have f5_:=f3_.symm;clear f1_ f2_ f3_;subst f4_;subst f5_));refine hK.out _ _ ⟨(blk_cell d.out 0).trans rfl,(blk_cell d.out 1).trans rfl,(blk_cell l.out 0).trans rfl,(blk_cell l.out 1).trans rfl⟩ (fun hHeld=>?_);clear hK K;refine norm_ (a':=?_) ?_ ?_;rotate_left
   ·show Act.put _ (some 37) _ = _
    simp only [Act.put,List.setIfInBounds_toArray,List.set_cons_zero,List.set_cons_succ,i64_w,i32_w]
    rfl
   refine one_ (i:=7) (N:=some 40) #[true,true,true,true,true,true,true,true,false] rfl rfl (one_of HT_.out (by kernel_rfl)) (by decide) (fun K hK=>?_);refine goes_ Try.func28 (by kernel_rfl) rfl #[.slice k4 a9.length k5,.bool a0_1] (by rfl) rfl rfl (by (try simp only [List.map_toArray,List.map_cons,List.map_nil]);first|done|rfl|(simp only [List.length_drop,List.length_take];rfl)) ?_;with_reducible refine (trivetref01_norm.calls k (fun z=>((w.heap.size≤z)∧(z≠D∧(z≠E∧z≠m)))) _ _ a9 a0_1 e4 e5 _ ?side1 l5.out).mono ?_
   (case side1=>exact d6.out);rintro e j6 ⟨p8,rfl,ho0,hb⟩;refine ⟨_,rfl,?_⟩;replace d6:=kvb d6 hb;have f8:=ka (Kd.V_lower (Kd.V_mono (ok':=fun z=>(w.heap.size≤z)∧z≠D∧z≠E∧z≠m) ho0 (fun z Q=>⟨Or.elim Q (fun G=>G.1) (fun I=>(Nat.le_trans (below_size (kw HB.out)) I)),Or.elim Q (fun G=>G.2.1) (fun I=>(kf d I)),Or.elim Q (fun G=>G.2.2.1) (fun I=>(kf l I)),Or.elim Q (fun G=>G.2.2.2) (fun I=>(kf o I))⟩)) (below_size (kw HB.out)));replace d:=kbb d hb;replace l:=kbb l hb;replace o:=kbb o hb;replace HB:=ka (below_step (kw HB.out) hb);(try clear hb);(try clear hb2);(try clear hk);(try clear hi);(try clear ho0);obtain ⟨i4,i5,i6⟩:=Kd.V_slice f8.out;(first|subst i6|(injection i6 with f1_ f2_ f3_;have f4_:=f1_.symm;have f5_:=f3_.symm;clear f1_ f2_ f3_;subst f4_;subst f5_));refine hK.out _ _ ⟨(blk_cell d.out 0).trans rfl,(blk_cell d.out 1).trans rfl,(blk_cell l.out 0).trans rfl,(blk_cell l.out 1).trans rfl⟩ (fun hHeld=>?_);clear hK K;refine norm_ (a':=?_) ?_ ?_;rotate_left
   ·show Act.put _ (some 40) _ = _
    simp only [Act.put,List.setIfInBounds_toArray,List.set_cons_zero,List.set_cons_succ,i64_w,i32_w]
    rfl
   refine one_ (i:=8) (N:=none) #[true,true,true,true,true,true,true,true,true] rfl rfl (one_of HT_.out (by kernel_rfl)) (by decide) (fun K hK=>?_);have hs55 : j6.cell? ⟨m,0,none⟩ = some (.slice none 0 0):=(blk_cell o.out 0).trans rfl;have hfs55:=blk_frozen o.out 0;have hns55_0:=A.out;have hns55_1:=B.out;have hms55_0:=L.out;have hms55_1:=O.out;have hs56 : j6.cell? ⟨m,1,none⟩ = some (.bool false):=(blk_cell o.out 1).trans rfl;have hfs56:=blk_frozen o.out 1;have hns56_0:=A.out;have hns56_1:=B.out;have hms56_0:=L.out;have hms56_1:=O.out;refine skip_ (w1:=?_) (by rfl) rfl ?_ ?_;rotate_left
   ·go_simp
    rfl
   refine hK.out _ _ ⟨((cell_far (p:=⟨m,_,none⟩) A.out _).trans (((cell_far (p:=⟨m,_,none⟩) A.out _).trans (hHeld.1)))),((cell_far (p:=⟨m,_,none⟩) A.out _).trans (((cell_far (p:=⟨m,_,none⟩) A.out _).trans (hHeld.2.1)))),((cell_far (p:=⟨m,_,none⟩) B.out _).trans (((cell_far (p:=⟨m,_,none⟩) B.out _).trans (hHeld.2.2.1)))),((cell_far (p:=⟨m,_,none⟩) B.out _).trans (((cell_far (p:=⟨m,_,none⟩) B.out _).trans (hHeld.2.2.2))))⟩ (fun hHeld=>?_);clear hK K;refine done_ (done_of HT_.out (by kernel_rfl)) ?_;try go_wp2
   refine bodyPost_ret (results_cell_row rfl _ _ m 34 #[.slice i4 e4.length i5,.bool e5] (0,0) _ rfl (by (with_reducible repeat (first|apply kb1|apply kb2|apply kb3|apply blkPut2_1|apply blkPut2_0));exact o.out) Try.underlying34 rfl (by kernel_rfl)) rfl ?_;exact ⟨_,by first|rfl|(simp [errW_none,errW_some] <;> rfl)|(simp [*,errW_none,errW_some] <;> rfl),by (with_reducible repeat (first|apply Kd.V_alloc|apply Kd.V_drewN|apply Kd.V_drew));exact Kd.V_mono (Kd.V_far (p:=⟨m,1,none⟩) (Kd.V_far (p:=⟨m,0,none⟩) (Kd.V_mono f8.out (fun z hk=>(⟨hk,hk.2.2.2⟩ : _∧z≠m))) (fun _ hk=>hk.2) (.slice i4 e4.length i5)) (fun _ hk=>hk.2) (.bool e5)) (fun _ hk=>hk.1.1),by repeat (first|(with_reducible first|exact HB.out|apply kc1|apply kc2|apply kc3|refine kc4 ?_ b9.out|refine kc4 ?_ c5.out|refine kc4 ?_ c7.out)|exact HB.out)⟩

/-! ### trivetref01_Add: function 16,its laws -/
theorem trivetref01_Add.num (k : Nat) (x y : Int) (hx : M.abs x < 65536 ^ 64) (hy : M.abs y < 65536 ^ 64) (hk : 300≤k) : trivetref01_Add.f k (U.num x).1 (U.num x).2 (U.num y).1 (U.num y).2 = some (U.num (x + y)):=by
 have lx:=U.len_dig 64 _ hx;have ly:=U.len_dig 64 _ hy;have x0:=U.abs_nonneg x;have y0:=U.abs_nonneg y;have vx:=U.val_dig x0;have vy:=U.val_dig y0;have a1 : M.abs x = if x < 0 then -x else x:=rfl;have a2 : M.abs y = if y < 0 then -y else y:=rfl;show trivetref01_Add.f k (U.dig (M.abs x)) (decide (x < 0)) (U.dig (M.abs y)) (decide (y < 0)) = _
 unfold trivetref01_Add.f
 by_cases h : (decide (x < 0) == decide (y < 0)) = true
 ·rw [if_pos h]
  obtain ⟨out,o1,o2,o3,o4⟩:=trivetref01_plus.num k (U.dig (M.abs x)) (U.dig (M.abs y)) (U.dig_dg _) (U.dig_dg _) (by omega) (by omega) (by omega);rw [o1,Option.bind_some,trivetref01_norm.num k out (decide (x < 0)) (x + y) o2 (by omega) (by omega)]
  ·rfl
  ·rw [o3,vx,vy,a1,a2]
   by_cases c : x < 0
   ·have c2 : y < 0:=by simpa [c] using h
    simp only [decide_eq_true c,if_true,if_pos c,if_pos c2];omega
   ·have c2 : ¬ y < 0:=by simpa [c] using h
    simp only [decide_eq_false c,if_neg c,if_neg c2];simp
 ·rw [if_neg h,trivetref01_less.num k _ _ x0 y0 (by omega) (by omega) (by omega),Option.bind_some]
  have hs : (x < 0∧¬ y < 0)∨(¬ x < 0∧y < 0):=by
   by_cases c : x < 0 <;> by_cases c2 : y < 0 <;> simp [c,c2] at h ⊢
  by_cases hl : M.abs x < M.abs y
  ·rw [decide_eq_true hl,if_pos rfl,trivetref01_minus.num k _ _ x0 (by omega) (by omega) (by omega),Option.bind_some,trivetref01_norm.num k _ (decide (y < 0)) (x + y) (U.dig_dg _)]
   ·rfl
   ·have:=U.len_dig 64 (M.abs y - M.abs x) (by omega);omega
   ·have:=U.len_dig 64 (M.abs y - M.abs x) (by omega);omega
   ·rw [U.val_dig (by omega),a1,a2]
    rcases hs with ⟨c,c2⟩|⟨c,c2⟩
    ·simp [c,c2];omega
    ·simp only [decide_eq_true c2,if_neg c,if_pos c2,if_true];omega
  ·rw [decide_eq_false hl,if_neg (by decide),trivetref01_minus.num k _ _ y0 (by omega) (by omega) (by omega),Option.bind_some,trivetref01_norm.num k _ (decide (x < 0)) (x + y) (U.dig_dg _)]
   ·rfl
   ·have:=U.len_dig 64 (M.abs x - M.abs y) (by omega);omega
   ·have:=U.len_dig 64 (M.abs x - M.abs y) (by omega);omega
   ·rw [U.val_dig (by omega),a1,a2]
    rcases hs with ⟨c,c2⟩|⟨c,c2⟩
    ·simp only [decide_eq_true c,if_pos c,if_neg c2,if_true];omega
    ·simp only [decide_eq_false c,if_neg c,if_pos c2];simp <;> omega

/-! ### trivetref01_Neg: function 17 -/
def trivetref01_Neg.f (k : Nat) (l0_0 : List Int) (a0_1 : Bool) : Option (List Int × Bool):=(trivetref01_norm.f k l0_0 (!a0_1)).bind fun c8=>(some (c8.1,c8.2))
set_option maxHeartbeats 8000000 in
set_option maxRecDepth 100000 in
theorem trivetref01_Neg.calls (k : Nat) (c9 : Nat→Prop) (A0_0 : Option Addr) (c0_0 : Nat) (l0_0 : List Int) (a0_1 : Bool) (r1 : List Int) (r2 : Bool) (w : World) (hs0_0 : Kd.V (Kd.int .u64) 42 w w.heap.size (fun z=>c9 z) (.slice A0_0 l0_0.length c0_0) l0_0) (h : trivetref01_Neg.f k l0_0 a0_1 = some (r1,r2)) :
  Calls Try.prog 17 #[.agg #[.slice A0_0 l0_0.length c0_0,.bool a0_1]] w fun e w'=>∃ v0_ : Value,e = .returned (.agg #[v0_,.bool r2])∧Kd.V (Kd.int .u64) 42 w' w.heap.size (fun z=>(c9 z∨w.heap.size≤z)) v0_ r1∧Below w.heap.size w w':=by
 have hu34:=Try.underlying34;have b0:=ka (show Kd.V (Kd.int .u64) 42 w w.heap.size (fun z=>(c9 z∨w.heap.size≤z)) (.slice A0_0 l0_0.length c0_0) l0_0 from Kd.V_mono hs0_0 (fun z hk=>.inl hk));have HB:=ka (Below.refl w.heap.size w);have H : ((trivetref01_norm.f k l0_0 (!a0_1)).bind fun c8=>(some (c8.1,c8.2))) = some (r1,r2):=h;clear h;replace H:=Option.bind_eq_some_iff.mp H;obtain ⟨⟨e6,e7⟩,j7,H⟩:=H;replace H : (some (e6,e7)) = some (r1,r2):=H;have A2:=ka j7;clear j7;simp only [Option.some.injEq,Prod.mk.injEq] at H
 obtain ⟨rfl,rfl⟩:=H;go_enter Try.func17,Try.ntmps17
 go_wp2_with (first|((with_reducible refine gate_dst (N:=1) rfl ?_);refine kx (N:=1) (cs:=#[.slice A0_0 l0_0.length c0_0,.bool a0_1]) (t:=34) ?_;intro b6 hg w3 hbox hb;have T:=ka (Kd.V_below (Kd.V_elderB (kv b0.out) b6 (Nat.le_of_eq hg.symm)) hb);have W:=ka (below_step (kw HB.out) hb);have J:=ka (hbox);have F:=ka ((by rw [hg];exact (below_size (kw HB.out)) : w.heap.size≤b6));have X:=F;clear b0;clear HB;have b0:=T;have HB:=W;have b4:=J;have n9:=F;have i9:=X;clear T W J F X;clear hb hbox hg)|((with_reducible refine gate_dst (N:=2) rfl ?_);refine kx (N:=2) (cs:=#[.slice none 0 0,.bool false]) (t:=34) ?_;intro b1 hg w4 hbox hb;have T:=ka (Kd.V_below (Kd.V_elderB (kv b0.out) b1 (Nat.le_of_eq hg.symm)) hb);have W:=ka (blk_below (g:=b6) (kz b4.out) hb);have J:=ka (below_step (kw HB.out) hb);have F:=ka (hbox);have X:=ka ((by rw [hg];exact (below_size (kw HB.out)) : w.heap.size≤b1));have a5:=X;have a3:=ka ((by rw [hg];exact Nat.ne_of_lt (blk_lt (g:=b6) (kz b4.out)) : b6≠b1));have b7:=ka a3.out.symm;clear b0;clear b4;clear HB;have b0:=T;have b4:=W;have HB:=J;have d0:=F;have o0:=X;have j0:=a5;have e9:=a3;have f0:=b7;clear T W J F X a5 a3 b7;clear hb hbox hg;have q0:=e9.out;have q1:=f0.out;have q2:=blkAll2 b4.out)|((with_reducible refine gate_callee (f:=28) rfl ?_);refine kg (some 8) rfl rfl Try.func28 (by kernel_rfl) rfl #[.slice A0_0 l0_0.length c0_0,.bool (!a0_1)] rfl ?_;(with_reducible refine (trivetref01_norm.calls k (fun z=>(((c9 z∨w.heap.size≤z)∧z≠b6)∧z≠b1)) _ _ l0_0 (!a0_1) e6 e7 _ ?side1 A2.out).mono ?_);(case side1=>exact b0.out);rintro e w7 ⟨q3,rfl,ho0,hb⟩;refine ⟨_,rfl,?_⟩;replace b0:=kvb b0 hb;have f9:=ka (Kd.V_lower (Kd.V_mono (ok':=fun z=>(c9 z∨w.heap.size≤z)∧z≠b6∧z≠b1) ho0 (fun z Q=>⟨Or.elim Q (fun G=>G.1.1) (fun I=>(.inr (Nat.le_trans (below_size (kw HB.out)) I))),Or.elim Q (fun G=>G.1.2) (fun I=>(kf b4 I)),Or.elim Q (fun G=>G.2) (fun I=>(kf d0 I))⟩)) (below_size (kw HB.out)));replace b4:=kbb b4 hb;replace d0:=kbb d0 hb;replace HB:=ka (below_step (kw HB.out) hb);(try clear hb);(try clear hb2);(try clear hk);(try clear hi);(try clear ho0);obtain ⟨j8,j9,l6⟩:=Kd.V_slice f9.out;subst l6;have q4:=blkAll2 d0.out))
 refine bodyPost_ret (results_cell_row rfl _ _ b1 34 #[.slice j8 e6.length j9,.bool e7] (0,0) _ rfl (by (with_reducible repeat (first|apply kb1|apply kb2|apply kb3|apply blkPut2_1|apply blkPut2_0));exact d0.out) Try.underlying34 rfl (by kernel_rfl)) rfl ?_;exact ⟨_,by first|rfl|(simp [errW_none,errW_some] <;> rfl)|(simp [*,errW_none,errW_some] <;> rfl),by (with_reducible repeat (first|apply Kd.V_alloc|apply Kd.V_drewN|apply Kd.V_drew));exact Kd.V_mono (Kd.V_far (p:=⟨b1,1,none⟩) (Kd.V_far (p:=⟨b1,0,none⟩) (Kd.V_mono f9.out (fun z hk=>(⟨hk,hk.2.2⟩ : _∧z≠b1))) (fun _ hk=>hk.2) (.slice j8 e6.length j9)) (fun _ hk=>hk.2) (.bool e7)) (fun _ hk=>hk.1.1),by repeat (first|(with_reducible first|exact HB.out|apply kc1|apply kc2|apply kc3|refine kc4 ?_ i9.out|refine kc4 ?_ j0.out)|exact HB.out)⟩

/-! ### trivetref01_Neg: function 17,its laws -/
theorem trivetref01_Neg.num (k : Nat) (x : Int) (hx : M.abs x < 65536 ^ 64) (hk : 300≤k) : trivetref01_Neg.f k (U.num x).1 (U.num x).2 = some (U.num (-x)):=by
 have lx:=U.len_dig 64 _ hx;have x0:=U.abs_nonneg x;have vx:=U.val_dig x0;show trivetref01_Neg.f k (U.dig (M.abs x)) (decide (x < 0)) = _
 unfold trivetref01_Neg.f
 rw [trivetref01_norm.num k _ (!decide (x < 0)) (-x) (U.dig_dg _) (by omega) (by omega)]
 ·rfl
 ·rw [vx]
  unfold M.abs
  by_cases c : x < 0
  ·simp [c]
  ·simp [c]

end Go.Proofs.Ytcpmfdagnchlbaa.P
