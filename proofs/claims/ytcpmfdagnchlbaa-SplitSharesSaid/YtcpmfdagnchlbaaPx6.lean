-- Written by a program of this session out of the translation of the seat: Lean functions and the proofs that the Go functions come to them.
import Derived.Test.YtcpmfdagnchlbaaPx0
import Derived.Test.YtcpmfdagnchlbaaPx5
namespace Go.Proofs.Ytcpmfdagnchlbaa.P
open Go.RowKit Go.Proofs.YtcpmfdagnchlbaaW.PrintWords Go.Proofs.YtcpmfdagnchlbaaW.PrintLast Go.Proofs.YtcpmfdagnchlbaaW.PrintMore
attribute [local go_sem] max2_int min2_int max_two min_two max_three min_three max_four min_four   -- for this text's walks alone
set_option linter.unusedVariables false
set_option linter.unusedSimpArgs false

/-! ### trivetref01_Mul: function 14 -/
mutual
def trivetref01_Mul.l0 : Nat→List Int→Int→List Int→Bool→List Int→Bool→Option (List Int × Bool)
 | 0,_,_,_,_,_,_=>none
 | k + 1,x5,x6,x461000,x461001,x462000,x462001=>if x6 < (x461000.length : Int) then (if 0≤x6 then (if (x6 : Int).toNat≤35184372088832 then (trivetref01_Mul.l1 k x5 x6 (List.replicate (x6 : Int).toNat 0) 0 0 x461000 x461001 x462000 x462001) else (none)) else (none)) else ((trivetref01_norm.f k x5 (!(x461001 == x462001))).bind fun e8=>(some (e8.1,e8.2)))
def trivetref01_Mul.l1 : Nat→List Int→Int→List Int→Int→Int→List Int→Bool→List Int→Bool→Option (List Int × Bool)
 | 0,_,_,_,_,_,_,_,_,_=>none
 | k + 1,x5,x6,x7,x8,x9,x461000,x461001,x462000,x462001=>if x9 < (x462000.length : Int) then (if 0≤x6 then (if x6 < (x461000.length : Int) then (if 0≤x9 then (if x7.length < 17592186044416 then (trivetref01_Mul.l1 k x5 x6 (x7 ++ [Int.tmod (IntKind.u64.wrap ((IntKind.u64.wrap ((rd x461000 x6) * (rd x462000 x9))) + x8)) 65536]) (IntKind.u64.wrap (Int.tdiv (IntKind.u64.wrap ((IntKind.u64.wrap ((rd x461000 x6) * (rd x462000 x9))) + x8)) 65536)) (wrap64 (x9 + 1)) x461000 x461001 x462000 x462001) else (none)) else (none)) else (none)) else (none)) else (if x7.length < 17592186044416 then ((trivetref01_plus.f k x5 (x7 ++ [x8])).bind fun a8=>(trivetref01_Mul.l0 k a8 (wrap64 (x6 + 1)) x461000 x461001 x462000 x462001)) else (none))
end
def trivetref01_Mul.f (k : Nat) (l0_0 : List Int) (a0_1 : Bool) (l1_0 : List Int) (a1_1 : Bool) : Option (List Int × Bool):=trivetref01_Mul.l0 k ([] : List Int) 0 l0_0 a0_1 l1_0 a1_1
set_option maxHeartbeats 8000000 in
set_option maxRecDepth 100000 in
theorem trivetref01_Mul.calls (k : Nat) (A0_0 : Option Addr) (c0_0 : Nat) (l0_0 : List Int) (a0_1 : Bool) (A1_0 : Option Addr) (c1_0 : Nat) (l1_0 : List Int) (a1_1 : Bool) (r1 : List Int) (r2 : Bool) (w : World) (hr0_0 : Kd.C (Kd.int .u64) w A0_0 l0_0.length l0_0) (hc0_0 : l0_0.length≤c0_0) (hr1_0 : Kd.C (Kd.int .u64) w A1_0 l1_0.length l1_0) (hc1_0 : l1_0.length≤c1_0) (h : trivetref01_Mul.f k l0_0 a0_1 l1_0 a1_1 = some (r1,r2)) :
  Calls Try.prog 14 #[.agg #[.slice A0_0 l0_0.length c0_0,.bool a0_1],.agg #[.slice A1_0 l1_0.length c1_0,.bool a1_1]] w fun e w'=>∃ v0_ : Value,e = .returned (.agg #[v0_,.bool r2])∧Kd.V (Kd.int .u64) 42 w' w.heap.size (fun B=>(w.heap.size≤B)) v0_ r1∧Below w.heap.size w w':=by
 have hu34:=Try.underlying34;have HR0_0:=ka hr0_0;have HC0_0:=ka hc0_0;clear hr0_0 hc0_0;have HR1_0:=ka hr1_0;have HC1_0:=ka hc1_0;clear hr1_0 hc1_0;have HB:=ka (Below.refl w.heap.size w);have H : (trivetref01_Mul.l0 k ([] : List Int) 0 l0_0 a0_1 l1_0 a1_1) = some (r1,r2):=h;clear h;have H':=ka H;clear H;go_enter Try.func14,Try.ntmps14
 go_wp2_with (first|((with_reducible refine gate_dst (N:=2) rfl ?_);refine kx (N:=2) (cs:=#[.slice A0_0 l0_0.length c0_0,.bool a0_1]) (t:=34) ?_;intro D hg w3 hbox hb;have L:=ka (below_step (kw HB.out) hb);have O:=ka (hbox);have J:=ka ((by rw [hg];exact (below_size (kw HB.out)) : w.heap.size≤D));have K:=J;clear HB;have HB:=L;have l:=O;have e9:=J;have a9:=K;clear L O J K;clear hb hbox hg)|((with_reducible refine gate_dst (N:=3) rfl ?_);refine kx (N:=3) (cs:=#[.slice A1_0 l1_0.length c1_0,.bool a1_1]) (t:=34) ?_;intro E hg w4 hbox hb;have L:=ka (blk_below (g:=D) (kz l.out) hb);have O:=ka (below_step (kw HB.out) hb);have J:=ka (hbox);have K:=ka ((by rw [hg];exact (below_size (kw HB.out)) : w.heap.size≤E));have W:=K;have X:=ka ((by rw [hg];exact Nat.ne_of_lt (blk_lt (g:=D) (kz l.out)) : D≠E));have Y:=ka X.out.symm;clear l;clear HB;have l:=L;have HB:=O;have m:=J;have f0:=K;have b0:=W;have Z:=X;have a1:=Y;clear L O J K W X Y;clear hb hbox hg)|((with_reducible refine gate_dst (N:=4) rfl ?_);refine kx (N:=4) (cs:=#[.slice none 0 0,.bool false]) (t:=34) ?_;intro F hg w5 hbox hb;have L:=ka (blk_below (g:=D) (kz l.out) hb);have O:=ka (blk_below (g:=E) (kz m.out) hb);have J:=ka (below_step (kw HB.out) hb);have K:=ka (hbox);have W:=ka ((by rw [hg];exact (below_size (kw HB.out)) : w.heap.size≤F));have X:=W;have Y:=ka ((by rw [hg];exact Nat.ne_of_lt (blk_lt (g:=D) (kz l.out)) : D≠F));have b8:=ka Y.out.symm;have b3:=ka ((by rw [hg];exact Nat.ne_of_lt (blk_lt (g:=E) (kz m.out)) : E≠F));have b9:=ka b3.out.symm;clear l;clear m;clear HB;have l:=L;have m:=O;have HB:=J;have o:=K;have f1:=W;have b1:=X;have a2:=Y;have a3:=b8;have a4:=b3;have a5:=b9;clear L O J K W X Y b8 b3 b9;clear hb hbox hg))
 repeat (go_quiet (first|((with_reducible refine gate_dst (N:=2) rfl ?_);refine kx (N:=2) (cs:=#[.slice A0_0 l0_0.length c0_0,.bool a0_1]) (t:=34) ?_;intro D hg w3 hbox hb;have L:=ka (below_step (kw HB.out) hb);have O:=ka (hbox);have J:=ka ((by rw [hg];exact (below_size (kw HB.out)) : w.heap.size≤D));have K:=J;clear HB;have HB:=L;have l:=O;have e9:=J;have a9:=K;clear L O J K;clear hb hbox hg)|((with_reducible refine gate_dst (N:=3) rfl ?_);refine kx (N:=3) (cs:=#[.slice A1_0 l1_0.length c1_0,.bool a1_1]) (t:=34) ?_;intro E hg w4 hbox hb;have L:=ka (blk_below (g:=D) (kz l.out) hb);have O:=ka (below_step (kw HB.out) hb);have J:=ka (hbox);have K:=ka ((by rw [hg];exact (below_size (kw HB.out)) : w.heap.size≤E));have W:=K;have X:=ka ((by rw [hg];exact Nat.ne_of_lt (blk_lt (g:=D) (kz l.out)) : D≠E));have Y:=ka X.out.symm;clear l;clear HB;have l:=L;have HB:=O;have m:=J;have f0:=K;have b0:=W;have Z:=X;have a1:=Y;clear L O J K W X Y;clear hb hbox hg)|((with_reducible refine gate_dst (N:=4) rfl ?_);refine kx (N:=4) (cs:=#[.slice none 0 0,.bool false]) (t:=34) ?_;intro F hg w5 hbox hb;have L:=ka (blk_below (g:=D) (kz l.out) hb);have O:=ka (blk_below (g:=E) (kz m.out) hb);have J:=ka (below_step (kw HB.out) hb);have K:=ka (hbox);have W:=ka ((by rw [hg];exact (below_size (kw HB.out)) : w.heap.size≤F));have X:=W;have Y:=ka ((by rw [hg];exact Nat.ne_of_lt (blk_lt (g:=D) (kz l.out)) : D≠F));have b8:=ka Y.out.symm;have b3:=ka ((by rw [hg];exact Nat.ne_of_lt (blk_lt (g:=E) (kz m.out)) : E≠F));have b9:=ka b3.out.symm;clear l;clear m;clear HB;have l:=L;have m:=O;have HB:=J;have o:=K;have f1:=W;have b1:=X;have a2:=Y;have a3:=b8;have a4:=b3;have a5:=b9;clear L O J K W X Y b8 b3 b9;clear hb hbox hg));try go_wp2_with (first|((with_reducible refine gate_dst (N:=2) rfl ?_);refine kx (N:=2) (cs:=#[.slice A0_0 l0_0.length c0_0,.bool a0_1]) (t:=34) ?_;intro D hg w3 hbox hb;have L:=ka (below_step (kw HB.out) hb);have O:=ka (hbox);have J:=ka ((by rw [hg];exact (below_size (kw HB.out)) : w.heap.size≤D));have K:=J;clear HB;have HB:=L;have l:=O;have e9:=J;have a9:=K;clear L O J K;clear hb hbox hg)|((with_reducible refine gate_dst (N:=3) rfl ?_);refine kx (N:=3) (cs:=#[.slice A1_0 l1_0.length c1_0,.bool a1_1]) (t:=34) ?_;intro E hg w4 hbox hb;have L:=ka (blk_below (g:=D) (kz l.out) hb);have O:=ka (below_step (kw HB.out) hb);have J:=ka (hbox);have K:=ka ((by rw [hg];exact (below_size (kw HB.out)) : w.heap.size≤E));have W:=K;have X:=ka ((by rw [hg];exact Nat.ne_of_lt (blk_lt (g:=D) (kz l.out)) : D≠E));have Y:=ka X.out.symm;clear l;clear HB;have l:=L;have HB:=O;have m:=J;have f0:=K;have b0:=W;have Z:=X;have a1:=Y;clear L O J K W X Y;clear hb hbox hg)|((with_reducible refine gate_dst (N:=4) rfl ?_);refine kx (N:=4) (cs:=#[.slice none 0 0,.bool false]) (t:=34) ?_;intro F hg w5 hbox hb;have L:=ka (blk_below (g:=D) (kz l.out) hb);have O:=ka (blk_below (g:=E) (kz m.out) hb);have J:=ka (below_step (kw HB.out) hb);have K:=ka (hbox);have W:=ka ((by rw [hg];exact (below_size (kw HB.out)) : w.heap.size≤F));have X:=W;have Y:=ka ((by rw [hg];exact Nat.ne_of_lt (blk_lt (g:=D) (kz l.out)) : D≠F));have b8:=ka Y.out.symm;have b3:=ka ((by rw [hg];exact Nat.ne_of_lt (blk_lt (g:=E) (kz m.out)) : E≠F));have b9:=ka b3.out.symm;clear l;clear m;clear HB;have l:=L;have m:=O;have HB:=J;have o:=K;have f1:=W;have b1:=X;have a2:=Y;have a3:=b8;have a4:=b3;have a5:=b9;clear L O J K W X Y b8 b3 b9;clear hb hbox hg)))
 (try simp only [Act.put,List.setIfInBounds_toArray,List.set_cons_zero,List.set_cons_succ]);go_loopg [5,6] k (fun kq v5 v6 w'=>∃ (x5_1 : List Int) (x6_1 : Int),v6 = .int .i64 x6_1∧Aside0 (trivetref01_Mul.l0 kq x5_1 x6_1 l0_0 a0_1 l1_0 a1_1 = some (r1,r2))∧Aside0 (kq≤k)∧Aside0 (Kd.R (Kd.int .u64) 42 w' w.heap.size (fun B=>(w.heap.size≤B)) v5 x5_1)∧Aside0 (w'.heap[D]? = some (.cells #[(.slice A0_0 l0_0.length c0_0),.bool a0_1] 34 (0,0)))∧Aside0 (w'.heap[E]? = some (.cells #[(.slice A1_0 l1_0.length c1_0),.bool a1_1] 34 (0,0)))∧Aside0 (w'.heap[F]? = some (.cells #[(.slice none 0 0),.bool false] 34 (0,0)))∧Aside0 (Below w.heap.size w w'))
 case atStart=>exact ⟨(([] : List Int)),(0),(by first|rfl|(simp;done)|(simp [*];done)),H',⟨Nat.le_refl _⟩,⟨by first|exact Kd.R_nil _ _ _ _ _|exact Kd.N_nil _ _ _ _ _|exact Kd.V_nil _ _ _ _ _|exact Kd.Q_nil _ _ _ _ _|exact Kd.S_nil _ _ _ _ _⟩,⟨by (with_reducible repeat (first|apply kb1|apply kb2|apply kb3));exact l.out⟩,⟨by (with_reducible repeat (first|apply kb1|apply kb2|apply kb3));exact m.out⟩,⟨by (with_reducible repeat (first|apply kb1|apply kb2|apply kb3));exact o.out⟩,⟨by repeat (first|(with_reducible first|exact HB.out|apply kc1|apply kc2|apply kc3|refine kc4 ?_ a9.out|refine kc4 ?_ b0.out|refine kc4 ?_ b1.out)|exact HB.out)⟩⟩
 case round=>
  clear H';try clear c1
  try clear p2
  obtain ⟨x5_1,x6_1,rfl,HA,HK1,A,l,m,o,HB⟩:=hrel;cases gk with
  | zero=>exact absurd HA.out (by simp [trivetref01_Mul.l0])
  | succ k1=>
   have H:=HA.out;clear HA;simp only [trivetref01_Mul.l0] at H
   by_cases c6 : x6_1 < (l0_0.length : Int)
   ·rw [if_pos c6] at H
    have c6b0 : decide (x6_1 < (l0_0.length : Int)) = true:=decide_eq_true c6;clear c6;by_cases c7 : 0≤x6_1
    ·rw [if_pos c7] at H
     have c7b0:=eq_true c7;have c7b1 : decide (0≤x6_1) = true:=decide_eq_true c7;clear c7;by_cases c8 : (x6_1 : Int).toNat≤35184372088832
     ·rw [if_pos c8] at H
      have c8b0:=eq_true c8;have c8b1 : decide ((x6_1 : Int).toNat≤35184372088832) = true:=decide_eq_true c8;clear c8;obtain ⟨y467,hy467⟩ : ∃ y_ : List Int,y_ = (List.replicate (x6_1 : Int).toNat 0):=⟨_,rfl⟩
      replace H : (trivetref01_Mul.l1 k1 x5_1 x6_1 y467 0 0 l0_0 a0_1 l1_0 a1_1) = some (r1,r2):=by first|(rw [hy467];with_reducible exact H)|(have H2_:=(Option.bind_some _ _).symm.trans H;rw [hy467];with_reducible exact H2_)|(have H2_:=(Option.bind_some _ _).symm.trans H;with_reducible exact H2_)|with_reducible exact H|(rw [hy467];exact H)|exact H
      have Ny467:=ka hy467;clear hy467;have H':=ka H;clear H;have m7:=Z.out;have m8:=a1.out;have j6:=a2.out;have j7:=a3.out;have h6:=blkAll2 l.out;go_wp2_with (first|((with_reducible refine gate_dst (N:=19) rfl ?_);refine Kd.R_make (Kd.int .u64) _ 42 rfl (N:=19) rfl 32 _ _ rfl x6_1 rfl rfl Try.underlying32 (.int .u64 0) 8 info42 rfl (by decide) (by omega) 0 (ok:=fun _=>True) (okp:=fun _=>True) rfl (fun _ hk=>hk) trivial (of_decide_eq_true (by first|(with_reducible assumption)|assumption)) (Nat.le_trans (Nat.mul_le_mul_right _ (of_decide_eq_true (by first|(with_reducible assumption)|assumption) : x6_1.toNat≤35184372088832)) (by omega)) (Below.refl _ _) (Nat.le_refl _) ?_;intro f8 h8 ho13 hb hg_ hnew_;clear hg_ hnew_;(first|rw [← Ny467.out] at ho13|(simp only [Int.reduceToNat] at ho13;rw [← Ny467.out] at ho13));have d8:=ka (Kd.R_lower (Kd.R_new' (Kd.R_newM (M:=fun B=>(w.heap.size≤B)) ho13 (below_size (kw HB.out)) (fun B h_=>h_)) (Kd.R_lt (kr A.out))) (below_size (kw HB.out)));replace A:=ka (Kd.R_elder' (kr A.out) (Kd.R_base ho13) hb);replace l:=kbb l hb;replace m:=kbb m hb;replace o:=kbb o hb;replace HB:=ka (below_step (kw HB.out) hb);clear hb ho13))
      repeat (go_quiet (first|((with_reducible refine gate_dst (N:=19) rfl ?_);refine Kd.R_make (Kd.int .u64) _ 42 rfl (N:=19) rfl 32 _ _ rfl x6_1 rfl rfl Try.underlying32 (.int .u64 0) 8 info42 rfl (by decide) (by omega) 0 (ok:=fun _=>True) (okp:=fun _=>True) rfl (fun _ hk=>hk) trivial (of_decide_eq_true (by first|(with_reducible assumption)|assumption)) (Nat.le_trans (Nat.mul_le_mul_right _ (of_decide_eq_true (by first|(with_reducible assumption)|assumption) : x6_1.toNat≤35184372088832)) (by omega)) (Below.refl _ _) (Nat.le_refl _) ?_;intro f8 h8 ho13 hb hg_ hnew_;clear hg_ hnew_;(first|rw [← Ny467.out] at ho13|(simp only [Int.reduceToNat] at ho13;rw [← Ny467.out] at ho13));have d8:=ka (Kd.R_lower (Kd.R_new' (Kd.R_newM (M:=fun B=>(w.heap.size≤B)) ho13 (below_size (kw HB.out)) (fun B h_=>h_)) (Kd.R_lt (kr A.out))) (below_size (kw HB.out)));replace A:=ka (Kd.R_elder' (kr A.out) (Kd.R_base ho13) hb);replace l:=kbb l hb;replace m:=kbb m hb;replace o:=kbb o hb;replace HB:=ka (below_step (kw HB.out) hb);clear hb ho13));try go_wp2_with (first|((with_reducible refine gate_dst (N:=19) rfl ?_);refine Kd.R_make (Kd.int .u64) _ 42 rfl (N:=19) rfl 32 _ _ rfl x6_1 rfl rfl Try.underlying32 (.int .u64 0) 8 info42 rfl (by decide) (by omega) 0 (ok:=fun _=>True) (okp:=fun _=>True) rfl (fun _ hk=>hk) trivial (of_decide_eq_true (by first|(with_reducible assumption)|assumption)) (Nat.le_trans (Nat.mul_le_mul_right _ (of_decide_eq_true (by first|(with_reducible assumption)|assumption) : x6_1.toNat≤35184372088832)) (by omega)) (Below.refl _ _) (Nat.le_refl _) ?_;intro f8 h8 ho13 hb hg_ hnew_;clear hg_ hnew_;(first|rw [← Ny467.out] at ho13|(simp only [Int.reduceToNat] at ho13;rw [← Ny467.out] at ho13));have d8:=ka (Kd.R_lower (Kd.R_new' (Kd.R_newM (M:=fun B=>(w.heap.size≤B)) ho13 (below_size (kw HB.out)) (fun B h_=>h_)) (Kd.R_lt (kr A.out))) (below_size (kw HB.out)));replace A:=ka (Kd.R_elder' (kr A.out) (Kd.R_base ho13) hb);replace l:=kbb l hb;replace m:=kbb m hb;replace o:=kbb o hb;replace HB:=ka (below_step (kw HB.out) hb);clear hb ho13)))
      (try simp only [Act.put,List.setIfInBounds_toArray,List.set_cons_zero,List.set_cons_succ]);go_loopg [7,8,9] k1 (fun kq v7 v8 v9 w'=>∃ (x7_2 : List Int) (x8_2 : Int) (x9_2 : Int),v8 = .int .u64 x8_2∧v9 = .int .i64 x9_2∧Aside0 (trivetref01_Mul.l1 kq x5_1 x6_1 x7_2 x8_2 x9_2 l0_0 a0_1 l1_0 a1_1 = some (r1,r2))∧Aside0 (kq≤k1)∧Aside0 (Kd.R (Kd.int .u64) 42 w' w.heap.size (fun B=>(w.heap.size≤B)∧some B≠(v7 : Value).ownBlock) u5 x5_1)∧Aside0 (Kd.R (Kd.int .u64) 42 w' w.heap.size (fun B=>(w.heap.size≤B)∧some B≠(u5 : Value).ownBlock) v7 x7_2)∧Aside0 (w'.heap[D]? = some (.cells #[(.slice A0_0 l0_0.length c0_0),.bool a0_1] 34 (0,0)))∧Aside0 (w'.heap[E]? = some (.cells #[(.slice A1_0 l1_0.length c1_0),.bool a1_1] 34 (0,0)))∧Aside0 (w'.heap[F]? = some (.cells #[(.slice none 0 0),.bool false] 34 (0,0)))∧Aside0 (Below w.heap.size w w'))
      case atStart=>exact ⟨(y467),(0),(0),(by first|rfl|(simp;done)|(simp [*];done)),(by first|rfl|(simp;done)|(simp [*];done)),H',⟨Nat.le_refl _⟩,⟨kr A.out⟩,⟨kr (Kd.R_mono d8.out (fun _ hk=>⟨hk.1.1,hk.2⟩))⟩,⟨by (with_reducible repeat (first|apply kb1|apply kb2|apply kb3));exact l.out⟩,⟨by (with_reducible repeat (first|apply kb1|apply kb2|apply kb3));exact m.out⟩,⟨by (with_reducible repeat (first|apply kb1|apply kb2|apply kb3));exact o.out⟩,⟨by repeat (first|(with_reducible first|exact HB.out|apply kc1|apply kc2|apply kc3|refine kc4 ?_ a9.out|refine kc4 ?_ b0.out|refine kc4 ?_ b1.out)|exact HB.out)⟩⟩
      case round=>
       clear H';try clear c1
       try clear p2
       try clear c6
       try clear c6b0
       try clear c7
       try clear c7b0
       try clear c7b1
       try clear c8
       try clear c8b0
       try clear c8b1
       try clear c9
       try clear c10
       try clear h6
       try clear p2
       obtain ⟨x7_2,x8_2,x9_2,rfl,rfl,HA,HK2,A,G,l,m,o,HB⟩:=hrel;cases gk with
       | zero=>exact absurd HA.out (by simp [trivetref01_Mul.l1])
       | succ k2=>
        have H:=HA.out;clear HA;simp only [trivetref01_Mul.l1] at H
        by_cases c14 : x9_2 < (l1_0.length : Int)
        ·rw [if_pos c14] at H
         have c14b0 : decide (x9_2 < (l1_0.length : Int)) = true:=decide_eq_true c14;clear c14;by_cases c15 : 0≤x6_1
         ·rw [if_pos c15] at H
          have c15b0 : decide (0≤x6_1) = true:=decide_eq_true c15;clear c15;by_cases c16 : x6_1 < (l0_0.length : Int)
          ·rw [if_pos c16] at H
           have c16b0 : decide (x6_1 < (l0_0.length : Int)) = true:=decide_eq_true c16;clear c16;by_cases c17 : 0≤x9_2
           ·rw [if_pos c17] at H
            have c17b0 : decide (0≤x9_2) = true:=decide_eq_true c17;clear c17;by_cases c18 : x7_2.length < 17592186044416
            ·rw [if_pos c18] at H
             have LMc18:=ka c18;clear c18;obtain ⟨y472,hy472⟩ : ∃ y_ : List Int,y_ = (x7_2 ++ [Int.tmod (IntKind.u64.wrap ((IntKind.u64.wrap ((rd l0_0 x6_1) * (rd l1_0 x9_2))) + x8_2)) 65536]):=⟨_,rfl⟩
             replace H : (trivetref01_Mul.l1 k2 x5_1 x6_1 y472 (IntKind.u64.wrap (Int.tdiv (IntKind.u64.wrap ((IntKind.u64.wrap ((rd l0_0 x6_1) * (rd l1_0 x9_2))) + x8_2)) 65536)) (wrap64 (x9_2 + 1)) l0_0 a0_1 l1_0 a1_1) = some (r1,r2):=by first|(rw [hy472];with_reducible exact H)|(have H2_:=(Option.bind_some _ _).symm.trans H;rw [hy472];with_reducible exact H2_)|(have H2_:=(Option.bind_some _ _).symm.trans H;with_reducible exact H2_)|with_reducible exact H|(rw [hy472];exact H)|exact H
             have Ny472:=ka hy472;clear hy472;have H':=ka H;clear H;have j8:=a1.out;have j9:=Z.out;have k0:=a4.out;have k3:=a5.out;have k4:=blkAll2 m.out;have k5:=a2.out;have k6:=a3.out;have k7:=blkAll2 l.out;have p470 : 0≤(x6_1 : Int):=of_decide_eq_true (by first|(with_reducible assumption)|assumption);have q470 : x6_1 < (l0_0.length : Int):=of_decide_eq_true (by first|(with_reducible assumption)|assumption);obtain ⟨ad470,e470,hx470_0⟩:=Kd.at_int HR0_0.out x6_1 p470 q470;cases e470
             replace hx470_0:=(HB.out.cell (World.block_lt_of_cell? w _ hx470_0)).trans hx470_0;replace p470:=eq_true p470;replace q470:=eq_true q470;have p471 : 0≤(x9_2 : Int):=of_decide_eq_true (by first|(with_reducible assumption)|assumption);have q471 : x9_2 < (l1_0.length : Int):=of_decide_eq_true (by first|(with_reducible assumption)|assumption);obtain ⟨ad471,e471,hx471_0⟩:=Kd.at_int HR1_0.out x9_2 p471 q471;cases e471
             replace hx471_0:=(HB.out.cell (World.block_lt_of_cell? w _ hx471_0)).trans hx471_0;replace p471:=eq_true p471;replace q471:=eq_true q471;go_wp2_with (first|((with_reducible refine gate_builtin (b:=.append) (xs:=#[.tmp 40,.tmp 43]) rfl ?_);at_builtin;refine Kd.R_append (Kd.int .u64) (w0:=w) w.heap.size rfl (.tmp 40) (.tmp 43) 32 42 (.int .u64 0) 8 rfl Try.underlying32 info42 rfl (by decide) (by omega) u7 x7_2 (Int.tmod (IntKind.u64.wrap ((IntKind.u64.wrap ((rd l0_0 x6_1) * (rd l1_0 x9_2))) + x8_2)) 65536) [.int .u64 (Int.tmod (IntKind.u64.wrap ((IntKind.u64.wrap ((rd l0_0 x6_1) * (rd l1_0 x9_2))) + x8_2)) 65536)] (fun B=>(w.heap.size≤B)∧some B≠(u5 : Value).ownBlock) (fun _=>False) rfl rfl ?aP (fun _ hk=>hk.elim) ?aF ?aO ?aB ?aS ?aL ?_;(case aP=>exact rfl);(case aB=>exact (kw HB.out));(case aF=>exact (fun B hk=>⟨(Nat.le_trans (below_size (kw HB.out)) hk),Kd.fresh' (Kd.R_lt (kr A.out)) B hk⟩));(case aO=>exact (kr G.out));(case aS=>exact (below_size (kw HB.out)));(case aL=>have:=LMc18.out;omega);intro f9 h9 ho hb hg hat;rw [← Ny472.out] at ho;replace A:=ka (Kd.R_after (ok:=(fun B=>(w.heap.size≤B))) (kr A.out) hg hat);replace l:=ka (blk_grown (g:=D) (kz l.out) hg (Kd.R_ne G.out l.out (by decide)));replace m:=ka (blk_grown (g:=E) (kz m.out) hg (Kd.R_ne G.out m.out (by decide)));replace o:=ka (blk_grown (g:=F) (kz o.out) hg (Kd.R_ne G.out o.out (by decide)));replace HB:=ka (hb);have d9:=ka (ho);clear G;clear ho hb hg hat))
             repeat (go_quiet (first|((with_reducible refine gate_builtin (b:=.append) (xs:=#[.tmp 40,.tmp 43]) rfl ?_);at_builtin;refine Kd.R_append (Kd.int .u64) (w0:=w) w.heap.size rfl (.tmp 40) (.tmp 43) 32 42 (.int .u64 0) 8 rfl Try.underlying32 info42 rfl (by decide) (by omega) u7 x7_2 (Int.tmod (IntKind.u64.wrap ((IntKind.u64.wrap ((rd l0_0 x6_1) * (rd l1_0 x9_2))) + x8_2)) 65536) [.int .u64 (Int.tmod (IntKind.u64.wrap ((IntKind.u64.wrap ((rd l0_0 x6_1) * (rd l1_0 x9_2))) + x8_2)) 65536)] (fun B=>(w.heap.size≤B)∧some B≠(u5 : Value).ownBlock) (fun _=>False) rfl rfl ?aP (fun _ hk=>hk.elim) ?aF ?aO ?aB ?aS ?aL ?_;(case aP=>exact rfl);(case aB=>exact (kw HB.out));(case aF=>exact (fun B hk=>⟨(Nat.le_trans (below_size (kw HB.out)) hk),Kd.fresh' (Kd.R_lt (kr A.out)) B hk⟩));(case aO=>exact (kr G.out));(case aS=>exact (below_size (kw HB.out)));(case aL=>have:=LMc18.out;omega);intro f9 h9 ho hb hg hat;rw [← Ny472.out] at ho;replace A:=ka (Kd.R_after (ok:=(fun B=>(w.heap.size≤B))) (kr A.out) hg hat);replace l:=ka (blk_grown (g:=D) (kz l.out) hg (Kd.R_ne G.out l.out (by decide)));replace m:=ka (blk_grown (g:=E) (kz m.out) hg (Kd.R_ne G.out m.out (by decide)));replace o:=ka (blk_grown (g:=F) (kz o.out) hg (Kd.R_ne G.out o.out (by decide)));replace HB:=ka (hb);have d9:=ka (ho);clear G;clear ho hb hg hat));try go_wp2_with (first|((with_reducible refine gate_builtin (b:=.append) (xs:=#[.tmp 40,.tmp 43]) rfl ?_);at_builtin;refine Kd.R_append (Kd.int .u64) (w0:=w) w.heap.size rfl (.tmp 40) (.tmp 43) 32 42 (.int .u64 0) 8 rfl Try.underlying32 info42 rfl (by decide) (by omega) u7 x7_2 (Int.tmod (IntKind.u64.wrap ((IntKind.u64.wrap ((rd l0_0 x6_1) * (rd l1_0 x9_2))) + x8_2)) 65536) [.int .u64 (Int.tmod (IntKind.u64.wrap ((IntKind.u64.wrap ((rd l0_0 x6_1) * (rd l1_0 x9_2))) + x8_2)) 65536)] (fun B=>(w.heap.size≤B)∧some B≠(u5 : Value).ownBlock) (fun _=>False) rfl rfl ?aP (fun _ hk=>hk.elim) ?aF ?aO ?aB ?aS ?aL ?_;(case aP=>exact rfl);(case aB=>exact (kw HB.out));(case aF=>exact (fun B hk=>⟨(Nat.le_trans (below_size (kw HB.out)) hk),Kd.fresh' (Kd.R_lt (kr A.out)) B hk⟩));(case aO=>exact (kr G.out));(case aS=>exact (below_size (kw HB.out)));(case aL=>have:=LMc18.out;omega);intro f9 h9 ho hb hg hat;rw [← Ny472.out] at ho;replace A:=ka (Kd.R_after (ok:=(fun B=>(w.heap.size≤B))) (kr A.out) hg hat);replace l:=ka (blk_grown (g:=D) (kz l.out) hg (Kd.R_ne G.out l.out (by decide)));replace m:=ka (blk_grown (g:=E) (kz m.out) hg (Kd.R_ne G.out m.out (by decide)));replace o:=ka (blk_grown (g:=F) (kz o.out) hg (Kd.R_ne G.out o.out (by decide)));replace HB:=ka (hb);have d9:=ka (ho);clear G;clear ho hb hg hat)))
             go_roundg k2
             case measure=>have:=HK1.out;have:=HK2.out;omega
             case rel=>exact ⟨(y472),(IntKind.u64.wrap (Int.tdiv (IntKind.u64.wrap ((IntKind.u64.wrap ((rd l0_0 x6_1) * (rd l1_0 x9_2))) + x8_2)) 65536)),(wrap64 (x9_2 + 1)),(by first|rfl|(simp;done)|(simp [*];done)),(by first|rfl|(simp;done)|(simp [*];done)),H',⟨by have:=HK1.out;have:=HK2.out;omega⟩,⟨kr A.out⟩,⟨kr d9.out⟩,⟨by (with_reducible repeat (first|apply kb1|apply kb2|apply kb3));exact l.out⟩,⟨by (with_reducible repeat (first|apply kb1|apply kb2|apply kb3));exact m.out⟩,⟨by (with_reducible repeat (first|apply kb1|apply kb2|apply kb3));exact o.out⟩,⟨by repeat (first|(with_reducible first|exact HB.out|apply kc1|apply kc2|apply kc3|refine kc4 ?_ a9.out|refine kc4 ?_ b0.out|refine kc4 ?_ b1.out)|exact HB.out)⟩⟩
            ·rw [if_neg c18] at H
             exact absurd H (by simp)
           ·rw [if_neg c17] at H
            exact absurd H (by simp)
          ·rw [if_neg c16] at H
           exact absurd H (by simp)
         ·rw [if_neg c15] at H
          exact absurd H (by simp)
        ·rw [if_neg c14] at H
         have c14b0 : decide (x9_2 < (l1_0.length : Int)) = false:=decide_eq_false c14;clear c14;by_cases c25 : x7_2.length < 17592186044416
         ·rw [if_pos c25] at H
          have LMc25:=ka c25;clear c25;obtain ⟨y475,hy475⟩ : ∃ y_ : List Int,y_ = (x7_2 ++ [x8_2]):=⟨_,rfl⟩
          replace H : ((trivetref01_plus.f k2 x5_1 y475).bind fun a8=>(trivetref01_Mul.l0 k2 a8 (wrap64 (x6_1 + 1)) l0_0 a0_1 l1_0 a1_1)) = some (r1,r2):=by first|(rw [hy475];with_reducible exact H)|(have H2_:=(Option.bind_some _ _).symm.trans H;rw [hy475];with_reducible exact H2_)|(have H2_:=(Option.bind_some _ _).symm.trans H;with_reducible exact H2_)|with_reducible exact H|(rw [hy475];exact H)|exact H
          have Ny475:=ka hy475;clear hy475;replace H:=Option.bind_eq_some_iff.mp H;obtain ⟨a8,g0,H⟩:=H;replace H : (trivetref01_Mul.l0 k2 a8 (wrap64 (x6_1 + 1)) l0_0 a0_1 l1_0 a1_1) = some (r1,r2):=H;have g1:=ka g0;clear g0;have H':=ka H;clear H;have k8:=a1.out;have k9:=Z.out;have l2:=a4.out;have l3:=a5.out;have l4:=blkAll2 m.out;go_wp2_with (first|((with_reducible refine gate_builtin (b:=.append) (xs:=#[.tmp 47,.tmp 49]) rfl ?_);at_builtin;refine Kd.R_append (Kd.int .u64) (w0:=w) w.heap.size rfl (.tmp 47) (.tmp 49) 32 42 (.int .u64 0) 8 rfl Try.underlying32 info42 rfl (by decide) (by omega) u7 x7_2 x8_2 [.int .u64 x8_2] (fun B=>(w.heap.size≤B)∧some B≠(u5 : Value).ownBlock) (fun _=>False) rfl rfl ?aP (fun _ hk=>hk.elim) ?aF ?aO ?aB ?aS ?aL ?_;(case aP=>exact rfl);(case aB=>exact (kw HB.out));(case aF=>exact (fun B hk=>⟨(Nat.le_trans (below_size (kw HB.out)) hk),Kd.fresh' (Kd.R_lt (kr A.out)) B hk⟩));(case aO=>exact (kr G.out));(case aS=>exact (below_size (kw HB.out)));(case aL=>have:=LMc25.out;omega);intro g2 i0 ho hb hg hat;rw [← Ny475.out] at ho;replace A:=ka (Kd.R_after (ok:=(fun B=>(w.heap.size≤B))) (kr A.out) hg hat);replace l:=ka (blk_grown (g:=D) (kz l.out) hg (Kd.R_ne G.out l.out (by decide)));replace m:=ka (blk_grown (g:=E) (kz m.out) hg (Kd.R_ne G.out m.out (by decide)));replace o:=ka (blk_grown (g:=F) (kz o.out) hg (Kd.R_ne G.out o.out (by decide)));replace HB:=ka (hb);have I:=ka (ho);clear G;clear ho hb hg hat;obtain ⟨g3,g4,d5⟩:=Kd.R_slice A.out;subst d5;obtain ⟨g5,g6,d6⟩:=Kd.R_slice I.out;subst d6)|(go_at_call 27;(with_reducible refine (trivetref01_plus.calls k2 _ _ x5_1 _ _ y475 a8 _ ?side1 ?side2 ?side3 ?side4 g1.out).mono ?_);(case side1=>repeat (first|exact (Kd.R_reads' A.out).2.2|(with_reducible refine Kd.C_alloc ?_ _)|(with_reducible refine Kd.C_drewN ?_ _)|(with_reducible refine Kd.C_drew ?_)));(case side2=>exact (Kd.R_reads' A.out).2.1);(case side3=>repeat (first|exact (Kd.R_reads' I.out).2.2|(with_reducible refine Kd.C_alloc ?_ _)|(with_reducible refine Kd.C_drewN ?_ _)|(with_reducible refine Kd.C_drew ?_)));(case side4=>exact (Kd.R_reads' I.out).2.1);rintro e i1 ⟨g7,rfl,ho0,hb⟩;have e0:=ka (Kd.R_lower (Kd.R_new' (Kd.R_new' (Kd.R_newM (M:=fun B=>(w.heap.size≤B)) ho0 (below_size (kw HB.out)) (fun B h_=>h_)) (Kd.R_lt (kr A.out))) (Kd.R_lt (kr I.out))) (below_size (kw HB.out)));replace A:=ka (Kd.R_elder' (kr A.out) (Kd.R_base ho0) hb);replace I:=ka (Kd.R_elder' (kr I.out) (Kd.R_base ho0) hb);replace l:=kbb l hb;replace m:=kbb m hb;replace o:=kbb o hb;replace HB:=ka (below_step (kw HB.out) hb);(try clear hb);(try clear hb2);(try clear hk);(try clear hi);(try clear ho0)))
          repeat (go_quiet (first|((with_reducible refine gate_builtin (b:=.append) (xs:=#[.tmp 47,.tmp 49]) rfl ?_);at_builtin;refine Kd.R_append (Kd.int .u64) (w0:=w) w.heap.size rfl (.tmp 47) (.tmp 49) 32 42 (.int .u64 0) 8 rfl Try.underlying32 info42 rfl (by decide) (by omega) u7 x7_2 x8_2 [.int .u64 x8_2] (fun B=>(w.heap.size≤B)∧some B≠(u5 : Value).ownBlock) (fun _=>False) rfl rfl ?aP (fun _ hk=>hk.elim) ?aF ?aO ?aB ?aS ?aL ?_;(case aP=>exact rfl);(case aB=>exact (kw HB.out));(case aF=>exact (fun B hk=>⟨(Nat.le_trans (below_size (kw HB.out)) hk),Kd.fresh' (Kd.R_lt (kr A.out)) B hk⟩));(case aO=>exact (kr G.out));(case aS=>exact (below_size (kw HB.out)));(case aL=>have:=LMc25.out;omega);intro g2 i0 ho hb hg hat;rw [← Ny475.out] at ho;replace A:=ka (Kd.R_after (ok:=(fun B=>(w.heap.size≤B))) (kr A.out) hg hat);replace l:=ka (blk_grown (g:=D) (kz l.out) hg (Kd.R_ne G.out l.out (by decide)));replace m:=ka (blk_grown (g:=E) (kz m.out) hg (Kd.R_ne G.out m.out (by decide)));replace o:=ka (blk_grown (g:=F) (kz o.out) hg (Kd.R_ne G.out o.out (by decide)));replace HB:=ka (hb);have I:=ka (ho);clear G;clear ho hb hg hat;obtain ⟨g3,g4,d5⟩:=Kd.R_slice A.out;subst d5;obtain ⟨g5,g6,d6⟩:=Kd.R_slice I.out;subst d6)|(go_at_call 27;(with_reducible refine (trivetref01_plus.calls k2 _ _ x5_1 _ _ y475 a8 _ ?side1 ?side2 ?side3 ?side4 g1.out).mono ?_);(case side1=>repeat (first|exact (Kd.R_reads' A.out).2.2|(with_reducible refine Kd.C_alloc ?_ _)|(with_reducible refine Kd.C_drewN ?_ _)|(with_reducible refine Kd.C_drew ?_)));(case side2=>exact (Kd.R_reads' A.out).2.1);(case side3=>repeat (first|exact (Kd.R_reads' I.out).2.2|(with_reducible refine Kd.C_alloc ?_ _)|(with_reducible refine Kd.C_drewN ?_ _)|(with_reducible refine Kd.C_drew ?_)));(case side4=>exact (Kd.R_reads' I.out).2.1);rintro e i1 ⟨g7,rfl,ho0,hb⟩;have e0:=ka (Kd.R_lower (Kd.R_new' (Kd.R_new' (Kd.R_newM (M:=fun B=>(w.heap.size≤B)) ho0 (below_size (kw HB.out)) (fun B h_=>h_)) (Kd.R_lt (kr A.out))) (Kd.R_lt (kr I.out))) (below_size (kw HB.out)));replace A:=ka (Kd.R_elder' (kr A.out) (Kd.R_base ho0) hb);replace I:=ka (Kd.R_elder' (kr I.out) (Kd.R_base ho0) hb);replace l:=kbb l hb;replace m:=kbb m hb;replace o:=kbb o hb;replace HB:=ka (below_step (kw HB.out) hb);(try clear hb);(try clear hb2);(try clear hk);(try clear hi);(try clear ho0)));try go_wp2_with (first|((with_reducible refine gate_builtin (b:=.append) (xs:=#[.tmp 47,.tmp 49]) rfl ?_);at_builtin;refine Kd.R_append (Kd.int .u64) (w0:=w) w.heap.size rfl (.tmp 47) (.tmp 49) 32 42 (.int .u64 0) 8 rfl Try.underlying32 info42 rfl (by decide) (by omega) u7 x7_2 x8_2 [.int .u64 x8_2] (fun B=>(w.heap.size≤B)∧some B≠(u5 : Value).ownBlock) (fun _=>False) rfl rfl ?aP (fun _ hk=>hk.elim) ?aF ?aO ?aB ?aS ?aL ?_;(case aP=>exact rfl);(case aB=>exact (kw HB.out));(case aF=>exact (fun B hk=>⟨(Nat.le_trans (below_size (kw HB.out)) hk),Kd.fresh' (Kd.R_lt (kr A.out)) B hk⟩));(case aO=>exact (kr G.out));(case aS=>exact (below_size (kw HB.out)));(case aL=>have:=LMc25.out;omega);intro g2 i0 ho hb hg hat;rw [← Ny475.out] at ho;replace A:=ka (Kd.R_after (ok:=(fun B=>(w.heap.size≤B))) (kr A.out) hg hat);replace l:=ka (blk_grown (g:=D) (kz l.out) hg (Kd.R_ne G.out l.out (by decide)));replace m:=ka (blk_grown (g:=E) (kz m.out) hg (Kd.R_ne G.out m.out (by decide)));replace o:=ka (blk_grown (g:=F) (kz o.out) hg (Kd.R_ne G.out o.out (by decide)));replace HB:=ka (hb);have I:=ka (ho);clear G;clear ho hb hg hat;obtain ⟨g3,g4,d5⟩:=Kd.R_slice A.out;subst d5;obtain ⟨g5,g6,d6⟩:=Kd.R_slice I.out;subst d6)|(go_at_call 27;(with_reducible refine (trivetref01_plus.calls k2 _ _ x5_1 _ _ y475 a8 _ ?side1 ?side2 ?side3 ?side4 g1.out).mono ?_);(case side1=>repeat (first|exact (Kd.R_reads' A.out).2.2|(with_reducible refine Kd.C_alloc ?_ _)|(with_reducible refine Kd.C_drewN ?_ _)|(with_reducible refine Kd.C_drew ?_)));(case side2=>exact (Kd.R_reads' A.out).2.1);(case side3=>repeat (first|exact (Kd.R_reads' I.out).2.2|(with_reducible refine Kd.C_alloc ?_ _)|(with_reducible refine Kd.C_drewN ?_ _)|(with_reducible refine Kd.C_drew ?_)));(case side4=>exact (Kd.R_reads' I.out).2.1);rintro e i1 ⟨g7,rfl,ho0,hb⟩;have e0:=ka (Kd.R_lower (Kd.R_new' (Kd.R_new' (Kd.R_newM (M:=fun B=>(w.heap.size≤B)) ho0 (below_size (kw HB.out)) (fun B h_=>h_)) (Kd.R_lt (kr A.out))) (Kd.R_lt (kr I.out))) (below_size (kw HB.out)));replace A:=ka (Kd.R_elder' (kr A.out) (Kd.R_base ho0) hb);replace I:=ka (Kd.R_elder' (kr I.out) (Kd.R_base ho0) hb);replace l:=kbb l hb;replace m:=kbb m hb;replace o:=kbb o hb;replace HB:=ka (below_step (kw HB.out) hb);(try clear hb);(try clear hb2);(try clear hk);(try clear hi);(try clear ho0))))
          go_roundg k2
          case measure=>have:=HK1.out;have:=HK2.out;omega
          case rel=>exact ⟨(a8),(wrap64 (x6_1 + 1)),(by first|rfl|(simp;done)|(simp [*];done)),H',⟨by have:=HK1.out;have:=HK2.out;omega⟩,⟨kr (Kd.R_mono e0.out (fun _ hk=>hk.1.1.1))⟩,⟨by (with_reducible repeat (first|apply kb1|apply kb2|apply kb3));exact l.out⟩,⟨by (with_reducible repeat (first|apply kb1|apply kb2|apply kb3));exact m.out⟩,⟨by (with_reducible repeat (first|apply kb1|apply kb2|apply kb3));exact o.out⟩,⟨by repeat (first|(with_reducible first|exact HB.out|apply kc1|apply kc2|apply kc3|refine kc4 ?_ a9.out|refine kc4 ?_ b0.out|refine kc4 ?_ b1.out)|exact HB.out)⟩⟩
         ·rw [if_neg c25] at H
          exact absurd H (by simp)
     ·rw [if_neg c8] at H
      exact absurd H (by simp)
    ·rw [if_neg c7] at H
     exact absurd H (by simp)
   ·rw [if_neg c6] at H
    have c6b0 : decide (x6_1 < (l0_0.length : Int)) = false:=decide_eq_false c6;clear c6;replace H:=Option.bind_eq_some_iff.mp H;obtain ⟨⟨b6,b7⟩,g8,H⟩:=H;replace H : (some (b6,b7)) = some (r1,r2):=H;have g9:=ka g8;clear g8;simp only [Option.some.injEq,Prod.mk.injEq] at H
    obtain ⟨rfl,rfl⟩:=H;have l5:=Z.out;have l6:=a1.out;have l7:=a2.out;have l8:=a3.out;have l9:=blkAll2 l.out;have m0:=a4.out;have m2:=a5.out;have m3:=blkAll2 m.out;obtain ⟨e6,e7,i7⟩:=Kd.R_slice A.out;subst i7;go_wp2_with (first|(go_at_call 28;(with_reducible refine (trivetref01_norm.calls k1 (fun B=>some B = (.slice e6 x5_1.length e7 : Value).ownBlock) _ _ x5_1 (!(a0_1 == a1_1)) b6 b7 _ ?side1 g9.out).mono ?_);(case side1=>exact Kd.R_V (Kd.R_tight rfl (Kd.R_types (Kd.R_types (Kd.R_types (A.out) l.out (by decide)) m.out (by decide)) o.out (by decide))));rintro e i2 ⟨h0,rfl,ho0,hb⟩;have b4:=ka (Kd.V_lower (Kd.V_mono (ok':=fun B=>(w.heap.size≤B)∧B≠D∧B≠E∧B≠F) ho0 (fun B a6=>⟨Or.elim a6 (fun S=>((Kd.R_types (Kd.R_types (Kd.R_types (A.out) l.out (by decide)) m.out (by decide)) o.out (by decide)).1 B S.symm).1.1.1) (fun T=>(Nat.le_trans (below_size (kw HB.out)) T)),Or.elim a6 (fun S=>((Kd.R_types (Kd.R_types (Kd.R_types (A.out) l.out (by decide)) m.out (by decide)) o.out (by decide)).1 B S.symm).1.1.2) (fun T=>(kf l T)),Or.elim a6 (fun S=>((Kd.R_types (Kd.R_types (Kd.R_types (A.out) l.out (by decide)) m.out (by decide)) o.out (by decide)).1 B S.symm).1.2) (fun T=>(kf m T)),Or.elim a6 (fun S=>((Kd.R_types (Kd.R_types (Kd.R_types (A.out) l.out (by decide)) m.out (by decide)) o.out (by decide)).1 B S.symm).2) (fun T=>(kf o T))⟩)) (below_size (kw HB.out)));replace A:=ka (Kd.R_below (kr A.out) hb);replace l:=kbb l hb;replace m:=kbb m hb;replace o:=kbb o hb;replace HB:=ka (below_step (kw HB.out) hb);(try clear hb);(try clear hb2);(try clear hk);(try clear hi);(try clear ho0);obtain ⟨e2,e3,d7⟩:=Kd.V_slice b4.out;subst d7;have f2:=blkAll2 o.out))
    repeat (go_quiet (first|(go_at_call 28;(with_reducible refine (trivetref01_norm.calls k1 (fun B=>some B = (.slice e6 x5_1.length e7 : Value).ownBlock) _ _ x5_1 (!(a0_1 == a1_1)) b6 b7 _ ?side1 g9.out).mono ?_);(case side1=>exact Kd.R_V (Kd.R_tight rfl (Kd.R_types (Kd.R_types (Kd.R_types (A.out) l.out (by decide)) m.out (by decide)) o.out (by decide))));rintro e i2 ⟨h0,rfl,ho0,hb⟩;have b4:=ka (Kd.V_lower (Kd.V_mono (ok':=fun B=>(w.heap.size≤B)∧B≠D∧B≠E∧B≠F) ho0 (fun B a6=>⟨Or.elim a6 (fun S=>((Kd.R_types (Kd.R_types (Kd.R_types (A.out) l.out (by decide)) m.out (by decide)) o.out (by decide)).1 B S.symm).1.1.1) (fun T=>(Nat.le_trans (below_size (kw HB.out)) T)),Or.elim a6 (fun S=>((Kd.R_types (Kd.R_types (Kd.R_types (A.out) l.out (by decide)) m.out (by decide)) o.out (by decide)).1 B S.symm).1.1.2) (fun T=>(kf l T)),Or.elim a6 (fun S=>((Kd.R_types (Kd.R_types (Kd.R_types (A.out) l.out (by decide)) m.out (by decide)) o.out (by decide)).1 B S.symm).1.2) (fun T=>(kf m T)),Or.elim a6 (fun S=>((Kd.R_types (Kd.R_types (Kd.R_types (A.out) l.out (by decide)) m.out (by decide)) o.out (by decide)).1 B S.symm).2) (fun T=>(kf o T))⟩)) (below_size (kw HB.out)));replace A:=ka (Kd.R_below (kr A.out) hb);replace l:=kbb l hb;replace m:=kbb m hb;replace o:=kbb o hb;replace HB:=ka (below_step (kw HB.out) hb);(try clear hb);(try clear hb2);(try clear hk);(try clear hi);(try clear ho0);obtain ⟨e2,e3,d7⟩:=Kd.V_slice b4.out;subst d7;have f2:=blkAll2 o.out));try go_wp2_with (first|(go_at_call 28;(with_reducible refine (trivetref01_norm.calls k1 (fun B=>some B = (.slice e6 x5_1.length e7 : Value).ownBlock) _ _ x5_1 (!(a0_1 == a1_1)) b6 b7 _ ?side1 g9.out).mono ?_);(case side1=>exact Kd.R_V (Kd.R_tight rfl (Kd.R_types (Kd.R_types (Kd.R_types (A.out) l.out (by decide)) m.out (by decide)) o.out (by decide))));rintro e i2 ⟨h0,rfl,ho0,hb⟩;have b4:=ka (Kd.V_lower (Kd.V_mono (ok':=fun B=>(w.heap.size≤B)∧B≠D∧B≠E∧B≠F) ho0 (fun B a6=>⟨Or.elim a6 (fun S=>((Kd.R_types (Kd.R_types (Kd.R_types (A.out) l.out (by decide)) m.out (by decide)) o.out (by decide)).1 B S.symm).1.1.1) (fun T=>(Nat.le_trans (below_size (kw HB.out)) T)),Or.elim a6 (fun S=>((Kd.R_types (Kd.R_types (Kd.R_types (A.out) l.out (by decide)) m.out (by decide)) o.out (by decide)).1 B S.symm).1.1.2) (fun T=>(kf l T)),Or.elim a6 (fun S=>((Kd.R_types (Kd.R_types (Kd.R_types (A.out) l.out (by decide)) m.out (by decide)) o.out (by decide)).1 B S.symm).1.2) (fun T=>(kf m T)),Or.elim a6 (fun S=>((Kd.R_types (Kd.R_types (Kd.R_types (A.out) l.out (by decide)) m.out (by decide)) o.out (by decide)).1 B S.symm).2) (fun T=>(kf o T))⟩)) (below_size (kw HB.out)));replace A:=ka (Kd.R_below (kr A.out) hb);replace l:=kbb l hb;replace m:=kbb m hb;replace o:=kbb o hb;replace HB:=ka (below_step (kw HB.out) hb);(try clear hb);(try clear hb2);(try clear hk);(try clear hi);(try clear ho0);obtain ⟨e2,e3,d7⟩:=Kd.V_slice b4.out;subst d7;have f2:=blkAll2 o.out)))
    refine bodyPost_ret (results_cell_row rfl _ _ F 34 #[.slice e2 b6.length e3,.bool b7] (0,0) _ rfl (by (with_reducible repeat (first|apply kb1|apply kb2|apply kb3|apply blkPut2_1|apply blkPut2_0));exact o.out) Try.underlying34 rfl (by kernel_rfl)) rfl ?_;exact ⟨_,by first|rfl|(simp [errW_none,errW_some] <;> rfl)|(simp [*,errW_none,errW_some] <;> rfl),by (with_reducible repeat (first|apply Kd.V_alloc|apply Kd.V_drewN|apply Kd.V_drew));exact Kd.V_mono (Kd.V_far (p:=⟨F,1,none⟩) (Kd.V_far (p:=⟨F,0,none⟩) (Kd.V_mono b4.out (fun B hk=>(⟨hk,hk.2.2.2⟩ : _∧B≠F))) (fun _ hk=>hk.2) (.slice e2 b6.length e3)) (fun _ hk=>hk.2) (.bool b7)) (fun _ hk=>hk.1.1),by repeat (first|(with_reducible first|exact HB.out|apply kc1|apply kc2|apply kc3|refine kc4 ?_ a9.out|refine kc4 ?_ b0.out|refine kc4 ?_ b1.out)|exact HB.out)⟩

/-! ### trivetref01_Mul: function 14,its laws -/
theorem trivetref01_Mul.row (n : Nat) : ∀ (k : Nat) (a b out row : List Int) (c : Int) (i j : Nat) (am bm : Bool),U.Dg a→U.Dg b→U.Dg row→0≤c∧c < 65536→i < a.length→a.length≤1000→b.length = j + n→b.length≤1000→row.length = i + j→
  ∃ row',trivetref01_Mul.l1 (k + n + 1) out i row c j a am b bm = (trivetref01_plus.f k out row').bind (fun t=>trivetref01_Mul.l0 k t ((i + 1 : Nat) : Int) a am b bm)∧U.Dg row'∧U.val row' = U.val row + 65536 ^ (i + j) * (c + a.getD i 0 * U.val (b.drop j))∧row'.length = i + b.length + 1:=by
 induction n with
 | zero=>
  intro k a b out row c i j am bm ha hb hr hc hi la lb lb2 hl;refine ⟨row ++ [c],?_,hr.add (U.Dg.one hc),?_,by simp;omega⟩
  ·rw [Nat.add_zero]
   simp only [trivetref01_Mul.l1]
   rw [if_neg (by omega),if_pos (by omega),M.w64_id (n:=(i : Int) + 1) (by omega) (by omega)]
   rfl
  ·rw [U.val_append,U.val_one,hl,List.drop_eq_nil_of_le (by omega)]
   simp [U.val]
 | succ n ih=>
  intro k a b out row c i j am bm ha hb hr hc hi la lb lb2 hl;have ga:=ha.get i;have gb:=hb.get j;have hp0 : 0≤a.getD i 0 * b.getD j 0:=Int.mul_nonneg ga.1 gb.1;have hp1 : a.getD i 0 * b.getD j 0≤65535 * 65535:=Int.mul_le_mul (by omega) (by omega) gb.1 (by decide);have ih':=fun q r=>ih k a b out (row ++ [r]) q i (j + 1) am bm ha hb
  have e : trivetref01_Mul.l1 (k + (n + 1) + 1) out i row c j a am b bm = trivetref01_Mul.l1 (k + n + 1) out i (row ++ [(a.getD i 0 * b.getD j 0 + c) % 65536]) ((a.getD i 0 * b.getD j 0 + c) / 65536) ((j + 1 : Nat) : Int) a am b bm:=by
   have ra : rd a (i : Int) = a.getD i 0:=rfl;have rb : rd b (j : Int) = b.getD j 0:=rfl;rw [show k + (n + 1) + 1 = (k + n + 1) + 1 by omega]
   conv=>lhs;simp only [trivetref01_Mul.l1]
   rw [if_pos (by omega),if_pos (by omega),if_pos (by omega),if_pos (by omega),if_pos (by omega),ra,rb]
   generalize a.getD i 0 * b.getD j 0 = p at *;rw [M.wrapu_id (n:=p) (by omega) (by omega),M.wrapu_id (n:=p + c) (by omega) (by omega),M.tdivu (show 0≤p + c by omega),M.tmodu (show 0≤p + c by omega),M.wrapu_id (n:=(p + c) / 65536) (by omega) (by omega),M.w64_id (n:=(j : Int) + 1) (by omega) (by omega)]
   rfl
  obtain ⟨row',r1,r2,r3,r4⟩:=ih' ((a.getD i 0 * b.getD j 0 + c) / 65536) ((a.getD i 0 * b.getD j 0 + c) % 65536) (hr.add (U.Dg.one (by omega))) (by omega) hi la (by omega) lb2 (by simp;omega);refine ⟨row',by rw [e,r1],r2,?_,r4⟩;rw [r3,U.val_append,U.val_one,hl,show i + (j + 1) = (i + j) + 1 by omega,U.pow_succ,U.drop_step b j,Int.mul_add (a.getD i 0)]
  generalize a.getD i 0 * b.getD j 0 = p at *;have hm : a.getD i 0 * (65536 * U.val (b.drop (j + 1))) = 65536 * (a.getD i 0 * U.val (b.drop (j + 1))):=by rw [← Int.mul_assoc,Int.mul_comm _ 65536,Int.mul_assoc]
  rw [hm]
  generalize a.getD i 0 * U.val (b.drop (j + 1)) = u;have : c + (p + 65536 * u) = (p + c) % 65536 + 65536 * ((p + c) / 65536 + u):=by omega
  rw [this]
  generalize (p + c) % 65536 = r;generalize (p + c) / 65536 + u = s;generalize (65536 : Int) ^ (i + j) = z;rw [Int.mul_add,Int.mul_comm 65536 z,Int.mul_assoc,Int.add_assoc]
theorem trivetref01_Mul.loop (n : Nat) : ∀ (k : Nat) (a b out : List Int) (i : Nat) (am bm : Bool),U.Dg a→U.Dg b→U.Dg out→a.length = i + n→a.length≤100→b.length≤100→out.length≤i + b.length + 1→n * 110 + 2000≤k→
  ∃ d,trivetref01_Mul.l0 k out i a am b bm = trivetref01_norm.f (k - 1 - n * (b.length + 2)) d (!(am == bm))∧U.Dg d∧U.val d = U.val out + 65536 ^ i * (U.val (a.drop i) * U.val b)∧d.length≤a.length + b.length + 1:=by
 induction n with
 | zero=>
  intro k a b out i am bm ha hb ho la la2 lb lo hk;obtain ⟨j,rfl⟩ : ∃ j,k = j + 1:=⟨k - 1,by omega⟩
  refine ⟨out,?_,ho,?_,by omega⟩
  ·simp only [trivetref01_Mul.l0]
   rw [if_neg (by omega),show j + 1 - 1 - 0 * (b.length + 2) = j by omega]
   cases trivetref01_norm.f j out (!(am == bm)) <;> rfl
  ·rw [List.drop_eq_nil_of_le (by omega)];simp [U.val]
 | succ n ih=>
  intro k a b out i am bm ha hb ho la la2 lb lo hk;obtain ⟨j,rfl⟩ : ∃ j,k = (j + b.length + 1) + 1:=⟨k - b.length - 2,by omega⟩
  obtain ⟨row,r1,r2,r3,r4⟩:=trivetref01_Mul.row b.length j a b out (List.replicate i 0) 0 i 0 am bm ha hb (U.Dg.zeros i) (by decide) (by omega) (by omega) (by omega) (by omega) (by simp);obtain ⟨t,t1,t2,t3,t4⟩:=trivetref01_plus.num j out row ho r2 (by omega) (by omega) (by omega);obtain ⟨d,d1,d2,d3,d4⟩:=ih j a b t (i + 1) am bm ha hb t2 (by omega) la2 lb (by omega) (by omega);have r1' : trivetref01_Mul.l1 (j + b.length + 1) out i (List.replicate i 0) 0 0 a am b bm = _:=r1;refine ⟨d,?_,d2,?_,d4⟩
  ·conv=>lhs;simp only [trivetref01_Mul.l0]
   rw [if_pos (by omega),if_pos (by omega),if_pos (by omega),show ((i : Int)).toNat = i from rfl,r1',t1,Option.bind_some,d1]
   congr 1
   rw [Nat.add_mul]
   omega
  ·rw [d3,t3,r3,U.val_zeros,U.drop_step a i,U.pow_succ]
   simp only [Nat.add_zero,Int.zero_add,List.drop_zero]
   generalize a.getD i 0 = x;generalize U.val (a.drop (i + 1)) = u;generalize U.val b = v;generalize (65536 : Int) ^ i = p;rw [Int.add_mul,Int.mul_add,Int.add_assoc,Int.mul_comm 65536 p,Int.mul_assoc p 65536,Int.mul_assoc 65536 u]
theorem trivetref01_Mul.num (k : Nat) (x y : Int) (hx : M.abs x < 65536 ^ 32) (hy : M.abs y < 65536 ^ 32) (hk : 6000≤k) : trivetref01_Mul.f k (U.num x).1 (U.num x).2 (U.num y).1 (U.num y).2 = some (U.num (x * y)):=by
 have lx:=U.len_dig 32 _ hx;have ly:=U.len_dig 32 _ hy;have x0:=U.abs_nonneg x;have y0:=U.abs_nonneg y;have vx:=U.val_dig x0;have vy:=U.val_dig y0;have hmul : (U.dig (M.abs x)).length * ((U.dig (M.abs y)).length + 2)≤32 * 34:=Nat.mul_le_mul lx (by omega);obtain ⟨d,d1,d2,d3,d4⟩:=trivetref01_Mul.loop (U.dig (M.abs x)).length k (U.dig (M.abs x)) (U.dig (M.abs y)) [] 0 (decide (x < 0)) (decide (y < 0)) (U.dig_dg _) (U.dig_dg _) U.Dg.nil (by omega) (by omega) (by omega) (by simp) (by omega);have d1' : trivetref01_Mul.l0 k [] 0 (U.dig (M.abs x)) (decide (x < 0)) (U.dig (M.abs y)) (decide (y < 0)) = _:=d1;show trivetref01_Mul.f k (U.dig (M.abs x)) (decide (x < 0)) (U.dig (M.abs y)) (decide (y < 0)) = _
 unfold trivetref01_Mul.f
 rw [d1',trivetref01_norm.num _ d _ (x * y) d2 (by omega) (by omega)]
 ·rw [d3,List.drop_zero,vx,vy]
  unfold M.abs
  by_cases c : x < 0 <;> by_cases c2 : y < 0 <;> simp [c,c2,U.val,Int.neg_mul,Int.mul_neg]

/-! ### trivetref01_Of: function 15 -/
mutual
def trivetref01_Of.j0 : Nat→Int→Int→Option (List Int × Bool)
 | 0,_,_=>none
 | k + 1,x0,x3=>trivetref01_Of.l0 k x0 x3 ([] : List Int) 0
def trivetref01_Of.l0 : Nat→Int→Int→List Int→Int→Option (List Int × Bool)
 | 0,_,_,_,_=>none
 | k + 1,x0,x3,x4,x5=>if x5 < 4 then (if x4.length < 17592186044416 then (trivetref01_Of.l0 k x0 (IntKind.u64.wrap (Int.tdiv x3 65536)) (x4 ++ [Int.tmod x3 65536]) (wrap64 (x5 + 1))) else (none)) else ((trivetref01_norm.f k x4 (decide (x0 < 0))).bind fun f3=>(some (f3.1,f3.2)))
end
def trivetref01_Of.f (k : Nat) (a0 : Int) : Option (List Int × Bool):=if a0 < 0 then (trivetref01_Of.j0 k a0 (IntKind.u64.wrap ((Go.bits .xor .u64 18446744073709551615 (IntKind.u64.wrap (a0))) + 1))) else (trivetref01_Of.j0 k a0 (IntKind.u64.wrap (a0)))
set_option maxHeartbeats 8000000 in
set_option maxRecDepth 100000 in
theorem trivetref01_Of.calls (k : Nat) (a0 : Int) (r1 : List Int) (r2 : Bool) (w : World) (h : trivetref01_Of.f k a0 = some (r1,r2)) :
  Calls Try.prog 15 #[.int .i64 a0] w fun e w'=>∃ v0_ : Value,e = .returned (.agg #[v0_,.bool r2])∧Kd.V (Kd.int .u64) 42 w' w.heap.size (fun B=>(w.heap.size≤B)) v0_ r1∧Below w.heap.size w w':=by
 have hu34:=Try.underlying34;have HB:=ka (Below.refl w.heap.size w);have H : (if a0 < 0 then (trivetref01_Of.j0 k a0 (IntKind.u64.wrap ((Go.bits .xor .u64 18446744073709551615 (IntKind.u64.wrap (a0))) + 1))) else (trivetref01_Of.j0 k a0 (IntKind.u64.wrap (a0)))) = some (r1,r2):=h;clear h;have h2:=ka H;clear H;go_enter Try.func15,Try.ntmps15
 go_upto_if 9 with (first|((with_reducible refine gate_dst (N:=2) rfl ?_);refine kx (N:=2) (cs:=#[.slice none 0 0,.bool false]) (t:=34) ?_;intro a7 hg w3 hbox hb;have L:=ka (below_step (kw HB.out) hb);have O:=ka (hbox);have J:=ka ((by rw [hg];exact (below_size (kw HB.out)) : w.heap.size≤a7));have K:=J;clear HB;have HB:=L;have Q:=O;have m4:=J;have b5:=K;clear L O J K;clear hb hbox hg))
 (try simp only [Act.put,List.setIfInBounds_toArray,List.set_cons_zero,List.set_cons_succ]);go_cut [3] (fun v3 wc=>∃ (kq : Nat) (x3_1 : Int),v3 = .int .u64 x3_1∧Aside0 (trivetref01_Of.j0 kq a0 x3_1 = some (r1,r2))∧Aside0 (kq≤k)∧Aside0 (wc.heap[a7]? = some (.cells #[(.slice none 0 0),.bool false] 34 (0,0)))∧Aside0 (Below w.heap.size w wc))
 case first=>
  have H:=h2.out;clear h2;by_cases c4 : a0 < 0
  ·rw [if_pos c4] at H
   have c4b0 : decide (a0 < 0) = true:=decide_eq_true c4;clear c4;(first|rw [c4b0]|(simp only [i64_w,i32_w];rw [c4b0])|skip);have H':=ka H;clear H;go_wp2
   go_meet
   case rel=>exact ⟨_,(IntKind.u64.wrap ((Go.bits .xor .u64 18446744073709551615 (IntKind.u64.wrap (a0))) + 1)),(by first|rfl|(simp;done)|(simp [*];done)),H',⟨by first|omega|exact Nat.le_refl _⟩,⟨by (with_reducible repeat (first|apply kb1|apply kb2|apply kb3));exact Q.out⟩,⟨by repeat (first|(with_reducible first|exact HB.out|apply kc1|apply kc2|apply kc3|refine kc4 ?_ b5.out)|exact HB.out)⟩⟩
  ·rw [if_neg c4] at H
   have c4b0 : decide (a0 < 0) = false:=decide_eq_false c4;clear c4;(first|rw [c4b0]|(simp only [i64_w,i32_w];rw [c4b0])|skip);have H':=ka H;clear H;go_wp2
   go_meet
   case rel=>exact ⟨_,(IntKind.u64.wrap (a0)),(by first|rfl|(simp;done)|(simp [*];done)),H',⟨by first|omega|exact Nat.le_refl _⟩,⟨by (with_reducible repeat (first|apply kb1|apply kb2|apply kb3));exact Q.out⟩,⟨by repeat (first|(with_reducible first|exact HB.out|apply kc1|apply kc2|apply kc3|refine kc4 ?_ b5.out)|exact HB.out)⟩⟩
 case rest=>
  clear h2;try clear c1
  try clear p2
  try clear c4
  try clear c4b0
  obtain ⟨kq,x3_1,rfl,HA,i3,Q,HB⟩:=hcut;cases kq with
  | zero=>exact absurd HA.out (by simp [trivetref01_Of.j0])
  | succ kj1=>
   have H:=HA.out;clear HA;simp only [trivetref01_Of.j0] at H
   have H':=ka H;clear H;go_wp2
   (try simp only [Act.put,List.setIfInBounds_toArray,List.set_cons_zero,List.set_cons_succ]);go_loopg [3,4,5] kj1 (fun kq v3 v4 v5 w'=>∃ (x3_2 : Int) (x4_2 : List Int) (x5_2 : Int),v3 = .int .u64 x3_2∧v5 = .int .i64 x5_2∧Aside0 (trivetref01_Of.l0 kq a0 x3_2 x4_2 x5_2 = some (r1,r2))∧Aside0 (kq≤kj1)∧Aside0 (Kd.R (Kd.int .u64) 42 w' w.heap.size (fun B=>(w.heap.size≤B)) v4 x4_2)∧Aside0 (w'.heap[a7]? = some (.cells #[(.slice none 0 0),.bool false] 34 (0,0)))∧Aside0 (Below w.heap.size w w'))
   case atStart=>exact ⟨(x3_1),(([] : List Int)),(0),(by first|rfl|(simp;done)|(simp [*];done)),(by first|rfl|(simp;done)|(simp [*];done)),H',⟨Nat.le_refl _⟩,⟨by first|exact Kd.R_nil _ _ _ _ _|exact Kd.N_nil _ _ _ _ _|exact Kd.V_nil _ _ _ _ _|exact Kd.Q_nil _ _ _ _ _|exact Kd.S_nil _ _ _ _ _⟩,⟨by (with_reducible repeat (first|apply kb1|apply kb2|apply kb3));exact Q.out⟩,⟨by repeat (first|(with_reducible first|exact HB.out|apply kc1|apply kc2|apply kc3|refine kc4 ?_ b5.out)|exact HB.out)⟩⟩
   case round=>
    clear H';try clear c1
    try clear p2
    try clear c4
    try clear c4b0
    try clear p2
    obtain ⟨x3_2,x4_2,x5_2,rfl,rfl,HA,HK2,b2,Q,HB⟩:=hrel;cases gk with
    | zero=>exact absurd HA.out (by simp [trivetref01_Of.l0])
    | succ k2=>
     have H:=HA.out;clear HA;simp only [trivetref01_Of.l0] at H
     by_cases c5 : x5_2 < 4
     ·rw [if_pos c5] at H
      have c5b0 : decide (x5_2 < 4) = true:=decide_eq_true c5;clear c5;by_cases c6 : x4_2.length < 17592186044416
      ·rw [if_pos c6] at H
       have LMc6:=ka c6;clear c6;obtain ⟨y482,hy482⟩ : ∃ y_ : List Int,y_ = (x4_2 ++ [Int.tmod x3_2 65536]):=⟨_,rfl⟩
       replace H : (trivetref01_Of.l0 k2 a0 (IntKind.u64.wrap (Int.tdiv x3_2 65536)) y482 (wrap64 (x5_2 + 1))) = some (r1,r2):=by first|(rw [hy482];with_reducible exact H)|(have H2_:=(Option.bind_some _ _).symm.trans H;rw [hy482];with_reducible exact H2_)|(have H2_:=(Option.bind_some _ _).symm.trans H;with_reducible exact H2_)|with_reducible exact H|(rw [hy482];exact H)|exact H
       have Ny482:=ka hy482;clear hy482;have H':=ka H;clear H;go_wp2_with (first|((with_reducible refine gate_builtin (b:=.append) (xs:=#[.tmp 17,.tmp 20]) rfl ?_);at_builtin;refine Kd.R_append (Kd.int .u64) (w0:=w) w.heap.size rfl (.tmp 17) (.tmp 20) 32 42 (.int .u64 0) 8 rfl Try.underlying32 info42 rfl (by decide) (by omega) u4 x4_2 (Int.tmod x3_2 65536) [.int .u64 (Int.tmod x3_2 65536)] (fun B=>(w.heap.size≤B)) (fun _=>False) rfl rfl ?aP (fun _ hk=>hk.elim) ?aF ?aO ?aB ?aS ?aL ?_;(case aP=>exact rfl);(case aB=>exact (kw HB.out));(case aF=>exact (fun B hk=>(Nat.le_trans (below_size (kw HB.out)) hk)));(case aO=>exact (kr b2.out));(case aS=>exact (below_size (kw HB.out)));(case aL=>have:=LMc6.out;omega);intro n2 w7 ho hb hg hat;rw [← Ny482.out] at ho;replace Q:=ka (blk_grown (g:=a7) (kz Q.out) hg (Kd.R_ne b2.out Q.out (by decide)));replace HB:=ka (hb);have h7:=ka (ho);clear b2;clear ho hb hg hat))
       go_roundg k2
       case measure=>have:=i3.out;have:=HK2.out;omega
       case rel=>exact ⟨(IntKind.u64.wrap (Int.tdiv x3_2 65536)),(y482),(wrap64 (x5_2 + 1)),(by first|rfl|(simp;done)|(simp [*];done)),(by first|rfl|(simp;done)|(simp [*];done)),H',⟨by have:=i3.out;have:=HK2.out;omega⟩,⟨kr h7.out⟩,⟨by (with_reducible repeat (first|apply kb1|apply kb2|apply kb3));exact Q.out⟩,⟨by repeat (first|(with_reducible first|exact HB.out|apply kc1|apply kc2|apply kc3|refine kc4 ?_ b5.out)|exact HB.out)⟩⟩
      ·rw [if_neg c6] at H
       exact absurd H (by simp)
     ·rw [if_neg c5] at H
      have c5b0 : decide (x5_2 < 4) = false:=decide_eq_false c5;clear c5;replace H:=Option.bind_eq_some_iff.mp H;obtain ⟨⟨e4,e5⟩,i4,H⟩:=H;replace H : (some (e4,e5)) = some (r1,r2):=H;have A8:=ka i4;clear i4;simp only [Option.some.injEq,Prod.mk.injEq] at H
      obtain ⟨rfl,rfl⟩:=H;obtain ⟨i5,i6,j3⟩:=Kd.R_slice b2.out;subst j3;go_wp2_with (first|((with_reducible refine gate_callee (f:=28) rfl ?_);refine kg (some 27) rfl rfl Try.func28 (by kernel_rfl) rfl #[.slice i5 x4_2.length i6,.bool (decide (a0 < 0))] rfl ?_;(with_reducible refine (trivetref01_norm.calls k2 (fun B=>some B = (.slice i5 x4_2.length i6 : Value).ownBlock) _ _ x4_2 (decide (a0 < 0)) e4 e5 _ ?side1 A8.out).mono ?_);(case side1=>exact Kd.R_V (Kd.R_tight rfl (Kd.R_types (b2.out) Q.out (by decide))));rintro e n7 ⟨n4,rfl,ho0,hb⟩;refine ⟨_,rfl,?_⟩;have f4:=ka (Kd.V_lower (Kd.V_mono (ok':=fun B=>(w.heap.size≤B)∧B≠a7) ho0 (fun B a6=>⟨Or.elim a6 (fun S=>((Kd.R_types (b2.out) Q.out (by decide)).1 B S.symm).1) (fun T=>(Nat.le_trans (below_size (kw HB.out)) T)),Or.elim a6 (fun S=>((Kd.R_types (b2.out) Q.out (by decide)).1 B S.symm).2) (fun T=>(kf Q T))⟩)) (below_size (kw HB.out)));replace b2:=ka (Kd.R_below (kr b2.out) hb);replace Q:=kbb Q hb;replace HB:=ka (below_step (kw HB.out) hb);(try clear hb);(try clear hb2);(try clear hk);(try clear hi);(try clear ho0);obtain ⟨h3,h4,i9⟩:=Kd.V_slice f4.out;subst i9;have m5:=blkAll2 Q.out))
      refine bodyPost_ret (results_cell_row rfl _ _ a7 34 #[.slice h3 e4.length h4,.bool e5] (0,0) _ rfl (by (with_reducible repeat (first|apply kb1|apply kb2|apply kb3|apply blkPut2_1|apply blkPut2_0));exact Q.out) Try.underlying34 rfl (by kernel_rfl)) rfl ?_;exact ⟨_,by first|rfl|(simp [errW_none,errW_some] <;> rfl)|(simp [*,errW_none,errW_some] <;> rfl),by (with_reducible repeat (first|apply Kd.V_alloc|apply Kd.V_drewN|apply Kd.V_drew));exact Kd.V_mono (Kd.V_far (p:=⟨a7,1,none⟩) (Kd.V_far (p:=⟨a7,0,none⟩) (Kd.V_mono f4.out (fun B hk=>(⟨hk,hk.2⟩ : _∧B≠a7))) (fun _ hk=>hk.2) (.slice h3 e4.length h4)) (fun _ hk=>hk.2) (.bool e5)) (fun _ hk=>hk.1.1),by repeat (first|(with_reducible first|exact HB.out|apply kc1|apply kc2|apply kc3|refine kc4 ?_ b5.out)|exact HB.out)⟩

/-! ### trivetref01_Of: function 15,its laws -/
theorem trivetref01_Of.sized (k : Nat) (a u : Int) (hu : 0≤u∧u < 18446744073709551616) (ha : u = M.abs a) (hk : 12≤k) : trivetref01_Of.j0 k a u = some (U.num a):=by
 obtain ⟨j,rfl⟩ : ∃ j,k = j + 6 + 6:=⟨k - 12,by omega⟩
 have d0:=Int.emod_nonneg u (show (65536 : Int)≠0 by decide);simp only [trivetref01_Of.j0,trivetref01_Of.l0]
 rw [M.tdivu (show 0≤u by omega),M.tmodu (show 0≤u by omega),M.wrapu_id (n:=u / 65536) (by omega) (by omega)]
 rw [M.tdivu (show 0≤u / 65536 by omega),M.tmodu (show 0≤u / 65536 by omega),M.wrapu_id (n:=u / 65536 / 65536) (by omega) (by omega)]
 rw [M.tdivu (show 0≤u / 65536 / 65536 by omega),M.tmodu (show 0≤u / 65536 / 65536 by omega),M.wrapu_id (n:=u / 65536 / 65536 / 65536) (by omega) (by omega)]
 rw [M.tmodu (show 0≤u / 65536 / 65536 / 65536 by omega)]
 have w1 : wrap64 (0 + 1) = 1:=by unfold wrap64;decide
 have w2 : wrap64 (1 + 1) = 2:=by unfold wrap64;decide
 have w3 : wrap64 (2 + 1) = 3:=by unfold wrap64;decide
 have w4 : wrap64 (3 + 1) = 4:=by unfold wrap64;decide
 simp only [w1,w2,w3,w4]
 rw [if_pos (by decide),if_pos (by simp),if_pos (by decide),if_pos (by simp),if_pos (by decide),if_pos (by simp),if_pos (by decide),if_pos (by simp),if_neg (by decide)]
 rw [trivetref01_norm.num _ _ _ a]
 ·rfl
 ·intro x hx;simp at hx
  rcases hx with rfl|rfl|rfl|rfl <;> omega
 ·simp
 ·simp
 ·simp only [List.nil_append,List.cons_append,U.val]
  unfold M.abs at ha
  by_cases h : a < 0
  ·rw [if_pos h] at ha;rw [if_pos (decide_eq_true h)];omega
  ·rw [if_neg h] at ha;rw [if_neg (by simpa using h)];omega
theorem trivetref01_Of.num (k : Nat) (a : Int) (ha : M.In a) (hk : 12≤k) : trivetref01_Of.f k a = some (U.num a):=by
 unfold M.In at ha
 unfold trivetref01_Of.f
 by_cases h : a < 0
 ·rw [if_pos h]
  have e : IntKind.u64.wrap (Go.bits .xor .u64 18446744073709551615 (IntKind.u64.wrap a) + 1) = -a:=by
   have e1 : IntKind.u64.wrap a = a + 18446744073709551616:=by rw [M.wrapu];omega
   rw [e1,M.xor_all _ (by omega) (by omega),M.wrapu];omega
  rw [e]
  exact trivetref01_Of.sized k a (-a) (by omega) (by unfold M.abs;rw [if_pos h]) hk
 ·rw [if_neg h,M.wrapu_id (by omega) (by omega)]
  exact trivetref01_Of.sized k a a (by omega) (by unfold M.abs;rw [if_neg h]) hk

/-! ### trivetref01_less: function 29 -/
def trivetref01_less.l0 : Nat→List Int→List Int→Int→Option (Bool)
 | 0,_,_,_=>none
 | k + 1,x0,x1,x5=>if x5 ≥ 0 then (if 0≤x5 then (if x5 < (x0.length : Int) then (if x5 < (x1.length : Int) then (if (rd x0 x5) = (rd x1 x5) then (trivetref01_less.l0 k x0 x1 (wrap64 (x5 - 1))) else (some (decide ((rd x0 x5) < (rd x1 x5))))) else (none)) else (none)) else (none)) else (some false)
def trivetref01_less.f (k : Nat) (l0 : List Int) (l1 : List Int) : Option (Bool):=if (l0.length : Int) = (l1.length : Int) then (trivetref01_less.l0 k l0 l1 (wrap64 ((l0.length : Int) - 1))) else (some (decide ((l0.length : Int) < (l1.length : Int))))
set_option maxHeartbeats 8000000 in
set_option maxRecDepth 100000 in
theorem trivetref01_less.calls (k : Nat) (A0 : Option Addr) (c0 : Nat) (l0 : List Int) (A1 : Option Addr) (c1 : Nat) (l1 : List Int) (r : Bool) (w : World) (hr0 : Kd.C (Kd.int .u64) w A0 l0.length l0) (hc0 : l0.length≤c0) (hr1 : Kd.C (Kd.int .u64) w A1 l1.length l1) (hc1 : l1.length≤c1) (h : trivetref01_less.f k l0 l1 = some r) :
  Calls Try.prog 29 #[.slice A0 l0.length c0,.slice A1 l1.length c1] w fun e w'=>e = .returned (.bool r)∧Drawn0 w w':=by
 have HR0:=ka hr0;have n8:=ka hc0;clear hr0 hc0;have HR1:=ka hr1;have n9:=ka hc1;clear hr1 hc1;have H : (if (l0.length : Int) = (l1.length : Int) then (trivetref01_less.l0 k l0 l1 (wrap64 ((l0.length : Int) - 1))) else (some (decide ((l0.length : Int) < (l1.length : Int))))) = some r:=h;clear h;by_cases c3 : (l0.length : Int) = (l1.length : Int)
 ·rw [if_pos c3] at H
  have c3b0 : ((l0.length : Int) == (l1.length : Int)) = true:=beq_iff_eq.mpr c3;have c3b1 : ((l0.length : Int) != (l1.length : Int)) = false:=bne_eq_false_iff_eq.mpr c3;have c3b2 : (l0.length == l1.length) = true:=by first|simpa using c3|(simp at c3 ⊢;omega)
  clear c3;have H':=ka H;clear H;go_enter Try.func29,Try.ntmps29
  go_wp2
  repeat (go_quiet (fail);try go_wp2)
  (try simp only [Act.put,List.setIfInBounds_toArray,List.set_cons_zero,List.set_cons_succ]);go_loopg [5] k (fun kq v5 w'=>∃ (x5_1 : Int),v5 = .int .i64 x5_1∧Aside0 (trivetref01_less.l0 kq l0 l1 x5_1 = some r)∧Aside0 (kq≤k)∧Drawn0 w w')
  case atStart=>exact ⟨(wrap64 ((l0.length : Int) - 1)),(by first|rfl|(simp;done)|(simp [*];done)),H',⟨Nat.le_refl _⟩,by repeat (first|exact Drawn0.refl _|apply Drawn0.step)⟩
  case round=>
   clear H';try clear c1
   try clear c2
   try clear p2
   try clear c3
   try clear c3b0
   try clear c3b1
   try clear c3b2
   obtain ⟨x5_1,rfl,HA,HK1,⟨m1,rfl⟩⟩:=hrel;cases gk with
   | zero=>exact absurd HA.out (by simp [trivetref01_less.l0])
   | succ k1=>
    have H:=HA.out;clear HA;simp only [trivetref01_less.l0] at H
    by_cases c4 : x5_1 ≥ 0
    ·rw [if_pos c4] at H
     have c4b0 : decide (0≤x5_1) = true:=decide_eq_true c4;clear c4;by_cases c5 : 0≤x5_1
     ·rw [if_pos c5] at H
      have c5b0 : decide (0≤x5_1) = true:=decide_eq_true c5;clear c5;by_cases c6 : x5_1 < (l0.length : Int)
      ·rw [if_pos c6] at H
       have c6b0 : decide (x5_1 < (l0.length : Int)) = true:=decide_eq_true c6;clear c6;by_cases c7 : x5_1 < (l1.length : Int)
       ·rw [if_pos c7] at H
        have c7b0 : decide (x5_1 < (l1.length : Int)) = true:=decide_eq_true c7;clear c7;by_cases c8 : (rd l0 x5_1) = (rd l1 x5_1)
        ·rw [if_pos c8] at H
         have c8b0 : ((rd l0 x5_1) == (rd l1 x5_1)) = true:=beq_iff_eq.mpr c8;have c8b1 : ((rd l0 x5_1) != (rd l1 x5_1)) = false:=bne_eq_false_iff_eq.mpr c8;clear c8;have H':=ka H;clear H;have p489 : 0≤(x5_1 : Int):=of_decide_eq_true (by first|(with_reducible assumption)|assumption);have q489 : x5_1 < (l0.length : Int):=of_decide_eq_true (by first|(with_reducible assumption)|assumption);obtain ⟨ad489,e489,hx489_0⟩:=Kd.at_int HR0.out x5_1 p489 q489;cases e489
         replace p489:=eq_true p489;replace q489:=eq_true q489;have p490 : 0≤(x5_1 : Int):=of_decide_eq_true (by first|(with_reducible assumption)|assumption);have q490 : x5_1 < (l1.length : Int):=of_decide_eq_true (by first|(with_reducible assumption)|assumption);obtain ⟨ad490,e490,hx490_0⟩:=Kd.at_int HR1.out x5_1 p490 q490;cases e490
         replace p490:=eq_true p490;replace q490:=eq_true q490;go_wp2
         repeat (go_quiet (fail);try go_wp2)
         go_roundg k1
         case measure=>have:=HK1.out;omega
         case rel=>exact ⟨(wrap64 (x5_1 - 1)),(by first|rfl|(simp;done)|(simp [*];done)),H',⟨by have:=HK1.out;omega⟩,by repeat (first|exact Drawn0.refl _|apply Drawn0.step)⟩
        ·rw [if_neg c8] at H
         have c8b0 : ((rd l0 x5_1) == (rd l1 x5_1)) = false:=beq_eq_false_iff_ne.mpr c8;have c8b1 : ((rd l0 x5_1) != (rd l1 x5_1)) = true:=bne_iff_ne.mpr c8;obtain rfl:=Option.some.inj H;have p489 : 0≤(x5_1 : Int):=of_decide_eq_true (by first|(with_reducible assumption)|assumption);have q489 : x5_1 < (l0.length : Int):=of_decide_eq_true (by first|(with_reducible assumption)|assumption);obtain ⟨ad489,e489,hx489_0⟩:=Kd.at_int HR0.out x5_1 p489 q489;cases e489
         replace p489:=eq_true p489;replace q489:=eq_true q489;have p490 : 0≤(x5_1 : Int):=of_decide_eq_true (by first|(with_reducible assumption)|assumption);have q490 : x5_1 < (l1.length : Int):=of_decide_eq_true (by first|(with_reducible assumption)|assumption);obtain ⟨ad490,e490,hx490_0⟩:=Kd.at_int HR1.out x5_1 p490 q490;cases e490
         replace p490:=eq_true p490;replace q490:=eq_true q490;have p491 : 0≤(x5_1 : Int):=of_decide_eq_true (by first|(with_reducible assumption)|assumption);have q491 : x5_1 < (l0.length : Int):=of_decide_eq_true (by first|(with_reducible assumption)|assumption);obtain ⟨ad491,e491,hx491_0⟩:=Kd.at_int HR0.out x5_1 p491 q491;obtain rfl : ad489 = ad491:=(by injection e491)
         replace p491:=eq_true p491;replace q491:=eq_true q491;have p492 : 0≤(x5_1 : Int):=of_decide_eq_true (by first|(with_reducible assumption)|assumption);have q492 : x5_1 < (l1.length : Int):=of_decide_eq_true (by first|(with_reducible assumption)|assumption);obtain ⟨ad492,e492,hx492_0⟩:=Kd.at_int HR1.out x5_1 p492 q492;obtain rfl : ad490 = ad492:=(by injection e492)
         replace p492:=eq_true p492;replace q492:=eq_true q492;go_wp2
         repeat (go_quiet (fail);try go_wp2)
         go_ret
         exact ⟨by first|rfl|(simp;done)|(simp [*];done),by repeat (first|exact Drawn0.refl _|apply Drawn0.step)⟩
       ·rw [if_neg c7] at H
        exact absurd H (by simp)
      ·rw [if_neg c6] at H
       exact absurd H (by simp)
     ·rw [if_neg c5] at H
      exact absurd H (by simp)
    ·rw [if_neg c4] at H
     have c4b0 : decide (0≤x5_1) = false:=decide_eq_false c4;clear c4;obtain rfl:=Option.some.inj H;go_wp2
     repeat (go_quiet (fail);try go_wp2)
     go_ret
     exact ⟨by first|rfl|(simp;done)|(simp [*];done),by repeat (first|exact Drawn0.refl _|apply Drawn0.step)⟩
 ·rw [if_neg c3] at H
  have c3b0 : ((l0.length : Int) == (l1.length : Int)) = false:=beq_eq_false_iff_ne.mpr c3;have c3b1 : ((l0.length : Int) != (l1.length : Int)) = true:=bne_iff_ne.mpr c3;have c3b2 : (l0.length == l1.length) = false:=by first|simpa using c3|(simp at c3 ⊢;omega)
  obtain rfl:=Option.some.inj H;go_enter Try.func29,Try.ntmps29
  go_wp2
  repeat (go_quiet (fail);try go_wp2)
  go_ret
  exact ⟨by first|rfl|(simp;done)|(simp [*];done),by repeat (first|exact Drawn0.refl _|apply Drawn0.step)⟩

/-! ### trivetref01_less: function 29,its laws -/
theorem trivetref01_less.loop (i : Nat) : ∀ (k : Nat) (a b : List Int),U.Dg a→U.Dg b→a.length = b.length→i≤a.length→(i : Int) < 1000000→i < k→trivetref01_less.l0 k a b ((i : Int) - 1) = some (decide (U.val (a.take i) < U.val (b.take i))):=by
 induction i with
 | zero=>
  intro k a b ha hb hl hi hm hk;obtain ⟨j,rfl⟩ : ∃ j,k = j + 1:=⟨k - 1,by omega⟩
  simp only [trivetref01_less.l0]
  rw [if_neg (by omega)]
  simp [U.val]
 | succ i ih=>
  intro k a b ha hb hl hi hm hk;obtain ⟨j,rfl⟩ : ∃ j,k = j + 1:=⟨k - 1,by omega⟩
  have ra : rd a ((i + 1 : Nat) - 1 : Int) = a.getD i 0:=by unfold rd;congr 1;omega
  have rb : rd b ((i + 1 : Nat) - 1 : Int) = b.getD i 0:=by unfold rd;congr 1;omega
  have va:=U.val_lt (d:=a.take i) (fun x hx=>ha x (List.mem_of_mem_take hx));have vb:=U.val_lt (d:=b.take i) (fun x hx=>hb x (List.mem_of_mem_take hx));have va0:=U.val_nonneg (d:=a.take i) (fun x hx=>ha x (List.mem_of_mem_take hx));have vb0:=U.val_nonneg (d:=b.take i) (fun x hx=>hb x (List.mem_of_mem_take hx));rw [List.length_take,show min i a.length = i by omega] at va
  rw [List.length_take,show min i b.length = i by omega] at vb
  have ih':=ih j a b ha hb hl (by omega) (by omega) (by omega);simp only [trivetref01_less.l0]
  rw [if_pos (show ((i + 1 : Nat) - 1 : Int) ≥ 0 by omega),if_pos (show 0≤((i + 1 : Nat) - 1 : Int) by omega),if_pos (show ((i + 1 : Nat) - 1 : Int) < a.length by omega),if_pos (show ((i + 1 : Nat) - 1 : Int) < b.length by omega),ra,rb,U.take_succ a i (by omega),U.take_succ b i (by omega)]
  rw [M.w64_id (n:=((i + 1 : Nat) - 1 : Int) - 1) (by omega) (by omega),show ((i + 1 : Nat) - 1 : Int) - 1 = (i : Int) - 1 by omega,ih']
  generalize a.getD i 0 = x at *;generalize b.getD i 0 = y at *;generalize U.val (a.take i) = u at *;generalize U.val (b.take i) = v at *;have hp:=U.pow_pos i;generalize (65536 : Int) ^ i = p at *;by_cases h : x = y
  ·rw [if_pos h,h];congr 1;apply decide_eq_decide.mpr;omega
  ·rw [if_neg h]
   congr 1
   apply decide_eq_decide.mpr
   constructor
   ·intro hxy;have h1:=Int.mul_le_mul_of_nonneg_left (show x + 1≤y by omega) (Int.le_of_lt hp);rw [Int.mul_add] at h1
    omega
   ·intro hv;refine Classical.byContradiction fun hn=>?_
    have h1:=Int.mul_le_mul_of_nonneg_left (show y + 1≤x by omega) (Int.le_of_lt hp);rw [Int.mul_add] at h1
    omega
theorem trivetref01_less.num (k : Nat) (x y : Int) (hx : 0≤x) (hy : 0≤y) (lx : (U.dig x).length≤1000) (ly : (U.dig y).length≤1000) (hk : (U.dig x).length + 2≤k) : trivetref01_less.f k (U.dig x) (U.dig y) = some (decide (x < y)):=by
 unfold trivetref01_less.f
 have ax:=U.val_dig hx;have ay:=U.val_dig hy;by_cases h : (U.dig x).length = (U.dig y).length
 ·rw [if_pos (by omega)]
  have hw : wrap64 (((U.dig x).length : Int) - 1) = ((U.dig x).length : Int) - 1:=M.w64_id (by omega) (by omega);rw [hw,trivetref01_less.loop _ k _ _ (U.dig_dg x) (U.dig_dg y) h (Nat.le_refl _) (by omega) (by omega),List.take_length,h,List.take_length,ax,ay]
 ·rw [if_neg (by omega)]
  congr 1
  apply decide_eq_decide.mpr
  constructor
  ·intro hl;refine Classical.byContradiction fun hn=>?_
   have h1:=U.val_lt (U.dig_dg x);rw [ax] at h1
   have:=U.len_dig (U.dig x).length y (by omega);omega
  ·intro hl;refine Classical.byContradiction fun hn=>?_
   have h1:=U.val_lt (U.dig_dg y);rw [ay] at h1
   have:=U.len_dig (U.dig y).length x (by omega);omega

end Go.Proofs.Ytcpmfdagnchlbaa.P
