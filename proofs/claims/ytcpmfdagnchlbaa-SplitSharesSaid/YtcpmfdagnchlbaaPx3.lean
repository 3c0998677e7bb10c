-- Written by a program of this session out of the translation of the seat: Lean functions and the proofs that the Go functions come to them.
import Derived.Test.YtcpmfdagnchlbaaPx0
import Derived.Test.YtcpmfdagnchlbaaPx1
import Derived.Test.YtcpmfdagnchlbaaPx2
namespace Go.Proofs.Ytcpmfdagnchlbaa.P
open Go.RowKit Go.Proofs.YtcpmfdagnchlbaaW.PrintWords Go.Proofs.YtcpmfdagnchlbaaW.PrintLast Go.Proofs.YtcpmfdagnchlbaaW.PrintMore
attribute [local go_sem] max2_int min2_int max_two min_two max_three min_three max_four min_four   -- for this text's walks alone
set_option linter.unusedVariables false
set_option linter.unusedSimpArgs false

/-! ### split_Shares: function 10 -/
mutual
def split_Shares.j0 : Nat→Int→List Int→Bool→Option (List Int × Option Int)
 | 0,_,_,_=>none
 | k + 1,x0,x1,x31=>if x31 = true then (some (([] : List Int),some 1)) else (split_Shares.l0 k x0 x1 0 x1 (x1.length : Int) 0)
def split_Shares.l0 : Nat→Int→List Int→Int→List Int→Int→Int→Option (List Int × Option Int)
 | 0,_,_,_,_,_,_=>none
 | k + 1,x0,x1,x6,x33,x34,x35=>if x35 < x34 then (if 0≤x35 then (if x35 < (x33.length : Int) then (if (rd x33 x35) < 0 then (some (([] : List Int),some 1)) else (if (rd x33 x35) > 10000000000000 then (some (([] : List Int),some 1)) else (split_Shares.l0 k x0 x1 (IntKind.u64.wrap (x6 + (IntKind.u64.wrap (rd x33 x35)))) x33 x34 (wrap64 (x35 + 1))))) else (none)) else (none)) else (if x6 = 0 then (some (([] : List Int),some 1)) else (if 0≤(x1.length : Int) then (if ((x1.length : Int) : Int).toNat≤35184372088832 then (split_Shares.l1 k x0 x6 (List.replicate ((x1.length : Int) : Int).toNat 0) x0 ([] : List Int) x1 (x1.length : Int) 0 (List.replicate ((x1.length : Int) : Int).toNat 0)) else (none)) else (none)))
def split_Shares.l1 : Nat→Int→Int→List Int→Int→List Int→List Int→Int→Int→List Int→Option (List Int × Option Int)
 | 0,_,_,_,_,_,_,_,_,_=>none
 | k + 1,x0,x6,x9,x11,x12,x61,x62,x63,x413000=>if x63 < x62 then (if 0≤x63 then (if x63 < (x61.length : Int) then ((bits_Mul64_s.f (IntKind.u64.wrap (x0)) (IntKind.u64.wrap (rd x61 x63))).bind fun Z=>((bits_Div64_s.f Z.1 Z.2 x6).bind fun F=>(if x63 < (x9.length : Int) then (if x63 < (x413000.length : Int) then (if x12.length < 17592186044416 then (split_Shares.l1 k x0 x6 (x9.set (x63 : Int).toNat (wrap64 (F.1))) (wrap64 (x11 - (wrap64 (F.1)))) (x12 ++ [x63]) x61 x62 (wrap64 (x63 + 1)) (x413000.set (x63 : Int).toNat F.2)) else (none)) else (none)) else (none)))) else (none)) else (none)) else (if Srt.ok x413000 x12 = true then (if 0≤x11 then (if x11≤(x12.length : Int) then ((some ((Srt.srt x413000 x12).take (x11 : Int).toNat : List Int)).bind fun y424=>(split_Shares.l2 k x9 y424 (y424.length : Int) 0)) else (none)) else (none)) else (none))
def split_Shares.l2 : Nat→List Int→List Int→Int→Int→Option (List Int × Option Int)
 | 0,_,_,_,_=>none
 | k + 1,x9,x106,x107,x108=>if x108 < x107 then (if 0≤x108 then (if x108 < (x106.length : Int) then (if 0≤(rd x106 x108) then (if (rd x106 x108) < (x9.length : Int) then (split_Shares.l2 k (x9.set ((rd x106 x108) : Int).toNat (wrap64 ((rd x9 (rd x106 x108)) + 1))) x106 x107 (wrap64 (x108 + 1))) else (none)) else (none)) else (none)) else (none)) else (some (x9,none))
end
def split_Shares.f (k : Nat) (a0 : Int) (l1 : List Int) : Option (List Int × Option Int):=if a0 < 0 then (split_Shares.j0 k a0 l1 true) else (if a0 > 10000000000000 then (split_Shares.j0 k a0 l1 true) else (split_Shares.j0 k a0 l1 (decide ((l1.length : Int) > 480))))
def split_Shares.T13 : Bool × List (List Nat × List Nat):=(true,[([],[]),([0],[0]),([1,1],[1]),([],[]),([3],[3]),([4,4],[4]),([],[]),([2,0,1,2,6],[2]),([6,5,7,0,1,2,3,4,5,6,7],[5,6])])
def split_Shares.B13 : List Nat:=[0,1,3,0,8,24,0,71,255]
theorem split_Shares.tab13 : rtab .any (opsOf Try.f10 13) = split_Shares.T13:=by kernel_rfl
theorem split_Shares.bits13 : waitsOk split_Shares.T13.2 split_Shares.B13 = true:=by kernel_rfl
def split_Shares.T21 : Bool × List (List Nat × List Nat):=(true,[([],[]),([],[]),([],[]),([],[]),([],[]),([4],[4]),([],[]),([0,1,0,1,4,5],[0,1]),([7,5,0,1,4,5],[5,7]),([2,3,0,1,2,3,4,5,6,7,8],[2,3]),([9,6,8,0,1,2,3,4,5,6,7,8],[6,9])])
def split_Shares.B21 : List Nat:=[0,0,0,0,0,16,0,51,179,511,1023]
theorem split_Shares.tab21 : rtab .any (opsOf Try.f10 21) = split_Shares.T21:=by kernel_rfl
theorem split_Shares.bits21 : waitsOk split_Shares.T21.2 split_Shares.B21 = true:=by kernel_rfl
set_option maxHeartbeats 8000000 in
set_option maxRecDepth 100000 in
theorem split_Shares.calls (k : Nat) (a0 : Int) (A1 : Option Addr) (c1 : Nat) (l1 : List Int) (r1 : List Int) (r2 : Option Int) (w : World) (hr1 : Kd.C (Kd.int .i64) w A1 l1.length l1) (hc1 : l1.length≤c1) (h : split_Shares.f k a0 l1 = some (r1,r2)) :
  Calls Try.prog 10 #[.int .i64 a0,.slice A1 l1.length c1] w fun e w'=>∃ v0_ : Value,e = .returned (.tuple #[v0_,errW r2])∧Kd.R (Kd.int .i64) 2 w' w.heap.size (fun _=>True) v0_ r1∧Below w.heap.size w w':=by
 have hu25:=Try.underlying25;have hu29:=Try.underlying29;have HR1:=ka hr1;have e4:=ka hc1;clear hr1 hc1;have HB:=ka (Below.refl w.heap.size w);have H : (if a0 < 0 then (split_Shares.j0 k a0 l1 true) else (if a0 > 10000000000000 then (split_Shares.j0 k a0 l1 true) else (split_Shares.j0 k a0 l1 (decide ((l1.length : Int) > 480))))) = some (r1,r2):=h;clear h;have a1:=ka H;clear H;go_enter Try.func10,Try.ntmps10
 go_upto_region 1 with (fail)
 go_cut [31] (fun d0 wc=>∃ (kq : Nat) (x31_2 : Bool),d0 = .bool x31_2∧Aside0 (split_Shares.j0 kq a0 l1 x31_2 = some (r1,r2))∧Aside0 (kq≤k)∧Aside0 (Below w.heap.size w wc))
 case first=>
  have H:=a1.out;clear a1;by_cases c4 : a0 < 0
  ·rw [if_pos c4] at H
   have c4b0 : decide (a0 < 0) = true:=decide_eq_true c4;clear c4;(first|rw [c4b0]|(simp only [i64_w,i32_w];rw [c4b0])|skip);have H':=ka H;clear H;go_wp2
   go_meet
   case rel=>exact ⟨_,(true),(by first|rfl|(simp;done)|(simp [*];done)),H',⟨by first|omega|exact Nat.le_refl _⟩,⟨by repeat (first|(with_reducible first|exact HB.out|apply kc1|apply kc2|apply kc3)|exact HB.out)⟩⟩
  ·rw [if_neg c4] at H
   have c4b0 : decide (a0 < 0) = false:=decide_eq_false c4;clear c4;(first|rw [c4b0]|(simp only [i64_w,i32_w];rw [c4b0])|skip);by_cases c5 : a0 > 10000000000000
   ·rw [if_pos c5] at H
    have c5b0 : decide (10000000000000 < a0) = true:=decide_eq_true c5;clear c5;have H':=ka H;clear H;go_wp2
    go_meet
    case rel=>exact ⟨_,(true),(by first|rfl|(simp;done)|(simp [*];done)),H',⟨by first|omega|exact Nat.le_refl _⟩,⟨by repeat (first|(with_reducible first|exact HB.out|apply kc1|apply kc2|apply kc3)|exact HB.out)⟩⟩
   ·rw [if_neg c5] at H
    have c5b0 : decide (10000000000000 < a0) = false:=decide_eq_false c5;clear c5;have H':=ka H;clear H;go_wp2
    go_meet
    case rel=>exact ⟨_,(decide ((l1.length : Int) > 480)),(by first|rfl|(simp;done)|(simp [*];done)),H',⟨by first|omega|exact Nat.le_refl _⟩,⟨by repeat (first|(with_reducible first|exact HB.out|apply kc1|apply kc2|apply kc3)|exact HB.out)⟩⟩
 case rest=>
  clear a1;try clear c1
  try clear p2
  try clear c4
  try clear c4b0
  try clear c5
  try clear c5b0
  obtain ⟨kq,x31_2,rfl,HA,M,HB⟩:=hcut;cases kq with
  | zero=>exact absurd HA.out (by simp [split_Shares.j0])
  | succ kj2=>
   have H:=HA.out;clear HA;simp only [split_Shares.j0] at H
   by_cases c6 : x31_2 = true
   ·subst c6;have H1 : (some (([] : List Int),some 1)) = some (r1,r2):=by rw [if_pos rfl] at H;exact H
    clear H;have H:=H1;clear H1;simp only [Option.some.injEq,Prod.mk.injEq] at H
    obtain ⟨rfl,rfl⟩:=H;go_wp2
    go_ret2
    exact ⟨_,by first|rfl|(simp [errW_none,errW_some] <;> rfl)|(simp [*,errW_none,errW_some] <;> rfl),by first|exact Kd.R_nil _ _ _ _ _|exact Kd.N_nil _ _ _ _ _|exact Kd.V_nil _ _ _ _ _|exact Kd.Q_nil _ _ _ _ _|exact Kd.S_nil _ _ _ _ _,by repeat (first|(with_reducible first|exact HB.out|apply kc1|apply kc2|apply kc3)|exact HB.out)⟩
   ·replace c6:=Bool.eq_false_iff.mpr c6;subst c6;have H1 : (split_Shares.l0 kj2 a0 l1 0 l1 (l1.length : Int) 0) = some (r1,r2):=by rw [if_neg (show ¬ (false = true) by decide)] at H;exact H
    clear H;have H:=H1;clear H1;have H':=ka H;clear H;go_wp2
    (try simp only [Act.put,List.setIfInBounds_toArray,List.set_cons_zero,List.set_cons_succ]);go_loopg [6,35] kj2 (fun kq v6 d1 w'=>∃ (x6_2 : Int) (x35_2 : Int),v6 = .int .u64 x6_2∧d1 = .int .i64 x35_2∧Aside0 (split_Shares.l0 kq a0 l1 x6_2 l1 (l1.length : Int) x35_2 = some (r1,r2))∧Aside0 (kq≤kj2)∧Aside0 (Below w.heap.size w w'))
    case atStart=>exact ⟨(0),(0),(by first|rfl|(simp;done)|(simp [*];done)),(by first|rfl|(simp;done)|(simp [*];done)),H',⟨Nat.le_refl _⟩,⟨by repeat (first|(with_reducible first|exact HB.out|apply kc1|apply kc2|apply kc3)|exact HB.out)⟩⟩
    case round=>
     clear H';try clear c1
     try clear p2
     try clear c4
     try clear c4b0
     try clear c5
     try clear c5b0
     try clear c6
     try clear p2
     obtain ⟨x6_2,x35_2,rfl,rfl,HA,HK2,HB⟩:=hrel;cases gk with
     | zero=>exact absurd HA.out (by simp [split_Shares.l0])
     | succ k2=>
      have H:=HA.out;clear HA;simp only [split_Shares.l0] at H
      by_cases c7 : x35_2 < (l1.length : Int)
      ·rw [if_pos c7] at H
       have c7b0 : decide (x35_2 < (l1.length : Int)) = true:=decide_eq_true c7;clear c7;by_cases c8 : 0≤x35_2
       ·rw [if_pos c8] at H
        have c8b0 : decide (0≤x35_2) = true:=decide_eq_true c8;clear c8;by_cases c9 : x35_2 < (l1.length : Int)
        ·rw [if_pos c9] at H
         have c9b0 : decide (x35_2 < (l1.length : Int)) = true:=decide_eq_true c9;clear c9;by_cases c10 : (rd l1 x35_2) < 0
         ·rw [if_pos c10] at H
          have c10b0 : decide ((rd l1 x35_2) < 0) = true:=decide_eq_true c10;clear c10;simp only [Option.some.injEq,Prod.mk.injEq] at H
          obtain ⟨rfl,rfl⟩:=H;have p405 : 0≤(x35_2 : Int):=of_decide_eq_true (by first|(with_reducible assumption)|assumption);have q405 : x35_2 < (l1.length : Int):=of_decide_eq_true (by first|(with_reducible assumption)|assumption);obtain ⟨ad405,e405,hx405_0⟩:=Kd.at_int HR1.out x35_2 p405 q405;cases e405
          replace hx405_0:=(HB.out.cell (World.block_lt_of_cell? w _ hx405_0)).trans hx405_0;replace p405:=eq_true p405;replace q405:=eq_true q405;go_wp2
          go_ret2
          exact ⟨_,by first|rfl|(simp [errW_none,errW_some] <;> rfl)|(simp [*,errW_none,errW_some] <;> rfl),by first|exact Kd.R_nil _ _ _ _ _|exact Kd.N_nil _ _ _ _ _|exact Kd.V_nil _ _ _ _ _|exact Kd.Q_nil _ _ _ _ _|exact Kd.S_nil _ _ _ _ _,by repeat (first|(with_reducible first|exact HB.out|apply kc1|apply kc2|apply kc3)|exact HB.out)⟩
         ·rw [if_neg c10] at H
          have c10b0 : decide ((rd l1 x35_2) < 0) = false:=decide_eq_false c10;clear c10;by_cases c11 : (rd l1 x35_2) > 10000000000000
          ·rw [if_pos c11] at H
           have c11b0 : decide (10000000000000 < (rd l1 x35_2)) = true:=decide_eq_true c11;clear c11;simp only [Option.some.injEq,Prod.mk.injEq] at H
           obtain ⟨rfl,rfl⟩:=H;have p405 : 0≤(x35_2 : Int):=of_decide_eq_true (by first|(with_reducible assumption)|assumption);have q405 : x35_2 < (l1.length : Int):=of_decide_eq_true (by first|(with_reducible assumption)|assumption);obtain ⟨ad405,e405,hx405_0⟩:=Kd.at_int HR1.out x35_2 p405 q405;cases e405
           replace hx405_0:=(HB.out.cell (World.block_lt_of_cell? w _ hx405_0)).trans hx405_0;replace p405:=eq_true p405;replace q405:=eq_true q405;go_wp2
           go_ret2
           exact ⟨_,by first|rfl|(simp [errW_none,errW_some] <;> rfl)|(simp [*,errW_none,errW_some] <;> rfl),by first|exact Kd.R_nil _ _ _ _ _|exact Kd.N_nil _ _ _ _ _|exact Kd.V_nil _ _ _ _ _|exact Kd.Q_nil _ _ _ _ _|exact Kd.S_nil _ _ _ _ _,by repeat (first|(with_reducible first|exact HB.out|apply kc1|apply kc2|apply kc3)|exact HB.out)⟩
          ·rw [if_neg c11] at H
           have c11b0 : decide (10000000000000 < (rd l1 x35_2)) = false:=decide_eq_false c11;clear c11;have H':=ka H;clear H;have p405 : 0≤(x35_2 : Int):=of_decide_eq_true (by first|(with_reducible assumption)|assumption);have q405 : x35_2 < (l1.length : Int):=of_decide_eq_true (by first|(with_reducible assumption)|assumption);obtain ⟨ad405,e405,hx405_0⟩:=Kd.at_int HR1.out x35_2 p405 q405;cases e405
           replace hx405_0:=(HB.out.cell (World.block_lt_of_cell? w _ hx405_0)).trans hx405_0;replace p405:=eq_true p405;replace q405:=eq_true q405;go_wp2
           go_roundg k2
           case measure=>have:=M.out;have:=HK2.out;omega
           case rel=>exact ⟨(IntKind.u64.wrap (x6_2 + (IntKind.u64.wrap (rd l1 x35_2)))),(wrap64 (x35_2 + 1)),(by first|rfl|(simp;done)|(simp [*];done)),(by first|rfl|(simp;done)|(simp [*];done)),H',⟨by have:=M.out;have:=HK2.out;omega⟩,⟨by repeat (first|(with_reducible first|exact HB.out|apply kc1|apply kc2|apply kc3)|exact HB.out)⟩⟩
        ·rw [if_neg c9] at H
         exact absurd H (by simp)
       ·rw [if_neg c8] at H
        exact absurd H (by simp)
      ·rw [if_neg c7] at H
       have c7b0 : decide (x35_2 < (l1.length : Int)) = false:=decide_eq_false c7;clear c7;by_cases c12 : x6_2 = 0
       ·rw [if_pos c12] at H
        have c12b0 : (x6_2 == 0) = true:=beq_iff_eq.mpr c12;have c12b1 : (x6_2 != 0) = false:=bne_eq_false_iff_eq.mpr c12;clear c12;simp only [Option.some.injEq,Prod.mk.injEq] at H
        obtain ⟨rfl,rfl⟩:=H;go_wp2
        go_ret2
        exact ⟨_,by first|rfl|(simp [errW_none,errW_some] <;> rfl)|(simp [*,errW_none,errW_some] <;> rfl),by first|exact Kd.R_nil _ _ _ _ _|exact Kd.N_nil _ _ _ _ _|exact Kd.V_nil _ _ _ _ _|exact Kd.Q_nil _ _ _ _ _|exact Kd.S_nil _ _ _ _ _,by repeat (first|(with_reducible first|exact HB.out|apply kc1|apply kc2|apply kc3)|exact HB.out)⟩
       ·rw [if_neg c12] at H
        have c12b0 : (x6_2 == 0) = false:=beq_eq_false_iff_ne.mpr c12;have c12b1 : (x6_2 != 0) = true:=bne_iff_ne.mpr c12;by_cases c13 : 0≤(l1.length : Int)
        ·rw [if_pos c13] at H
         have c13b0:=eq_true c13;have c13b1 : decide (0≤(l1.length : Int)) = true:=decide_eq_true c13;clear c13;by_cases c14 : ((l1.length : Int) : Int).toNat≤35184372088832
         ·rw [if_pos c14] at H
          have c14b0:=eq_true c14;have c14b1 : decide (((l1.length : Int) : Int).toNat≤35184372088832) = true:=decide_eq_true c14;clear c14;obtain ⟨y406,hy406⟩ : ∃ y_ : List Int,y_ = (List.replicate ((l1.length : Int) : Int).toNat 0):=⟨_,rfl⟩
          replace H : (split_Shares.l1 k2 a0 x6_2 y406 a0 ([] : List Int) l1 (l1.length : Int) 0 (List.replicate ((l1.length : Int) : Int).toNat 0)) = some (r1,r2):=by first|(rw [hy406];with_reducible exact H)|(have H2_:=(Option.bind_some _ _).symm.trans H;rw [hy406];with_reducible exact H2_)|(have H2_:=(Option.bind_some _ _).symm.trans H;with_reducible exact H2_)|with_reducible exact H|(rw [hy406];exact H)|exact H
          have Ny406:=ka hy406;clear hy406;obtain ⟨y409,hy409⟩ : ∃ y_ : List Int,y_ = (List.replicate ((l1.length : Int) : Int).toNat 0):=⟨_,rfl⟩
          replace H : (split_Shares.l1 k2 a0 x6_2 y406 a0 ([] : List Int) l1 (l1.length : Int) 0 y409) = some (r1,r2):=by first|(rw [hy409];with_reducible exact H)|(have H2_:=(Option.bind_some _ _).symm.trans H;rw [hy409];with_reducible exact H2_)|(have H2_:=(Option.bind_some _ _).symm.trans H;with_reducible exact H2_)|with_reducible exact H|(rw [hy409];exact H)|exact H
          have Ny409:=ka hy409;clear hy409;have H':=ka H;clear H;try go_wp2
          replace HB:=ka (below_drew1 HB.out);refine start_ (n:=9) (S:=fun w'=>True) (ds:=[]) #[false,false,false,false,false,false,false,false,false] (by kernel_rfl) rfl rfl trivial (fun hHeld=>?_);refine with_tabW split_Shares.tab13 split_Shares.bits13 (fun HT_ HW_=>?_);generalize wr.drew = e5 at HB hHeld ⊢;refine pure_ (i:=0) (N:=some 54) (v:=?_) (a':=?_) #[true,false,false,false,false,false,false,false,false] rfl rfl (any_of HT_.out (by kernel_rfl)) (fun _ _ _ h=>h) (Or.inl ⟨by rfl,?_⟩) ?_ ?_;rotate_left
          ·intro w';go_simp
           with_reducible rfl
          rotate_left
          ·simp only [Act.put,List.setIfInBounds_toArray,List.set_cons_zero,List.set_cons_succ,i64_w,i32_w]
           rfl
          refine pure_ (i:=1) (N:=some 55) (v:=?_) (a':=?_) #[true,true,false,false,false,false,false,false,false] rfl rfl (any_of HT_.out (by kernel_rfl)) (fun _ _ _ h=>h) (Or.inl ⟨by rfl,?_⟩) ?_ ?_;rotate_left
          ·intro w';go_simp
           with_reducible rfl
          rotate_left
          ·simp only [Act.put,List.setIfInBounds_toArray,List.set_cons_zero,List.set_cons_succ,i64_w,i32_w]
           rfl
          refine pure_ (i:=3) (N:=some 57) (v:=?_) (a':=?_) #[true,true,false,true,false,false,false,false,false] rfl rfl (any_of HT_.out (by kernel_rfl)) (fun _ _ _ h=>h) (Or.inl ⟨by rfl,?_⟩) ?_ ?_;rotate_left
          ·intro w';go_simp
           with_reducible rfl
          rotate_left
          ·simp only [Act.put,List.setIfInBounds_toArray,List.set_cons_zero,List.set_cons_succ,i64_w,i32_w]
           rfl
          refine pure_ (i:=4) (N:=some 58) (v:=?_) (a':=?_) #[true,true,false,true,true,false,false,false,false] rfl rfl (any_of HT_.out (by kernel_rfl)) (fun _ _ _ h=>h) (Or.inl ⟨by rfl,?_⟩) ?_ ?_;rotate_left
          ·intro w';go_simp
           with_reducible rfl
          rotate_left
          ·simp only [Act.put,List.setIfInBounds_toArray,List.set_cons_zero,List.set_cons_succ,i64_w,i32_w]
           rfl
          refine join_ (σ:=Value × Value × Nat) 1 #[true,true,true,true,true,true,true,true,false] (fun s_=>[(56,s_.1),(59,s_.2.1),(10,.pointer (some ⟨s_.2.2,0,none⟩)),(9,s_.1)]) (fun s_ w'=>(Kd.R (Kd.int .i64) 2 w' w.heap.size (fun _=>True) s_.1 y406)∧(Kd.R (Kd.int .u64) 42 w' w.heap.size (fun _=>True) s_.2.1 y409)∧(w'.heap[s_.2.2]? = some (.cells #[.slice none 0 0] 32 (0,0)))∧(w.heap.size≤s_.2.2)∧(w.heap.size≤s_.2.2)∧(Below w.heap.size w w')) ?_ ?_;rotate_left
          ·intro hJ2_5_6;refine join_ (σ:=Value × Value) 3 #[true,true,true,true,true,true,false,false,false] (fun s_=>[(56,s_.1),(59,s_.2)]) (fun s_ w'=>(Kd.R (Kd.int .i64) 2 w' w.heap.size (fun _=>True) s_.1 y406)∧(Kd.R (Kd.int .u64) 42 w' w.heap.size (fun _=>True) s_.2 y409)∧(Below w.heap.size w w')) ?_ ?_;rotate_left
           ·intro hJ2_5;refine join_ (σ:=Value × Nat) 2 #[true,true,true,true,true,false,true,true,false] (fun s_=>[(56,s_.1),(10,.pointer (some ⟨s_.2,0,none⟩)),(9,s_.1)]) (fun s_ w'=>(Kd.R (Kd.int .i64) 2 w' w.heap.size (fun _=>True) s_.1 y406)∧(w'.heap[s_.2]? = some (.cells #[.slice none 0 0] 32 (0,0)))∧(w.heap.size≤s_.2)∧(w.heap.size≤s_.2)∧(Below w.heap.size w w')) ?_ ?_;rotate_left
            ·intro hJ2_6;refine join_ (σ:=Value × Nat) 3 #[true,true,false,true,true,true,true,false,false] (fun s_=>[(59,s_.1),(10,.pointer (some ⟨s_.2,0,none⟩))]) (fun s_ w'=>(Kd.R (Kd.int .u64) 42 w' w.heap.size (fun _=>True) s_.1 y409)∧(w'.heap[s_.2]? = some (.cells #[.slice none 0 0] 32 (0,0)))∧(w.heap.size≤s_.2)∧(w.heap.size≤s_.2)∧(Below w.heap.size w w')) ?_ ?_;rotate_left
             ·intro hJ5_6;refine join_ (σ:=Value) 4 #[true,true,true,true,true,false,false,false,false] (fun s_=>[(56,s_)]) (fun s_ w'=>(Kd.R (Kd.int .i64) 2 w' w.heap.size (fun _=>True) s_ y406)∧(Below w.heap.size w w')) ?_ ?_;rotate_left
              ·intro hJ2;refine join_ (σ:=Value) 4 #[true,true,false,true,true,true,false,false,false] (fun s_=>[(59,s_)]) (fun s_ w'=>(Kd.R (Kd.int .u64) 42 w' w.heap.size (fun _=>True) s_ y409)∧(Below w.heap.size w w')) ?_ ?_;rotate_left
               ·intro hJ5;refine join_ (σ:=Nat) 4 #[true,true,false,true,true,false,true,false,false] (fun s_=>[(10,.pointer (some ⟨s_,0,none⟩))]) (fun s_ w'=>(w'.heap[s_]? = some (.cells #[.slice none 0 0] 32 (0,0)))∧(w.heap.size≤s_)∧(w.heap.size≤s_)∧(Below w.heap.size w w')) ?_ ?_;rotate_left
                ·intro hJ6;refine three_ (i:=2) (j:=5) (k:=6) (Ni:=some 56) (Nj:=some 59) (Nk:=some 10) #[true,true,true,true,true,false,false,false,false] #[true,true,false,true,true,true,false,false,false] #[true,true,false,true,true,false,true,false,false] rfl rfl rfl rfl rfl rfl (three_of HT_.out (by kernel_rfl)) (by decide) (by decide) (by decide) (fun K hK=>?_) (fun K hK=>?_) (fun K hK=>?_)
                 ·skip
                  refine Kd.R_make_step (Kd.int .i64) _ 2 (by rfl) (N:=56) rfl 22 _ _ rfl (l1.length : Int) rfl rfl Try.underlying22 (.int .i64 0) 8 info2 rfl (by decide) (by omega) 0 (ok:=fun _=>True) (okp:=fun _=>True) rfl (fun _ hk=>hk) trivial (of_decide_eq_true (by first|(with_reducible assumption)|assumption)) (Nat.le_trans (Nat.mul_le_mul_right _ (of_decide_eq_true (by first|(with_reducible assumption)|assumption) : (l1.length : Int).toNat≤35184372088832)) (by omega)) (Below.refl _ _) (Nat.le_refl _) ?_;intro B b5 ho17 hb hg_ hnew_;clear hg_ hnew_;(first|rw [← Ny406.out] at ho17|(simp only [Int.reduceToNat] at ho17;rw [← Ny406.out] at ho17));have u:=ka (Kd.R_lower ho17 (below_size (kw HB.out)));replace HB:=ka (below_step (kw HB.out) hb);clear hb ho17;refine hK.out _ _ trivial (fun hHeld=>?_);clear hK K;refine norm_ (a':=?_) ?_ ?_;rotate_left
                  ·show Act.put _ (some 56) _ = _
                   simp only [Act.put,List.setIfInBounds_toArray,List.set_cons_zero,List.set_cons_succ,i64_w,i32_w]
                   rfl
                  exact norm_ (by first|(simp only [putAll,Act.put,List.setIfInBounds_toArray,List.set_cons_zero,List.set_cons_succ];done)|(simp only [putAll,Act.put,List.setIfInBounds_toArray,List.set_cons_zero,List.set_cons_succ];rfl)) (hJ2 (_) _ ⟨(kr u.out),(kw HB.out)⟩)
                 ·skip
                  refine Kd.R_make_step (Kd.int .u64) _ 42 (by rfl) (N:=59) rfl 32 _ _ rfl (l1.length : Int) rfl rfl Try.underlying32 (.int .u64 0) 8 info42 rfl (by decide) (by omega) 0 (ok:=fun _=>True) (okp:=fun _=>True) rfl (fun _ hk=>hk) trivial (of_decide_eq_true (by first|(with_reducible assumption)|assumption)) (Nat.le_trans (Nat.mul_le_mul_right _ (of_decide_eq_true (by first|(with_reducible assumption)|assumption) : (l1.length : Int).toNat≤35184372088832)) (by omega)) (Below.refl _ _) (Nat.le_refl _) ?_;intro E b5 ho17 hb hg_ hnew_;clear hg_ hnew_;(first|rw [← Ny409.out] at ho17|(simp only [Int.reduceToNat] at ho17;rw [← Ny409.out] at ho17));have s:=ka (Kd.R_lower ho17 (below_size (kw HB.out)));replace HB:=ka (below_step (kw HB.out) hb);clear hb ho17;refine hK.out _ _ trivial (fun hHeld=>?_);clear hK K;refine norm_ (a':=?_) ?_ ?_;rotate_left
                  ·show Act.put _ (some 59) _ = _
                   simp only [Act.put,List.setIfInBounds_toArray,List.set_cons_zero,List.set_cons_succ,i64_w,i32_w]
                   rfl
                  exact norm_ (by first|(simp only [putAll,Act.put,List.setIfInBounds_toArray,List.set_cons_zero,List.set_cons_succ];done)|(simp only [putAll,Act.put,List.setIfInBounds_toArray,List.set_cons_zero,List.set_cons_succ];rfl)) (hJ5 (_) _ ⟨(kr s.out),(kw HB.out)⟩)
                 ·skip
                  refine box_step ?hg (N:=10) ?hd (cs:=#[.slice none 0 0]) (t:=32) ?hr ?_;(case hd=>rfl);(case hg=>rfl);(case hr=>first|(go_simp;done)|(go_simp;rfl));intro d hg b5 hbox hb;have c:=ka (hbox);have z:=ka ((by rw [hg];exact (below_size (kw HB.out)) : w.heap.size≤d));have y:=ka ((by rw [hg];exact (below_size (kw HB.out)) : w.heap.size≤d));replace HB:=ka (below_step (kw HB.out) hb);clear hb hbox hg;refine hK.out _ _ trivial (fun hHeld=>?_);clear hK K;refine norm_ (a':=?_) ?_ ?_;rotate_left
                  ·show Act.put _ (some 10) _ = _
                   simp only [Act.put,List.setIfInBounds_toArray,List.set_cons_zero,List.set_cons_succ,i64_w,i32_w]
                   rfl
                  exact norm_ (by first|(simp only [putAll,Act.put,List.setIfInBounds_toArray,List.set_cons_zero,List.set_cons_succ];done)|(simp only [putAll,Act.put,List.setIfInBounds_toArray,List.set_cons_zero,List.set_cons_succ];rfl)) (hJ6 (d) _ ⟨(kz c.out),z.out,y.out,(kw HB.out)⟩)
                ·skip
                 rintro d b6 ⟨h0_,h1_,h2_,h3_⟩;have c : Aside0 (b6.heap[d]? = some (.cells #[.slice none 0 0] 32 (0,0))):=⟨h0_⟩
                 have z : Aside0 (w.heap.size≤d):=⟨h1_⟩
                 have y : Aside0 (w.heap.size≤d):=⟨h2_⟩
                 replace HB : Aside0 (Below w.heap.size w b6):=⟨h3_⟩
                 clear h0_ h1_ h2_ h3_;have hHeld:=trivial;refine norm_ (a':=?_) ?_ ?_;rotate_left
                 ·simp only [putAll,Act.put,List.setIfInBounds_toArray,List.set_cons_zero,List.set_cons_succ]
                  rfl
                 refine two_ (i:=2) (j:=5) (Ni:=some 56) (Nj:=some 59) #[true,true,true,true,true,false,true,false,false] #[true,true,false,true,true,true,true,false,false] rfl rfl rfl rfl (two_of HT_.out (by kernel_rfl)) (by decide) (by decide) (fun K hK=>?_) (fun K hK=>?_)
                 ·skip
                  refine Kd.R_make_step (Kd.int .i64) _ 2 (by rfl) (N:=56) rfl 22 _ _ rfl (l1.length : Int) rfl rfl Try.underlying22 (.int .i64 0) 8 info2 rfl (by decide) (by omega) 0 (ok:=fun _=>True) (okp:=fun _=>True) rfl (fun _ hk=>hk) trivial (of_decide_eq_true (by first|(with_reducible assumption)|assumption)) (Nat.le_trans (Nat.mul_le_mul_right _ (of_decide_eq_true (by first|(with_reducible assumption)|assumption) : (l1.length : Int).toNat≤35184372088832)) (by omega)) (Below.refl _ _) (Nat.le_refl _) ?_;intro B L ho19 hb hg_ hnew_;clear hg_ hnew_;(first|rw [← Ny406.out] at ho19|(simp only [Int.reduceToNat] at ho19;rw [← Ny406.out] at ho19));have u:=ka (Kd.R_lower ho19 (below_size (kw HB.out)));replace c:=kbb c hb;replace HB:=ka (below_step (kw HB.out) hb);clear hb ho19;refine hK.out _ _ trivial (fun hHeld=>?_);clear hK K;refine norm_ (a':=?_) ?_ ?_;rotate_left
                  ·show Act.put _ (some 56) _ = _
                   simp only [Act.put,List.setIfInBounds_toArray,List.set_cons_zero,List.set_cons_succ,i64_w,i32_w]
                   rfl
                  refine pure_ (i:=7) (N:=some 9) (v:=?_) (a':=?_) #[true,true,true,true,true,false,true,true,false] rfl rfl (any_of HT_.out (by kernel_rfl)) (fun _ _ _ h=>h) (Or.inl ⟨by rfl,?_⟩) ?_ ?_;rotate_left
                  ·intro w';go_simp
                   with_reducible rfl
                  rotate_left
                  ·simp only [Act.put,List.setIfInBounds_toArray,List.set_cons_zero,List.set_cons_succ,i64_w,i32_w]
                   rfl
                  exact norm_ (by first|(simp only [putAll,Act.put,List.setIfInBounds_toArray,List.set_cons_zero,List.set_cons_succ];done)|(simp only [putAll,Act.put,List.setIfInBounds_toArray,List.set_cons_zero,List.set_cons_succ];rfl)) (hJ2_6 (_,d) _ ⟨(kr u.out),(kz c.out),z.out,y.out,(kw HB.out)⟩)
                 ·skip
                  refine Kd.R_make_step (Kd.int .u64) _ 42 (by rfl) (N:=59) rfl 32 _ _ rfl (l1.length : Int) rfl rfl Try.underlying32 (.int .u64 0) 8 info42 rfl (by decide) (by omega) 0 (ok:=fun _=>True) (okp:=fun _=>True) rfl (fun _ hk=>hk) trivial (of_decide_eq_true (by first|(with_reducible assumption)|assumption)) (Nat.le_trans (Nat.mul_le_mul_right _ (of_decide_eq_true (by first|(with_reducible assumption)|assumption) : (l1.length : Int).toNat≤35184372088832)) (by omega)) (Below.refl _ _) (Nat.le_refl _) ?_;intro E L ho19 hb hg_ hnew_;clear hg_ hnew_;(first|rw [← Ny409.out] at ho19|(simp only [Int.reduceToNat] at ho19;rw [← Ny409.out] at ho19));have s:=ka (Kd.R_lower ho19 (below_size (kw HB.out)));replace c:=kbb c hb;replace HB:=ka (below_step (kw HB.out) hb);clear hb ho19;refine hK.out _ _ trivial (fun hHeld=>?_);clear hK K;refine norm_ (a':=?_) ?_ ?_;rotate_left
                  ·show Act.put _ (some 59) _ = _
                   simp only [Act.put,List.setIfInBounds_toArray,List.set_cons_zero,List.set_cons_succ,i64_w,i32_w]
                   rfl
                  exact norm_ (by first|(simp only [putAll,Act.put,List.setIfInBounds_toArray,List.set_cons_zero,List.set_cons_succ];done)|(simp only [putAll,Act.put,List.setIfInBounds_toArray,List.set_cons_zero,List.set_cons_succ];rfl)) (hJ5_6 (_,d) _ ⟨(kr s.out),(kz c.out),z.out,y.out,(kw HB.out)⟩)
               ·skip
                rintro E L ⟨h0_,h1_⟩;have s : Aside0 (Kd.R (Kd.int .u64) 42 L w.heap.size (fun _=>True) E y409):=⟨h0_⟩
                replace HB : Aside0 (Below w.heap.size w L):=⟨h1_⟩
                clear h0_ h1_;have hHeld:=trivial;refine norm_ (a':=?_) ?_ ?_;rotate_left
                ·simp only [putAll,Act.put,List.setIfInBounds_toArray,List.set_cons_zero,List.set_cons_succ]
                 rfl
                refine two_ (i:=2) (j:=6) (Ni:=some 56) (Nj:=some 10) #[true,true,true,true,true,true,false,false,false] #[true,true,false,true,true,true,true,false,false] rfl rfl rfl rfl (two_of HT_.out (by kernel_rfl)) (by decide) (by decide) (fun K hK=>?_) (fun K hK=>?_)
                ·skip
                 refine Kd.R_make_step (Kd.int .i64) _ 2 (by rfl) (N:=56) rfl 22 _ _ rfl (l1.length : Int) rfl rfl Try.underlying22 (.int .i64 0) 8 info2 rfl (by decide) (by omega) 0 (ok:=fun _=>True) (okp:=fun _=>True) rfl (fun _ hk=>hk) trivial (of_decide_eq_true (by first|(with_reducible assumption)|assumption)) (Nat.le_trans (Nat.mul_le_mul_right _ (of_decide_eq_true (by first|(with_reducible assumption)|assumption) : (l1.length : Int).toNat≤35184372088832)) (by omega)) (Below.refl _ _) (Nat.le_refl _) ?_;intro B J ho20 hb hg_ hnew_;clear hg_ hnew_;(first|rw [← Ny406.out] at ho20|(simp only [Int.reduceToNat] at ho20;rw [← Ny406.out] at ho20));replace s:=ka (Kd.R_below (kr s.out) hb);have u:=ka (Kd.R_lower ho20 (below_size (kw HB.out)));replace HB:=ka (below_step (kw HB.out) hb);clear hb ho20;refine hK.out _ _ trivial (fun hHeld=>?_);clear hK K;refine norm_ (a':=?_) ?_ ?_;rotate_left
                 ·show Act.put _ (some 56) _ = _
                  simp only [Act.put,List.setIfInBounds_toArray,List.set_cons_zero,List.set_cons_succ,i64_w,i32_w]
                  rfl
                 exact norm_ (by first|(simp only [putAll,Act.put,List.setIfInBounds_toArray,List.set_cons_zero,List.set_cons_succ];done)|(simp only [putAll,Act.put,List.setIfInBounds_toArray,List.set_cons_zero,List.set_cons_succ];rfl)) (hJ2_5 (_,_) _ ⟨(kr u.out),(kr s.out),(kw HB.out)⟩)
                ·skip
                 refine box_step ?hg (N:=10) ?hd (cs:=#[.slice none 0 0]) (t:=32) ?hr ?_;(case hd=>rfl);(case hg=>rfl);(case hr=>first|(go_simp;done)|(go_simp;rfl));intro d hg J hbox hb;replace s:=ka (Kd.R_below (kr s.out) hb);have c:=ka (hbox);have z:=ka ((by rw [hg];exact (below_size (kw HB.out)) : w.heap.size≤d));have y:=ka ((by rw [hg];exact (below_size (kw HB.out)) : w.heap.size≤d));replace HB:=ka (below_step (kw HB.out) hb);clear hb hbox hg;refine hK.out _ _ trivial (fun hHeld=>?_);clear hK K;refine norm_ (a':=?_) ?_ ?_;rotate_left
                 ·show Act.put _ (some 10) _ = _
                  simp only [Act.put,List.setIfInBounds_toArray,List.set_cons_zero,List.set_cons_succ,i64_w,i32_w]
                  rfl
                 exact norm_ (by first|(simp only [putAll,Act.put,List.setIfInBounds_toArray,List.set_cons_zero,List.set_cons_succ];done)|(simp only [putAll,Act.put,List.setIfInBounds_toArray,List.set_cons_zero,List.set_cons_succ];rfl)) (hJ5_6 (_,d) _ ⟨(kr s.out),(kz c.out),z.out,y.out,(kw HB.out)⟩)
              ·skip
               rintro B L ⟨h0_,h1_⟩;have u : Aside0 (Kd.R (Kd.int .i64) 2 L w.heap.size (fun _=>True) B y406):=⟨h0_⟩
               replace HB : Aside0 (Below w.heap.size w L):=⟨h1_⟩
               clear h0_ h1_;have hHeld:=trivial;refine norm_ (a':=?_) ?_ ?_;rotate_left
               ·simp only [putAll,Act.put,List.setIfInBounds_toArray,List.set_cons_zero,List.set_cons_succ]
                rfl
               refine two_ (i:=5) (j:=6) (Ni:=some 59) (Nj:=some 10) #[true,true,true,true,true,true,false,false,false] #[true,true,true,true,true,false,true,false,false] rfl rfl rfl rfl (two_of HT_.out (by kernel_rfl)) (by decide) (by decide) (fun K hK=>?_) (fun K hK=>?_)
               ·skip
                refine Kd.R_make_step (Kd.int .u64) _ 42 (by rfl) (N:=59) rfl 32 _ _ rfl (l1.length : Int) rfl rfl Try.underlying32 (.int .u64 0) 8 info42 rfl (by decide) (by omega) 0 (ok:=fun _=>True) (okp:=fun _=>True) rfl (fun _ hk=>hk) trivial (of_decide_eq_true (by first|(with_reducible assumption)|assumption)) (Nat.le_trans (Nat.mul_le_mul_right _ (of_decide_eq_true (by first|(with_reducible assumption)|assumption) : (l1.length : Int).toNat≤35184372088832)) (by omega)) (Below.refl _ _) (Nat.le_refl _) ?_;intro E J ho20 hb hg_ hnew_;clear hg_ hnew_;(first|rw [← Ny409.out] at ho20|(simp only [Int.reduceToNat] at ho20;rw [← Ny409.out] at ho20));replace u:=ka (Kd.R_below (kr u.out) hb);have s:=ka (Kd.R_lower ho20 (below_size (kw HB.out)));replace HB:=ka (below_step (kw HB.out) hb);clear hb ho20;refine hK.out _ _ trivial (fun hHeld=>?_);clear hK K;refine norm_ (a':=?_) ?_ ?_;rotate_left
                ·show Act.put _ (some 59) _ = _
                 simp only [Act.put,List.setIfInBounds_toArray,List.set_cons_zero,List.set_cons_succ,i64_w,i32_w]
                 rfl
                exact norm_ (by first|(simp only [putAll,Act.put,List.setIfInBounds_toArray,List.set_cons_zero,List.set_cons_succ];done)|(simp only [putAll,Act.put,List.setIfInBounds_toArray,List.set_cons_zero,List.set_cons_succ];rfl)) (hJ2_5 (_,_) _ ⟨(kr u.out),(kr s.out),(kw HB.out)⟩)
               ·skip
                refine box_step ?hg (N:=10) ?hd (cs:=#[.slice none 0 0]) (t:=32) ?hr ?_;(case hd=>rfl);(case hg=>rfl);(case hr=>first|(go_simp;done)|(go_simp;rfl));intro d hg J hbox hb;replace u:=ka (Kd.R_below (kr u.out) hb);have c:=ka (hbox);have z:=ka ((by rw [hg];exact (below_size (kw HB.out)) : w.heap.size≤d));have y:=ka ((by rw [hg];exact (below_size (kw HB.out)) : w.heap.size≤d));replace HB:=ka (below_step (kw HB.out) hb);clear hb hbox hg;refine hK.out _ _ trivial (fun hHeld=>?_);clear hK K;refine norm_ (a':=?_) ?_ ?_;rotate_left
                ·show Act.put _ (some 10) _ = _
                 simp only [Act.put,List.setIfInBounds_toArray,List.set_cons_zero,List.set_cons_succ,i64_w,i32_w]
                 rfl
                refine pure_ (i:=7) (N:=some 9) (v:=?_) (a':=?_) #[true,true,true,true,true,false,true,true,false] rfl rfl (any_of HT_.out (by kernel_rfl)) (fun _ _ _ h=>h) (Or.inl ⟨by rfl,?_⟩) ?_ ?_;rotate_left
                ·intro w';go_simp
                 with_reducible rfl
                rotate_left
                ·simp only [Act.put,List.setIfInBounds_toArray,List.set_cons_zero,List.set_cons_succ,i64_w,i32_w]
                 rfl
                exact norm_ (by first|(simp only [putAll,Act.put,List.setIfInBounds_toArray,List.set_cons_zero,List.set_cons_succ];done)|(simp only [putAll,Act.put,List.setIfInBounds_toArray,List.set_cons_zero,List.set_cons_succ];rfl)) (hJ2_6 (_,d) _ ⟨(kr u.out),(kz c.out),z.out,y.out,(kw HB.out)⟩)
             ·skip
              rintro ⟨E,d⟩ J ⟨h0_,h1_,h2_,h3_,h4_⟩;have s : Aside0 (Kd.R (Kd.int .u64) 42 J w.heap.size (fun _=>True) E y409):=⟨h0_⟩
              have c : Aside0 (J.heap[d]? = some (.cells #[.slice none 0 0] 32 (0,0))):=⟨h1_⟩
              have z : Aside0 (w.heap.size≤d):=⟨h2_⟩
              have y : Aside0 (w.heap.size≤d):=⟨h3_⟩
              replace HB : Aside0 (Below w.heap.size w J):=⟨h4_⟩
              clear h0_ h1_ h2_ h3_ h4_;have hHeld:=trivial;refine norm_ (a':=?_) ?_ ?_;rotate_left
              ·simp only [putAll,Act.put,List.setIfInBounds_toArray,List.set_cons_zero,List.set_cons_succ]
               rfl
              refine one_ (i:=2) (N:=some 56) #[true,true,true,true,true,true,true,false,false] rfl rfl (one_of HT_.out (by kernel_rfl)) (by decide) (fun K hK=>?_);refine Kd.R_make_step (Kd.int .i64) _ 2 (by rfl) (N:=56) rfl 22 _ _ rfl (l1.length : Int) rfl rfl Try.underlying22 (.int .i64 0) 8 info2 rfl (by decide) (by omega) 0 (ok:=fun _=>True) (okp:=fun _=>True) rfl (fun _ hk=>hk) trivial (of_decide_eq_true (by first|(with_reducible assumption)|assumption)) (Nat.le_trans (Nat.mul_le_mul_right _ (of_decide_eq_true (by first|(with_reducible assumption)|assumption) : (l1.length : Int).toNat≤35184372088832)) (by omega)) (Below.refl _ _) (Nat.le_refl _) ?_;intro B U ho21 hb hg_ hnew_;clear hg_ hnew_;(first|rw [← Ny406.out] at ho21|(simp only [Int.reduceToNat] at ho21;rw [← Ny406.out] at ho21));replace s:=ka (Kd.R_below (kr s.out) hb);have u:=ka (Kd.R_lower ho21 (below_size (kw HB.out)));replace c:=kbb c hb;replace HB:=ka (below_step (kw HB.out) hb);clear hb ho21;refine hK.out _ _ trivial (fun hHeld=>?_);clear hK K;refine norm_ (a':=?_) ?_ ?_;rotate_left
              ·show Act.put _ (some 56) _ = _
               simp only [Act.put,List.setIfInBounds_toArray,List.set_cons_zero,List.set_cons_succ,i64_w,i32_w]
               rfl
              refine pure_ (i:=7) (N:=some 9) (v:=?_) (a':=?_) #[true,true,true,true,true,true,true,true,false] rfl rfl (any_of HT_.out (by kernel_rfl)) (fun _ _ _ h=>h) (Or.inl ⟨by rfl,?_⟩) ?_ ?_;rotate_left
              ·intro w';go_simp
               with_reducible rfl
              rotate_left
              ·simp only [Act.put,List.setIfInBounds_toArray,List.set_cons_zero,List.set_cons_succ,i64_w,i32_w]
               rfl
              exact norm_ (by first|(simp only [putAll,Act.put,List.setIfInBounds_toArray,List.set_cons_zero,List.set_cons_succ];done)|(simp only [putAll,Act.put,List.setIfInBounds_toArray,List.set_cons_zero,List.set_cons_succ];rfl)) (hJ2_5_6 (_,_,d) _ ⟨(kr u.out),(kr s.out),(kz c.out),z.out,y.out,(kw HB.out)⟩)
            ·skip
             rintro ⟨B,d⟩ J ⟨h0_,h1_,h2_,h3_,h4_⟩;have u : Aside0 (Kd.R (Kd.int .i64) 2 J w.heap.size (fun _=>True) B y406):=⟨h0_⟩
             have c : Aside0 (J.heap[d]? = some (.cells #[.slice none 0 0] 32 (0,0))):=⟨h1_⟩
             have z : Aside0 (w.heap.size≤d):=⟨h2_⟩
             have y : Aside0 (w.heap.size≤d):=⟨h3_⟩
             replace HB : Aside0 (Below w.heap.size w J):=⟨h4_⟩
             clear h0_ h1_ h2_ h3_ h4_;have hHeld:=trivial;refine norm_ (a':=?_) ?_ ?_;rotate_left
             ·simp only [putAll,Act.put,List.setIfInBounds_toArray,List.set_cons_zero,List.set_cons_succ]
              rfl
             refine one_ (i:=5) (N:=some 59) #[true,true,true,true,true,true,true,true,false] rfl rfl (one_of HT_.out (by kernel_rfl)) (by decide) (fun K hK=>?_);refine Kd.R_make_step (Kd.int .u64) _ 42 (by rfl) (N:=59) rfl 32 _ _ rfl (l1.length : Int) rfl rfl Try.underlying32 (.int .u64 0) 8 info42 rfl (by decide) (by omega) 0 (ok:=fun _=>True) (okp:=fun _=>True) rfl (fun _ hk=>hk) trivial (of_decide_eq_true (by first|(with_reducible assumption)|assumption)) (Nat.le_trans (Nat.mul_le_mul_right _ (of_decide_eq_true (by first|(with_reducible assumption)|assumption) : (l1.length : Int).toNat≤35184372088832)) (by omega)) (Below.refl _ _) (Nat.le_refl _) ?_;intro E U ho21 hb hg_ hnew_;clear hg_ hnew_;(first|rw [← Ny409.out] at ho21|(simp only [Int.reduceToNat] at ho21;rw [← Ny409.out] at ho21));replace u:=ka (Kd.R_below (kr u.out) hb);have s:=ka (Kd.R_lower ho21 (below_size (kw HB.out)));replace c:=kbb c hb;replace HB:=ka (below_step (kw HB.out) hb);clear hb ho21;refine hK.out _ _ trivial (fun hHeld=>?_);clear hK K;refine norm_ (a':=?_) ?_ ?_;rotate_left
             ·show Act.put _ (some 59) _ = _
              simp only [Act.put,List.setIfInBounds_toArray,List.set_cons_zero,List.set_cons_succ,i64_w,i32_w]
              rfl
             exact norm_ (by first|(simp only [putAll,Act.put,List.setIfInBounds_toArray,List.set_cons_zero,List.set_cons_succ];done)|(simp only [putAll,Act.put,List.setIfInBounds_toArray,List.set_cons_zero,List.set_cons_succ];rfl)) (hJ2_5_6 (_,_,d) _ ⟨(kr u.out),(kr s.out),(kz c.out),z.out,y.out,(kw HB.out)⟩)
           ·skip
            rintro ⟨B,E⟩ U ⟨h0_,h1_,h2_⟩;have u : Aside0 (Kd.R (Kd.int .i64) 2 U w.heap.size (fun _=>True) B y406):=⟨h0_⟩
            have s : Aside0 (Kd.R (Kd.int .u64) 42 U w.heap.size (fun _=>True) E y409):=⟨h1_⟩
            replace HB : Aside0 (Below w.heap.size w U):=⟨h2_⟩
            clear h0_ h1_ h2_;have hHeld:=trivial;refine norm_ (a':=?_) ?_ ?_;rotate_left
            ·simp only [putAll,Act.put,List.setIfInBounds_toArray,List.set_cons_zero,List.set_cons_succ]
             rfl
            refine one_ (i:=6) (N:=some 10) #[true,true,true,true,true,true,true,false,false] rfl rfl (one_of HT_.out (by kernel_rfl)) (by decide) (fun K hK=>?_);refine box_step ?hg (N:=10) ?hd (cs:=#[.slice none 0 0]) (t:=32) ?hr ?_;(case hd=>rfl);(case hg=>rfl);(case hr=>first|(go_simp;done)|(go_simp;rfl));intro d hg O hbox hb;replace u:=ka (Kd.R_below (kr u.out) hb);replace s:=ka (Kd.R_below (kr s.out) hb);have c:=ka (hbox);have z:=ka ((by rw [hg];exact (below_size (kw HB.out)) : w.heap.size≤d));have y:=ka ((by rw [hg];exact (below_size (kw HB.out)) : w.heap.size≤d));replace HB:=ka (below_step (kw HB.out) hb);clear hb hbox hg;refine hK.out _ _ trivial (fun hHeld=>?_);clear hK K;refine norm_ (a':=?_) ?_ ?_;rotate_left
            ·show Act.put _ (some 10) _ = _
             simp only [Act.put,List.setIfInBounds_toArray,List.set_cons_zero,List.set_cons_succ,i64_w,i32_w]
             rfl
            refine pure_ (i:=7) (N:=some 9) (v:=?_) (a':=?_) #[true,true,true,true,true,true,true,true,false] rfl rfl (any_of HT_.out (by kernel_rfl)) (fun _ _ _ h=>h) (Or.inl ⟨by rfl,?_⟩) ?_ ?_;rotate_left
            ·intro w';go_simp
             with_reducible rfl
            rotate_left
            ·simp only [Act.put,List.setIfInBounds_toArray,List.set_cons_zero,List.set_cons_succ,i64_w,i32_w]
             rfl
            exact norm_ (by first|(simp only [putAll,Act.put,List.setIfInBounds_toArray,List.set_cons_zero,List.set_cons_succ];done)|(simp only [putAll,Act.put,List.setIfInBounds_toArray,List.set_cons_zero,List.set_cons_succ];rfl)) (hJ2_5_6 (_,_,d) _ ⟨(kr u.out),(kr s.out),(kz c.out),z.out,y.out,(kw HB.out)⟩)
          rintro ⟨B,E,d⟩ O ⟨h0_,h1_,h2_,h3_,h4_,h5_⟩;have u : Aside0 (Kd.R (Kd.int .i64) 2 O w.heap.size (fun _=>True) B y406):=⟨h0_⟩
          have s : Aside0 (Kd.R (Kd.int .u64) 42 O w.heap.size (fun _=>True) E y409):=⟨h1_⟩
          have c : Aside0 (O.heap[d]? = some (.cells #[.slice none 0 0] 32 (0,0))):=⟨h2_⟩
          have z : Aside0 (w.heap.size≤d):=⟨h3_⟩
          have y : Aside0 (w.heap.size≤d):=⟨h4_⟩
          replace HB : Aside0 (Below w.heap.size w O):=⟨h5_⟩
          clear h0_ h1_ h2_ h3_ h4_ h5_;have hHeld:=trivial;obtain ⟨V,W,a2⟩:=Kd.R_slice s.out;(first|subst a2|(injection a2 with f1_ f2_ f3_;have f4_:=f1_.symm;have f5_:=f3_.symm;clear f1_ f2_ f3_;subst f4_;subst f5_));refine norm_ (a':=?_) ?_ ?_;rotate_left
          ·simp only [putAll,Act.put,List.setIfInBounds_toArray,List.set_cons_zero,List.set_cons_succ]
           rfl
          refine one_ (i:=8) (N:=none) #[true,true,true,true,true,true,true,true,true] rfl rfl (one_of HT_.out (by kernel_rfl)) (by decide) (fun K hK=>?_);have hs23 : O.cell? ⟨d,0,none⟩ = some (.slice none 0 0):=(blk_cell c.out 0).trans rfl;have hfs23:=blk_frozen c.out 0;refine skip_ (w1:=?_) (by rfl) rfl ?_ ?_;rotate_left
          ·go_simp
           rfl
          refine hK.out _ _ trivial (fun hHeld=>?_);clear hK K;refine done_ (done_of HT_.out (by kernel_rfl)) ?_;try go_wp2
          (try simp only [Act.put,List.setIfInBounds_toArray,List.set_cons_zero,List.set_cons_succ]);go_loopg [11,12,63] k2 (fun kq d2 d3 d4 w'=>∃ (x9_3 : List Int) (x11_3 : Int) (x12_3 : List Int) (x63_3 : Int) (l : List Int) (A : Value),d2 = .int .i64 x11_3∧d4 = .int .i64 x63_3∧Aside0 (split_Shares.l1 kq a0 x6_2 x9_3 x11_3 x12_3 l1 (l1.length : Int) x63_3 l = some (r1,r2))∧Aside0 (kq≤k2)∧Aside0 (Kd.R (Kd.int .i64) 2 w' w.heap.size (fun _=>True) B x9_3)∧Aside0 (Kd.R (Kd.int .i64) 3 w' w.heap.size (fun _=>True) d3 x12_3)∧Aside0 (Kd.R (Kd.int .u64) 42 w' w.heap.size (fun _=>True) A l)∧Aside0 (w'.heap[d]? = some (.cells #[A] 32 (0,0)))∧Aside0 (Below w.heap.size w w'))
          case atStart=>exact ⟨(y406),(a0),(([] : List Int)),(0),(y409),(.slice V y409.length W),(by first|rfl|(simp;done)|(simp [*];done)),(by first|rfl|(simp;done)|(simp [*];done)),H',⟨Nat.le_refl _⟩,⟨kr (Kd.R_mono (Kd.R_far (p:=⟨d,0,none⟩) (Kd.R_types u.out c.out (by decide)) (fun _ hk=>hk.2) (.slice V y409.length W)) (fun _ hk=>trivial))⟩,⟨by first|exact Kd.R_nil _ _ _ _ _|exact Kd.N_nil _ _ _ _ _|exact Kd.V_nil _ _ _ _ _|exact Kd.Q_nil _ _ _ _ _|exact Kd.S_nil _ _ _ _ _⟩,⟨kr (Kd.R_mono (Kd.R_far (p:=⟨d,0,none⟩) (Kd.R_types s.out c.out (by decide)) (fun _ hk=>hk.2) (.slice V y409.length W)) (fun _ hk=>trivial))⟩,⟨by (with_reducible repeat (first|apply kb1|apply kb2|apply kb3));refine blk_put (cs:=#[.slice none 0 0]) ?_ 0 _ rfl;(with_reducible repeat (first|apply kb1|apply kb2|apply kb3));exact c.out⟩,⟨by repeat (first|(with_reducible first|exact HB.out|apply kc1|apply kc2|apply kc3|refine kc4 ?_ y.out)|exact HB.out)⟩⟩
          case round=>
           clear H';try clear c1
           try clear p2
           try clear p4
           try clear q4
           try clear hx4
           try clear p6
           try clear c7
           try clear c7b0
           try clear c8
           try clear c9
           try clear c10
           try clear c10b0
           try clear c11
           try clear c11b0
           try clear c12
           try clear c12b0
           try clear c12b1
           try clear c13
           try clear c13b0
           try clear c13b1
           try clear c14
           try clear c14b0
           try clear c14b1
           try clear hx405_0
           try clear p405
           try clear q405
           obtain ⟨x9_3,x11_3,x12_3,x63_3,l,A,rfl,rfl,HA,HK3,x,r,q,c,HB⟩:=hrel;cases gk with
           | zero=>exact absurd HA.out (by simp [split_Shares.l1])
           | succ k3=>
            have H:=HA.out;clear HA;simp only [split_Shares.l1] at H
            by_cases c24 : x63_3 < (l1.length : Int)
            ·rw [if_pos c24] at H
             have c24b0 : decide (x63_3 < (l1.length : Int)) = true:=decide_eq_true c24;clear c24;by_cases c25 : 0≤x63_3
             ·rw [if_pos c25] at H
              have c25b0 : decide (0≤x63_3) = true:=decide_eq_true c25;clear c25;by_cases c26 : x63_3 < (l1.length : Int)
              ·rw [if_pos c26] at H
               have c26b0 : decide (x63_3 < (l1.length : Int)) = true:=decide_eq_true c26;clear c26;replace H:=Option.bind_eq_some_iff.mp H;obtain ⟨⟨Q,T⟩,a3,H⟩:=H;replace H : ((bits_Div64_s.f Q T x6_2).bind fun F=>(if x63_3 < (x9_3.length : Int) then (if x63_3 < (l.length : Int) then (if x12_3.length < 17592186044416 then (split_Shares.l1 k3 a0 x6_2 (x9_3.set (x63_3 : Int).toNat (wrap64 (F.1))) (wrap64 (x11_3 - (wrap64 (F.1)))) (x12_3 ++ [x63_3]) l1 (l1.length : Int) (wrap64 (x63_3 + 1)) (l.set (x63_3 : Int).toNat F.2)) else (none)) else (none)) else (none))) = some (r1,r2):=H;have d5:=ka a3;clear a3;replace H:=Option.bind_eq_some_iff.mp H;obtain ⟨⟨D,G⟩,a4,H⟩:=H;replace H : (if x63_3 < (x9_3.length : Int) then (if x63_3 < (l.length : Int) then (if x12_3.length < 17592186044416 then (split_Shares.l1 k3 a0 x6_2 (x9_3.set (x63_3 : Int).toNat (wrap64 (D))) (wrap64 (x11_3 - (wrap64 (D)))) (x12_3 ++ [x63_3]) l1 (l1.length : Int) (wrap64 (x63_3 + 1)) (l.set (x63_3 : Int).toNat G)) else (none)) else (none)) else (none)) = some (r1,r2):=H;have d6:=ka a4;clear a4;by_cases c29 : x63_3 < (x9_3.length : Int)
               ·rw [if_pos c29] at H
                have c29b0 : decide (x63_3 < (x9_3.length : Int)) = true:=decide_eq_true c29;clear c29;obtain ⟨y418,hy418⟩ : ∃ y_ : List Int,y_ = (x9_3.set (x63_3 : Int).toNat (wrap64 (D))):=⟨_,rfl⟩
                replace H : (if x63_3 < (l.length : Int) then (if x12_3.length < 17592186044416 then (split_Shares.l1 k3 a0 x6_2 y418 (wrap64 (x11_3 - (wrap64 (D)))) (x12_3 ++ [x63_3]) l1 (l1.length : Int) (wrap64 (x63_3 + 1)) (l.set (x63_3 : Int).toNat G)) else (none)) else (none)) = some (r1,r2):=by first|(rw [hy418];with_reducible exact H)|(have H2_:=(Option.bind_some _ _).symm.trans H;rw [hy418];with_reducible exact H2_)|(have H2_:=(Option.bind_some _ _).symm.trans H;with_reducible exact H2_)|with_reducible exact H|(rw [hy418];exact H)|exact H
                have Ny418:=ka hy418;clear hy418;by_cases c31 : x63_3 < (l.length : Int)
                ·rw [if_pos c31] at H
                 have c31b0 : decide (x63_3 < (l.length : Int)) = true:=decide_eq_true c31;clear c31;obtain ⟨y419,hy419⟩ : ∃ y_ : List Int,y_ = (l.set (x63_3 : Int).toNat G):=⟨_,rfl⟩
                 replace H : (if x12_3.length < 17592186044416 then (split_Shares.l1 k3 a0 x6_2 y418 (wrap64 (x11_3 - (wrap64 (D)))) (x12_3 ++ [x63_3]) l1 (l1.length : Int) (wrap64 (x63_3 + 1)) y419) else (none)) = some (r1,r2):=by first|(rw [hy419];with_reducible exact H)|(have H2_:=(Option.bind_some _ _).symm.trans H;rw [hy419];with_reducible exact H2_)|(have H2_:=(Option.bind_some _ _).symm.trans H;with_reducible exact H2_)|with_reducible exact H|(rw [hy419];exact H)|exact H
                 have Ny419:=ka hy419;clear hy419;by_cases c33 : x12_3.length < 17592186044416
                 ·rw [if_pos c33] at H
                  have LMc33:=ka c33;clear c33;obtain ⟨y420,hy420⟩ : ∃ y_ : List Int,y_ = (x12_3 ++ [x63_3]):=⟨_,rfl⟩
                  replace H : (split_Shares.l1 k3 a0 x6_2 y418 (wrap64 (x11_3 - (wrap64 (D)))) y420 l1 (l1.length : Int) (wrap64 (x63_3 + 1)) y419) = some (r1,r2):=by first|(rw [hy420];with_reducible exact H)|(have H2_:=(Option.bind_some _ _).symm.trans H;rw [hy420];with_reducible exact H2_)|(have H2_:=(Option.bind_some _ _).symm.trans H;with_reducible exact H2_)|with_reducible exact H|(rw [hy420];exact H)|exact H
                  have Ny420:=ka hy420;clear hy420;have H':=ka H;clear H;have p413 : 0≤(x63_3 : Int):=of_decide_eq_true (by first|(with_reducible assumption)|assumption);have q413 : x63_3 < (l1.length : Int):=of_decide_eq_true (by first|(with_reducible assumption)|assumption);obtain ⟨ad413,e413,hx413_0⟩:=Kd.at_int HR1.out x63_3 p413 q413;cases e413
                  replace hx413_0:=(HB.out.cell (World.block_lt_of_cell? w _ hx413_0)).trans hx413_0;replace p413:=eq_true p413;replace q413:=eq_true q413;try go_wp2_with (first|((with_reducible refine gate_callee (f:=20) rfl ?_);refine kg (some 73) rfl rfl Try.func20 (by kernel_rfl) rfl #[.int .u64 (IntKind.u64.wrap (a0)),.int .u64 (IntKind.u64.wrap (rd l1 x63_3))] rfl ?_;(with_reducible refine (bits_Mul64_s.calls (IntKind.u64.wrap (a0)) (IntKind.u64.wrap (rd l1 x63_3)) Q T _ d5.out).mono ?_);rintro e w' ⟨rfl,⟨nd,rfl⟩⟩;refine ⟨_,rfl,?_⟩;(try (rw [drewN_self wr];generalize hq_ : World.drewN wr _ = wr;replace r : Aside0 (Kd.R (Kd.int .i64) 3 wr w.heap.size (fun _=>True) u12 x12_3):=⟨by rw [← hq_];exact (kr r.out)⟩;replace q : Aside0 (Kd.R (Kd.int .u64) 42 wr w.heap.size (fun _=>True) A l):=⟨by rw [← hq_];exact (kr q.out)⟩;replace x : Aside0 (Kd.R (Kd.int .i64) 2 wr w.heap.size (fun _=>True) B x9_3):=⟨by rw [← hq_];exact (kr x.out)⟩;replace c : Aside0 (wr.heap[d]? = some (.cells #[A] 32 (0,0))):=⟨by rw [← hq_];exact (kz c.out)⟩;replace HB : Aside0 (Below w.heap.size w wr):=⟨by rw [← hq_];exact (kw HB.out)⟩;clear hq_)))|((with_reducible refine gate_callee (f:=21) rfl ?_);refine kg (some 80) rfl rfl Try.func21 (by kernel_rfl) rfl #[.int .u64 Q,.int .u64 T,.int .u64 x6_2] rfl ?_;(with_reducible refine (bits_Div64_s.calls Q T x6_2 D G _ d6.out).mono ?_);rintro e w' ⟨rfl,⟨nd,rfl⟩⟩;refine ⟨_,rfl,?_⟩;(try (rw [drewN_self wr];generalize hq_ : World.drewN wr _ = wr;replace r : Aside0 (Kd.R (Kd.int .i64) 3 wr w.heap.size (fun _=>True) u12 x12_3):=⟨by rw [← hq_];exact (kr r.out)⟩;replace q : Aside0 (Kd.R (Kd.int .u64) 42 wr w.heap.size (fun _=>True) A l):=⟨by rw [← hq_];exact (kr q.out)⟩;replace x : Aside0 (Kd.R (Kd.int .i64) 2 wr w.heap.size (fun _=>True) B x9_3):=⟨by rw [← hq_];exact (kr x.out)⟩;replace c : Aside0 (wr.heap[d]? = some (.cells #[A] 32 (0,0))):=⟨by rw [← hq_];exact (kz c.out)⟩;replace HB : Aside0 (Below w.heap.size w wr):=⟨by rw [← hq_];exact (kw HB.out)⟩;clear hq_))))
                  replace x:=ka (Kd.R_drew x.out);replace r:=ka (Kd.R_drew r.out);replace q:=ka (Kd.R_drew q.out);replace c:=ka (blk_drew c.out);replace HB:=ka (below_drew1 HB.out);have p30 : 0≤(x63_3 : Int):=of_decide_eq_true (by first|(with_reducible assumption)|assumption);have q30 : (x63_3 : Int) < ((x9_3.length : Int) : Int):=of_decide_eq_true (by first|(with_reducible assumption)|assumption);obtain ⟨go30,e0,a5,a6,gl30,cl30,HG30⟩:=Kd.R_form x.out (by omega);(first|cases a5|(injection a5 with ea_ en_ ec_;(first|subst ea_|(injection ea_ with ea_;subst ea_));subst ec_;clear en_));have GB30:=ka a6;have GG30:=ka HG30;clear a6 gl30 HG30;obtain ⟨hx30_0,hf30_0⟩:=Kd.R_celln 0 x.out (x63_3 : Int) p30 q30;replace p30:=eq_true p30;replace q30:=eq_true q30;have HP35:=Kd.R_putn x.out (x63_3 : Int) (wrap64 (D));rw [← Ny418.out] at HP35
                  have HQ35:=ka HP35;clear HP35;have p32 : 0≤(x63_3 : Int):=of_decide_eq_true (by first|(with_reducible assumption)|assumption);have q32 : (x63_3 : Int) < ((l.length : Int) : Int):=of_decide_eq_true (by first|(with_reducible assumption)|assumption);obtain ⟨go32,X,a7,a8,gl32,cl32,HG32⟩:=Kd.R_form q.out (by omega);(first|cases a7|(injection a7 with ea_ en_ ec_;(first|subst ea_|(injection ea_ with ea_;subst ea_));subst ec_;clear en_));have GB32:=ka a8;have GG32:=ka HG32;clear a8 gl32 HG32;obtain ⟨hx32_0,hf32_0⟩:=Kd.R_celln 0 (Kd.R_far (p:=⟨go30,(x63_3 : Int).toNat,none⟩) (Kd.R_types q.out GG30.out (by decide)) (fun _ hk=>hk.2) (.int .i64 (wrap64 (D)))) (x63_3 : Int) p32 q32;replace p32:=eq_true p32;replace q32:=eq_true q32;have HP36:=Kd.R_putn (Kd.R_far (p:=⟨go30,(x63_3 : Int).toNat,none⟩) (Kd.R_types q.out GG30.out (by decide)) (fun _ hk=>hk.2) (.int .i64 (wrap64 (D)))) (x63_3 : Int) G;rw [← Ny419.out] at HP36
                  have HQ36:=ka HP36;clear HP36;refine start_ (n:=11) (S:=fun w'=>w'.cell? ⟨d,0,none⟩ = some (.slice (some ⟨go32,0,none⟩) l.length X)) (ds:=[10]) #[false,false,false,false,false,false,false,false,false,false,false] (by kernel_rfl) rfl rfl ((blk_cell c.out 0).trans rfl) (fun hHeld=>?_);refine with_tabW split_Shares.tab21 split_Shares.bits21 (fun HT_ HW_=>?_);generalize wr.drew = e6 at x r q c HB GG30 GG32 HQ35 HQ36 hf30_0 hf32_0 hx30_0 hx32_0 hHeld ⊢;refine pure_ (i:=0) (N:=some 83) (v:=?_) (a':=?_) #[true,false,false,false,false,false,false,false,false,false,false] rfl rfl (any_of HT_.out (by kernel_rfl)) (fun _ _ _ h=>h) (Or.inl ⟨by rfl,?_⟩) ?_ ?_;rotate_left
                  ·intro w';go_simp
                   with_reducible rfl
                  rotate_left
                  ·simp only [Act.put,List.setIfInBounds_toArray,List.set_cons_zero,List.set_cons_succ,i64_w,i32_w]
                   rfl
                  refine pure_ (i:=1) (N:=some 84) (v:=?_) (a':=?_) #[true,true,false,false,false,false,false,false,false,false,false] rfl rfl (any_of HT_.out (by kernel_rfl)) (fun _ _ _ h=>h) (Or.inl ⟨by rfl,?_⟩) ?_ ?_;rotate_left
                  ·intro w';go_simp
                   with_reducible rfl
                  rotate_left
                  ·simp only [Act.put,List.setIfInBounds_toArray,List.set_cons_zero,List.set_cons_succ,i64_w,i32_w]
                   rfl
                  refine pure_ (i:=3) (N:=some 86) (v:=?_) (a':=?_) #[true,true,false,true,false,false,false,false,false,false,false] rfl rfl (any_of HT_.out (by kernel_rfl)) (fun _ _ _ h=>h) (Or.inl ⟨by rfl,?_⟩) ?_ ?_;rotate_left
                  ·intro w';go_simp
                   with_reducible rfl
                  rotate_left
                  ·simp only [Act.put,List.setIfInBounds_toArray,List.set_cons_zero,List.set_cons_succ,i64_w,i32_w]
                   rfl
                  refine pure_ (i:=4) (N:=some 87) (v:=?_) (a':=?_) #[true,true,false,true,true,false,false,false,false,false,false] rfl rfl (any_of HT_.out (by kernel_rfl)) (fun _ _ _ h=>h) (Or.inl ⟨by rfl,?_⟩) ?_ ?_;rotate_left
                  ·intro w';go_simp
                   with_reducible rfl
                  rotate_left
                  ·simp only [Act.put,List.setIfInBounds_toArray,List.set_cons_zero,List.set_cons_succ,i64_w,i32_w]
                   rfl
                  refine pure_ (i:=5) (N:=some 88) (v:=?_) (a':=?_) #[true,true,false,true,true,true,false,false,false,false,false] rfl rfl (any_of HT_.out (by kernel_rfl)) (fun _ _ _ h=>h) (Or.inl ⟨by rfl,?_⟩) ?_ ?_;rotate_left
                  ·intro w';go_simp
                   with_reducible rfl
                  rotate_left
                  ·simp only [Act.put,List.setIfInBounds_toArray,List.set_cons_zero,List.set_cons_succ,i64_w,i32_w]
                   rfl
                  refine pure_ (i:=6) (N:=some 89) (v:=?_) (a':=?_) #[true,true,false,true,true,true,true,false,false,false,false] rfl rfl (any_of HT_.out (by kernel_rfl)) (fun _ _ _ h=>h) (Or.inl ⟨by rfl,?_⟩) ?_ ?_;rotate_left
                  ·intro w';go_simp
                   with_reducible rfl
                  rotate_left
                  ·simp only [Act.put,List.setIfInBounds_toArray,List.set_cons_zero,List.set_cons_succ,i64_w,i32_w]
                   rfl
                  refine pure_ (i:=7) (N:=some 90) (v:=?_) (a':=?_) #[true,true,false,true,true,true,true,true,false,false,false] rfl rfl (any_of HT_.out (by kernel_rfl)) (fun _ _ _ h=>h) (Or.inl ⟨by rfl,?_⟩) ?_ ?_;rotate_left
                  ·intro w';go_simp
                   with_reducible rfl
                  rotate_left
                  ·simp only [Act.put,List.setIfInBounds_toArray,List.set_cons_zero,List.set_cons_succ,i64_w,i32_w]
                   rfl
                  refine take_ (i:=2) (N:=some 85) (v:=?_) (a':=?_) #[true,true,true,true,true,true,true,true,false,false,false] rfl rfl (take_ofW HT_.out HW_.out (by kernel_rfl)) (fun _ _ _ h=>h) (Or.inl ⟨by rfl,?_⟩) hHeld ?_ ?_;rotate_left
                  ·intro w' s0;go_simp
                   with_reducible rfl
                  rotate_left
                  ·simp only [Act.put,List.setIfInBounds_toArray,List.set_cons_zero,List.set_cons_succ,i64_w,i32_w]
                   rfl
                  refine one_ (i:=8) (N:=none) #[true,true,true,true,true,true,true,true,true,false,false] rfl rfl (one_of HT_.out (by kernel_rfl)) (by decide) (fun K hK=>?_);refine skip_ (w1:=?_) (by rfl) rfl ?_ ?_;rotate_left
                  ·go_simp
                   rfl
                  refine hK.out _ _ (((cell_far (p:=⟨go30,_,none⟩) (fun e_=>Kd.R_ne x.out c.out (by decide) (congrArg some e_)) _).trans (hHeld))) (fun hHeld=>?_);clear hK K;refine pure_ (i:=9) (N:=some 91) (v:=?_) (a':=?_) #[true,true,true,true,true,true,true,true,true,true,false] rfl rfl (any_of HT_.out (by kernel_rfl)) (fun _ _ _ h=>h) (Or.inl ⟨by rfl,?_⟩) ?_ ?_;rotate_left
                  ·intro w';go_simp
                   with_reducible rfl
                  rotate_left
                  ·simp only [Act.put,List.setIfInBounds_toArray,List.set_cons_zero,List.set_cons_succ,i64_w,i32_w]
                   rfl
                  refine last_ (i:=10) (N:=none) #[true,true,true,true,true,true,true,true,true,true,true] rfl rfl (one_of HT_.out (by kernel_rfl)) (by decide) (fun K hK=>?_);refine skip_ (w1:=?_) (by rfl) rfl ?_ ?_;rotate_left
                  ·go_simp
                   rfl
                  refine hK.out _ _ ?_;clear hK K;refine done_ (done_of HT_.out (by kernel_rfl)) ?_;try go_wp2_with (first|((with_reducible refine gate_builtin (b:=.append) (xs:=#[.tmp 96,.tmp 98]) rfl ?_);(try (refine gate_guard (by rfl) ?_;dsimp only));at_builtin;refine Kd.R_append (Kd.int .i64) (w0:=w) w.heap.size rfl (.tmp 96) (.tmp 98) 43 3 (.int .i64 0) 8 rfl Try.underlying43 info3 rfl (by decide) (by omega) u12 x12_3 x63_3 [.int .i64 x63_3] (fun _=>True) (fun _=>False) rfl (by first|(go_simp;done)|(go_simp;rfl)) ?aP (fun _ hk=>hk.elim) ?aF ?aO ?aB ?aS ?aL ?_;(case aP=>exact rfl);(case aB=>exact (by repeat (first|(with_reducible first|exact HB.out|apply kc1|apply kc2|apply kc3|refine kc4 ?_ GB30.out|refine kc4 ?_ GB32.out|refine kc4 ?_ y.out)|exact HB.out)));(case aF=>exact (fun _ _=>trivial));(case aO=>exact (kr (Kd.R_mono (Kd.R_far (p:=⟨go32,(x63_3 : Int).toNat,none⟩) (Kd.R_far (p:=⟨go30,(x63_3 : Int).toNat,none⟩) (Kd.R_types (Kd.R_types r.out GG30.out (by decide)) GG32.out (by decide)) (fun _ hk=>hk.1.2) (.int .i64 (wrap64 (D)))) (fun _ hk=>hk.2) (.int .u64 G)) (fun _ hk=>trivial))));(case aS=>exact (below_size (by repeat (first|(with_reducible first|exact HB.out|apply kc1|apply kc2|apply kc3|refine kc4 ?_ GB30.out|refine kc4 ?_ GB32.out|refine kc4 ?_ y.out)|exact HB.out))));(case aL=>have:=LMc33.out;omega);intro e1 e7 ho hb hg hat;rw [← Ny420.out] at ho;replace c:=ka (blk_grown (g:=d) (o:=.cells #[.slice (some ⟨go32,0,none⟩) l.length X] 32 (0,0)) (by (with_reducible repeat (first|apply kb1|apply kb2|apply kb3));refine kb4 ?_ (by have h_:=Kd.R_ne q.out c.out (by decide);intro e_;exact h_ (by rw [e_];rfl)) _;(with_reducible repeat (first|apply kb1|apply kb2|apply kb3));refine kb4 ?_ (by have h_:=Kd.R_ne x.out c.out (by decide);intro e_;exact h_ (by rw [e_];rfl)) _;(with_reducible repeat (first|apply kb1|apply kb2|apply kb3));exact c.out) hg (Kd.R_ne r.out c.out (by decide)));replace x:=ka (Kd.R_over' (kr ((Kd.R_mono (Kd.R_far (p:=⟨go32,(x63_3 : Int).toNat,none⟩) (Kd.R_types HQ35.out (blk_far GG32.out (knt GG32.out GG30.out (by decide)) _) (by decide)) (fun _ hk=>hk.2) (.int .u64 G)) (fun _ h_=>h_.1)))) (Kd.R_typed (kr ((Kd.R_mono (Kd.R_mono (Kd.R_far (p:=⟨go32,(x63_3 : Int).toNat,none⟩) (Kd.R_far (p:=⟨go30,(x63_3 : Int).toNat,none⟩) (Kd.R_types (Kd.R_types r.out GG30.out (by decide)) GG32.out (by decide)) (fun _ hk=>hk.1.2) (.int .i64 (wrap64 (D)))) (fun _ hk=>hk.2) (.int .u64 G)) (fun _ h_=>h_.1)) (fun _ h_=>h_.1))))) (by decide) hg);replace q:=ka (Kd.R_over' (kr ((Kd.R_mono HQ36.out (fun _ h_=>h_.1)))) (Kd.R_typed (kr ((Kd.R_mono (Kd.R_mono (Kd.R_far (p:=⟨go32,(x63_3 : Int).toNat,none⟩) (Kd.R_far (p:=⟨go30,(x63_3 : Int).toNat,none⟩) (Kd.R_types (Kd.R_types r.out GG30.out (by decide)) GG32.out (by decide)) (fun _ hk=>hk.1.2) (.int .i64 (wrap64 (D)))) (fun _ hk=>hk.2) (.int .u64 G)) (fun _ h_=>h_.1)) (fun _ h_=>h_.1))))) (by decide) hg);replace HB:=ka (hb);have b4:=ka (ho);clear r;clear ho hb hg hat))
                  go_roundg k3
                  case measure=>have:=M.out;have:=HK2.out;have:=HK3.out;omega
                  case rel=>exact ⟨(y418),(wrap64 (x11_3 - (wrap64 (D)))),(y420),(wrap64 (x63_3 + 1)),(y419),(.slice (some ⟨go32,0,none⟩) l.length X),(by first|rfl|(simp;done)|(simp [*];done)),(by first|rfl|(simp;done)|(simp [*];done)),H',⟨by have:=M.out;have:=HK2.out;have:=HK3.out;omega⟩,⟨kr x.out⟩,⟨kr b4.out⟩,⟨kr q.out⟩,⟨by (with_reducible repeat (first|apply kb1|apply kb2|apply kb3));exact c.out⟩,⟨by repeat (first|(with_reducible first|exact HB.out|apply kc1|apply kc2|apply kc3|refine kc4 ?_ y.out)|exact HB.out)⟩⟩
                 ·rw [if_neg c33] at H
                  exact absurd H (by simp)
                ·rw [if_neg c31] at H
                 exact absurd H (by simp)
               ·rw [if_neg c29] at H
                exact absurd H (by simp)
              ·rw [if_neg c26] at H
               exact absurd H (by simp)
             ·rw [if_neg c25] at H
              exact absurd H (by simp)
            ·rw [if_neg c24] at H
             have c24b0 : decide (x63_3 < (l1.length : Int)) = false:=decide_eq_false c24;clear c24;by_cases c38 : Srt.ok l x12_3 = true
             ·rw [if_pos c38] at H
              have LMc38:=ka c38;clear c38;obtain ⟨y423,hy423⟩ : ∃ y_ : List Int,y_ = (Srt.srt l x12_3):=⟨_,rfl⟩
              replace H : (if 0≤x11_3 then (if x11_3≤(x12_3.length : Int) then ((some (y423.take (x11_3 : Int).toNat : List Int)).bind fun y424=>(split_Shares.l2 k3 x9_3 y424 (y424.length : Int) 0)) else (none)) else (none)) = some (r1,r2):=by first|(rw [hy423];with_reducible exact H)|(have H2_:=(Option.bind_some _ _).symm.trans H;rw [hy423];with_reducible exact H2_)|(have H2_:=(Option.bind_some _ _).symm.trans H;with_reducible exact H2_)|with_reducible exact H|(rw [hy423];exact H)|exact H
              have Ny423:=ka hy423;clear hy423;by_cases c39 : 0≤x11_3
              ·rw [if_pos c39] at H
               have c39b0:=eq_true c39;have c39b1 : decide (0≤x11_3) = true:=decide_eq_true c39;clear c39;by_cases c40 : x11_3≤(x12_3.length : Int)
               ·rw [if_pos c40] at H
                have c40b0:=eq_true c40;have c40b1 : decide (x11_3≤(x12_3.length : Int)) = true:=decide_eq_true c40;clear c40;obtain ⟨y424,hy424⟩ : ∃ y_ : List Int,y_ = (y423.take (x11_3 : Int).toNat):=⟨_,rfl⟩
                replace H : (split_Shares.l2 k3 x9_3 y424 (y424.length : Int) 0) = some (r1,r2):=by first|(rw [hy424];with_reducible exact H)|(have H2_:=(Option.bind_some _ _).symm.trans H;rw [hy424];with_reducible exact H2_)|(have H2_:=(Option.bind_some _ _).symm.trans H;with_reducible exact H2_)|with_reducible exact H|(rw [hy424];exact H)|exact H
                have Ny424:=ka hy424;clear hy424;have H':=ka H;clear H;obtain ⟨go42,I,a9,b0,gl42,cl42,HG42⟩:=Kd.R_form r.out (by have h_:=(show Srt.Ok l x12_3 from of_decide_eq_true LMc38.out).2.1;omega);(first|cases a9|(injection a9 with ea_ en_ ec_;(first|subst ea_|(injection ea_ with ea_;subst ea_));subst ec_;clear en_));have GB42:=ka b0;have GG42:=ka HG42;clear b0 gl42 HG42;go_wp2_with (first|((with_reducible refine gate_callee (f:=22) rfl ?_);refine kg (some 103) rfl rfl Try.func22 (by kernel_rfl) rfl #[.slice (some ⟨go42,0,none⟩) x12_3.length I,.func (.func 23) #[] #[.pointer (some ⟨d,0,none⟩)]] rfl ?_;(with_reducible refine (Srt.calls _ _ _ x12_3 d ?sV l ?sBase ?sOk ?sOkr _ ?sideO ?sideB ?sideR ?sideK).mono ?_);(case sideO=>exact by (with_reducible repeat (first|apply Kd.R_alloc|apply Kd.R_drewN|apply Kd.R_drew));exact r.out);(case sideB=>exact by (with_reducible repeat (first|apply kb1|apply kb2|apply kb3));exact c.out);(case sideR=>exact by (with_reducible repeat (first|apply Kd.R_alloc|apply Kd.R_drewN|apply Kd.R_drew));exact q.out);(case sideK=>first|(with_reducible exact of_decide_eq_true (Aside0.out (by assumption)))|exact of_decide_eq_true (Aside0.out (by assumption)));rintro e d7 ⟨rfl,hp0_,hg⟩;refine ⟨_,rfl,?_⟩;have hp_ : Kd.R (Kd.int .i64) 3 d7 w.heap.size (fun _=>True) (.slice (some ⟨go42,0,none⟩) x12_3.length I) y423:=(by rw [Ny423.out];exact hp0_);clear hp0_;replace x:=ka (Kd.R_over' (v:=(.slice (some ⟨go42,0,none⟩) x12_3.length I)) (kr x.out) (Kd.R_typed (kr r.out)) (by decide) hg);replace q:=ka (Kd.R_over' (v:=(.slice (some ⟨go42,0,none⟩) x12_3.length I)) (kr q.out) (Kd.R_typed (kr r.out)) (by decide) hg);replace c:=ka (blk_grown (g:=d) (kz c.out) hg (Kd.R_ne r.out c.out (by decide)));replace r:=ka (hp_);replace HB:=ka ((Below.grown (kw HB.out) hg (below_size (kw HB.out)) (fun k_ e_=>by cases e_;exact GB42.out)));clear hg hp_;have hlx43:=(Kd.R_reads' r.out).1;have q43 : (x11_3 : Int)≤((x12_3.length : Int) : Int):=of_decide_eq_true (by first|(with_reducible assumption)|assumption);obtain ⟨i043,hi043,_,hsz43,_⟩:=info_parts info3;have hroom43 : x12_3.length≤I:=(Kd.R_reads' r.out).2.1;have hroomc43 : y423.length≤I:=(by rw [← hlx43];exact hroom43);have hC43 : Kd.C (Kd.int .i64) _ (some ⟨go42,0,none⟩) y423.length y423:=(Kd.R_reads' r.out).2.2;have hcut43:=cut_to (P:=Try.prog) 43 3 .i64 Try.underlying43 hi043 (some ⟨go42,0,none⟩) x12_3.length I x11_3 (of_decide_eq_true (by first|(with_reducible assumption)|assumption)) q43 hroom43;have hr43:=Kd.C_take (m:=(x11_3 : Int).toNat) hC43 (by omega);have hy43 : y424.length = (x11_3 : Int).toNat:=(by rw [Ny424.out,List.length_take];omega);rw [← Ny424.out] at hr43;rw [← hy43] at hcut43;have HR427:=ka hr43;have d8:=ka (show y424.length≤I from by omega);clear hr43 hC43 hroom43 hi043 hsz43 hroomc43;have KY43:=ka hy43;clear hy43;have KE43:=ka hlx43;have KL43:=ka (show (x11_3 : Int).toNat≤y423.length from by omega);clear hlx43;replace q43:=eq_true q43))
                (try simp only [Act.put,List.setIfInBounds_toArray,List.set_cons_zero,List.set_cons_succ]);go_loopg [108] k3 (fun kq b8 w'=>∃ (x9_4 : List Int) (x108_4 : Int),b8 = .int .i64 x108_4∧Aside0 (split_Shares.l2 kq x9_4 y424 (y424.length : Int) x108_4 = some (r1,r2))∧Aside0 (kq≤k3)∧Aside0 (Kd.R (Kd.int .i64) 2 w' w.heap.size (fun _=>True) B x9_4)∧Aside0 (Kd.R (Kd.int .i64) 3 w' w.heap.size (fun _=>True) (.slice (some ⟨go42,0,none⟩) x12_3.length I) y423)∧Aside0 (Kd.R (Kd.int .u64) 42 w' w.heap.size (fun _=>True) A l)∧Aside0 (w'.heap[d]? = some (.cells #[A] 32 (0,0)))∧Aside0 (Below w.heap.size w w'))
                case atStart=>exact ⟨(x9_3),(0),(by first|rfl|(simp;done)|(simp [*];done)),H',⟨Nat.le_refl _⟩,⟨kr x.out⟩,⟨kr r.out⟩,⟨kr q.out⟩,⟨by (with_reducible repeat (first|apply kb1|apply kb2|apply kb3));exact c.out⟩,⟨by repeat (first|(with_reducible first|exact HB.out|apply kc1|apply kc2|apply kc3|refine kc4 ?_ y.out)|exact HB.out)⟩⟩
                case round=>
                 clear H';try clear c1
                 try clear c2
                 try clear p2
                 try clear c3
                 try clear p3
                 try clear q3
                 try clear hx3
                 try clear hf3
                 try clear c4
                 try clear p4
                 try clear q4
                 try clear hx4
                 try clear p6
                 try clear c7
                 try clear c7b0
                 try clear c8
                 try clear c9
                 try clear c10
                 try clear c10b0
                 try clear c11
                 try clear c11b0
                 try clear c12
                 try clear c12b0
                 try clear c12b1
                 try clear c13
                 try clear c13b0
                 try clear c13b1
                 try clear c14
                 try clear c14b0
                 try clear c14b1
                 try clear c20
                 try clear c21
                 try clear c22
                 try clear c24
                 try clear c24b0
                 try clear c25
                 try clear c25b0
                 try clear c26
                 try clear c26b0
                 try clear c29
                 try clear c29b0
                 try clear p30
                 try clear q30
                 try clear hx30
                 try clear hf30
                 try clear c31
                 try clear c31b0
                 try clear p32
                 try clear q32
                 try clear hx32
                 try clear hf32
                 try clear c33
                 try clear c38
                 try clear c39
                 try clear c39b0
                 try clear c39b1
                 try clear c40
                 try clear c40b0
                 try clear c40b1
                 try clear p40
                 try clear q40
                 try clear hx40
                 try clear p41
                 try clear q41
                 try clear hx41
                 try clear c43
                 try clear q43
                 try clear hx30_0
                 try clear hx32_0
                 try clear hx405_0
                 try clear hx413_0
                 try clear p2
                 try clear p30
                 try clear p32
                 try clear p4
                 try clear p405
                 try clear p413
                 try clear p6
                 try clear q30
                 try clear q32
                 try clear q4
                 try clear q405
                 try clear q413
                 try clear q43
                 obtain ⟨x9_4,x108_4,rfl,HA,HK4,x,r,q,c,HB⟩:=hrel;cases gk with
                 | zero=>exact absurd HA.out (by simp [split_Shares.l2])
                 | succ k4=>
                  have H:=HA.out;clear HA;simp only [split_Shares.l2] at H
                  by_cases c44 : x108_4 < (y424.length : Int)
                  ·rw [if_pos c44] at H
                   have c44b0 : decide (x108_4 < (y424.length : Int)) = true:=decide_eq_true c44;clear c44;by_cases c45 : 0≤x108_4
                   ·rw [if_pos c45] at H
                    have c45b0 : decide (0≤x108_4) = true:=decide_eq_true c45;clear c45;by_cases c46 : x108_4 < (y424.length : Int)
                    ·rw [if_pos c46] at H
                     have c46b0 : decide (x108_4 < (y424.length : Int)) = true:=decide_eq_true c46;clear c46;by_cases c47 : 0≤(rd y424 x108_4)
                     ·rw [if_pos c47] at H
                      have c47b0 : decide (0≤(rd y424 x108_4)) = true:=decide_eq_true c47;clear c47;by_cases c48 : (rd y424 x108_4) < (x9_4.length : Int)
                      ·rw [if_pos c48] at H
                       have c48b0 : decide ((rd y424 x108_4) < (x9_4.length : Int)) = true:=decide_eq_true c48;clear c48;obtain ⟨y430,hy430⟩ : ∃ y_ : List Int,y_ = (x9_4.set ((rd y424 x108_4) : Int).toNat (wrap64 ((rd x9_4 (rd y424 x108_4)) + 1))):=⟨_,rfl⟩
                       replace H : (split_Shares.l2 k4 y430 y424 (y424.length : Int) (wrap64 (x108_4 + 1))) = some (r1,r2):=by first|(rw [hy430];with_reducible exact H)|(have H2_:=(Option.bind_some _ _).symm.trans H;rw [hy430];with_reducible exact H2_)|(have H2_:=(Option.bind_some _ _).symm.trans H;with_reducible exact H2_)|with_reducible exact H|(rw [hy430];exact H)|exact H
                       have Ny430:=ka hy430;clear hy430;have H':=ka H;clear H;have p428 : 0≤(x108_4 : Int):=of_decide_eq_true (by first|(with_reducible assumption)|assumption);have q428 : x108_4 < (y424.length : Int):=of_decide_eq_true (by first|(with_reducible assumption)|assumption);obtain ⟨ad428,e428,hx428_0⟩:=Kd.at_int (show Kd.C (Kd.int .i64) wr (some ⟨go42,0,none⟩) _ _ from (by have h1_:=Kd.C_take (m:=(x11_3 : Int).toNat) (Kd.R_reads' r.out).2.2 (by have:=KL43.out;omega);rw [← Ny424.out] at h1_;exact h1_)) x108_4 p428 q428;obtain rfl : ⟨go42,0,none⟩ = ad428:=(by injection e428)
                       (first|simp only [add_plain] at hx428_0|skip);replace p428:=eq_true p428;replace q428:=eq_true q428;obtain ⟨e2,Y,b9⟩:=Kd.R_slice x.out;subst b9;have p429 : 0≤((rd y424 x108_4) : Int):=of_decide_eq_true (by first|(with_reducible assumption)|assumption);have q429 : (rd y424 x108_4) < (x9_4.length : Int):=of_decide_eq_true (by first|(with_reducible assumption)|assumption);obtain ⟨ad429,e429,hx429_0⟩:=Kd.at_int (Kd.R_reads' x.out).2.2 (rd y424 x108_4) p429 q429;cases e429
                       replace p429:=eq_true p429;replace q429:=eq_true q429;have p49 : 0≤((rd y424 x108_4) : Int):=of_decide_eq_true (by first|(with_reducible assumption)|assumption);have q49 : ((rd y424 x108_4) : Int) < ((x9_4.length : Int) : Int):=of_decide_eq_true (by first|(with_reducible assumption)|assumption);obtain ⟨go49,e3,b1,b2,gl49,cl49,HG49⟩:=Kd.R_form x.out (by omega);(first|cases b1|(injection b1 with ea_ en_ ec_;(first|subst ea_|(injection ea_ with ea_;subst ea_));subst ec_;clear en_));have GB49:=ka b2;have GG49:=ka HG49;clear b2 gl49 HG49;(first|simp only [add_plain] at hx429_0|skip);obtain ⟨hx49_0,hf49_0⟩:=Kd.R_celln 0 x.out ((rd y424 x108_4) : Int) p49 q49;replace p49:=eq_true p49;replace q49:=eq_true q49;have HP51:=Kd.R_putg x.out ((rd y424 x108_4) : Int) (wrap64 ((rd x9_4 (rd y424 x108_4)) + 1));go_wp2_with (first|((with_reducible refine gate_store (t:=2) (p:=117) rfl ?_);refine store_event (t:=2) (p:=117) (v:=?vo_w52) (w1:=(wr.setCell ⟨go49,((rd y424 x108_4) : Int).toNat,none⟩ (.int .i64 (wrap64 ((rd x9_4 (rd y424 x108_4)) + 1))))) ?hg ?ho ?hn ?hr ?_;(case ho=>rfl);(case hg=>rfl);(case hn=>rfl);(case hr=>first|(go_simp;done)|(go_simp;rfl));intro b3 hw;have hg : wr.grownBy b3 (some go49):=(by rw [hw];exact HP51.2);have hp_ : Kd.R (Kd.int .i64) 2 b3 w.heap.size (fun _=>True) (.slice (some ⟨go49,0,none⟩) x9_4.length Y) y430:=(by rw [hw,Ny430.out];exact HP51.1);clear HP51;replace r:=ka (Kd.R_over' (v:=(.slice (some ⟨go49,0,none⟩) x9_4.length Y)) (kr r.out) (Kd.R_typed x.out) (by decide) hg);replace q:=ka (Kd.R_over' (v:=(.slice (some ⟨go49,0,none⟩) x9_4.length Y)) (kr q.out) (Kd.R_typed x.out) (by decide) hg);replace c:=ka (blk_grown (g:=d) (kz c.out) hg (Kd.R_ne x.out c.out (by decide)));replace x:=ka (hp_);replace HB:=ka ((by rw [hw];exact below_set (HB.out) GB49.out : Below w.heap.size w b3));clear hg hw hp_))
                       go_roundg k4
                       case measure=>have:=M.out;have:=HK2.out;have:=HK3.out;have:=HK4.out;omega
                       case rel=>exact ⟨(y430),(wrap64 (x108_4 + 1)),(by first|rfl|(simp;done)|(simp [*];done)),H',⟨by have:=M.out;have:=HK2.out;have:=HK3.out;have:=HK4.out;omega⟩,⟨kr x.out⟩,⟨kr r.out⟩,⟨kr q.out⟩,⟨by (with_reducible repeat (first|apply kb1|apply kb2|apply kb3));exact c.out⟩,⟨by repeat (first|(with_reducible first|exact HB.out|apply kc1|apply kc2|apply kc3|refine kc4 ?_ y.out)|exact HB.out)⟩⟩
                      ·rw [if_neg c48] at H
                       exact absurd H (by simp)
                     ·rw [if_neg c47] at H
                      exact absurd H (by simp)
                    ·rw [if_neg c46] at H
                     exact absurd H (by simp)
                   ·rw [if_neg c45] at H
                    exact absurd H (by simp)
                  ·rw [if_neg c44] at H
                   have c44b0 : decide (x108_4 < (y424.length : Int)) = false:=decide_eq_false c44;clear c44;simp only [Option.some.injEq,Prod.mk.injEq] at H
                   obtain ⟨rfl,rfl⟩:=H;go_wp2
                   go_ret2
                   exact ⟨_,by first|rfl|(simp [errW_none,errW_some] <;> rfl)|(simp [*,errW_none,errW_some] <;> rfl),by (with_reducible repeat (first|apply Kd.R_alloc|apply Kd.R_drewN|apply Kd.R_drew));exact x.out,by repeat (first|(with_reducible first|exact HB.out|apply kc1|apply kc2|apply kc3|refine kc4 ?_ y.out)|exact HB.out)⟩
               ·rw [if_neg c40] at H
                exact absurd H (by simp)
              ·rw [if_neg c39] at H
               exact absurd H (by simp)
             ·rw [if_neg c38] at H
              exact absurd H (by simp)
         ·rw [if_neg c14] at H
          exact absurd H (by simp)
        ·rw [if_neg c13] at H
         exact absurd H (by simp)

end Go.Proofs.Ytcpmfdagnchlbaa.P
