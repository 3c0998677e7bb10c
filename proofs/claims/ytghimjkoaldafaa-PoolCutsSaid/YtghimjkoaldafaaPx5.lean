-- Written by a program of this session out of the translation of the seat: Lean functions and the proofs that the Go functions come to them.
import Derived.Test.YtghimjkoaldafaaPx0
import Derived.Test.YtghimjkoaldafaaPx1
import Derived.Test.YtghimjkoaldafaaPx2
import Derived.Test.YtghimjkoaldafaaPx4
namespace Go.Proofs.Ytghimjkoaldafaa.P
open Go.RowKit Go.Proofs.YtghimjkoaldafaaW.PrintWords Go.Proofs.YtghimjkoaldafaaW.PrintLast Go.Proofs.YtghimjkoaldafaaW.PrintMore
open Bool renaming true → aa, false → ab
open List renaming setIfInBounds_toArray → ac, set_cons_zero → ad, set_cons_succ → ae
open Go.Proofs.YtghimjkoaldafaaW.PrintWords renaming Aside0 → af, below_size → ai, below_step → al
open Option renaming bind_some → ag, bind_eq_some_iff → aJ
open Go.Proofs.YtghimjkoaldafaaW.PrintWords.Kd renaming int → ah, R_make_step → ak, R_types → aq, R_far → aw, R_lower → ay, R_below → az, R_mono → aA, R → aC, R_over' → aE, R_typed → aG, R_reads' → aH, at_int → aI, R_drew → aK, R_nil → aM, N_nil → aN, V_nil → aQ, Q_nil → aR, S_nil → aT, R_ne → aU, R_form → aV
open Nat renaming le_refl → aj, le_trans → au
open Go.Proofs.YtghimjkoaldafaaW.PrintLast renaming i64_w → am, i32_w → an, norm_ → ao, any_of → ax, pure_ → aD
open Go.IntKind renaming u64 → ap
open Go.World renaming block_lt_of_cell? → ar
open Option.some renaming injEq → av
set_option maxHeartbeats 8000000
set_option maxRecDepth 100000
attribute [local go_sem] max2_int min2_int max_two min_two max_three min_three max_four min_four   -- for this text's walks alone
set_option linter.unusedVariables false
set_option linter.unusedSimpArgs false
mutual
def split_Shares.j0 : Nat→Int→List Int→Bool→Option (List Int × Option Int)
 | 0,_,_,_=>none
 | k + 1,x0,x1,x31=>if x31 = true then (some (([] : List Int),some 1)) else (split_Shares.l0 k x0 x1 0 x1 (x1.length : Int) 0)
def split_Shares.l0 : Nat→Int→List Int→Int→List Int→Int→Int→Option (List Int × Option Int)
 | 0,_,_,_,_,_,_=>none
 | k + 1,x0,x1,x6,x33,x34,x35=>if x35 < x34 then (if 0≤x35 then (if x35 < (x33.length : Int) then (if (rd x33 x35) < 0 then (some (([] : List Int),some 1)) else (if (rd x33 x35) > 10000000000000 then (some (([] : List Int),some 1)) else (split_Shares.l0 k x0 x1 (ap.wrap (x6 + (ap.wrap (rd x33 x35)))) x33 x34 (wrap64 (x35 + 1))))) else (none)) else (none)) else (if x6 = 0 then (some (([] : List Int),some 1)) else (if 0≤(x1.length : Int) then (if ((x1.length : Int) : Int).toNat≤35184372088832 then (split_Shares.l1 k x0 x6 (List.replicate ((x1.length : Int) : Int).toNat 0) x0 ([] : List Int) x1 (x1.length : Int) 0 (List.replicate ((x1.length : Int) : Int).toNat 0)) else (none)) else (none)))
def split_Shares.l1 : Nat→Int→Int→List Int→Int→List Int→List Int→Int→Int→List Int→Option (List Int × Option Int)
 | 0,_,_,_,_,_,_,_,_,_=>none
 | k + 1,x0,x6,x9,x11,x12,x61,x62,x63,x460000=>if x63 < x62 then (if 0≤x63 then (if x63 < (x61.length : Int) then ((bits_Mul64_s.f (ap.wrap (x0)) (ap.wrap (rd x61 x63))).bind fun Z=>((bits_Div64_s.f Z.1 Z.2 x6).bind fun F=>(if x63 < (x9.length : Int) then (if x63 < (x460000.length : Int) then (if x12.length < 17592186044416 then (split_Shares.l1 k x0 x6 (x9.set (x63 : Int).toNat (wrap64 (F.1))) (wrap64 (x11 - (wrap64 (F.1)))) (x12 ++ [x63]) x61 x62 (wrap64 (x63 + 1)) (x460000.set (x63 : Int).toNat F.2)) else (none)) else (none)) else (none)))) else (none)) else (none)) else (if Srt.ok x460000 x12 = true then (if 0≤x11 then (if x11≤(x12.length : Int) then ((some ((Srt.srt x460000 x12).take (x11 : Int).toNat : List Int)).bind fun y471=>(split_Shares.l2 k x9 y471 (y471.length : Int) 0)) else (none)) else (none)) else (none))
def split_Shares.l2 : Nat→List Int→List Int→Int→Int→Option (List Int × Option Int)
 | 0,_,_,_,_=>none
 | k + 1,x9,x106,x107,x108=>if x108 < x107 then (if 0≤x108 then (if x108 < (x106.length : Int) then (if 0≤(rd x106 x108) then (if (rd x106 x108) < (x9.length : Int) then (split_Shares.l2 k (x9.set ((rd x106 x108) : Int).toNat (wrap64 ((rd x9 (rd x106 x108)) + 1))) x106 x107 (wrap64 (x108 + 1))) else (none)) else (none)) else (none)) else (none)) else (some (x9,none))
end
def split_Shares.f (k : Nat) (a0 : Int) (l1 : List Int) : Option (List Int × Option Int):=if a0 < 0 then (split_Shares.j0 k a0 l1 true) else (if a0 > 10000000000000 then (split_Shares.j0 k a0 l1 true) else (split_Shares.j0 k a0 l1 (decide ((l1.length : Int) > 480))))
def split_Shares.T13 : Bool × List (List Nat × List Nat):=(true,[([],[]),([0],[0]),([1,1],[1]),([],[]),([3],[3]),([4,4],[4]),([],[]),([2,0,1,2,6],[2]),([6,5,7,0,1,2,3,4,5,6,7],[5,6])])
def split_Shares.B13 : List Nat:=[0,1,3,0,8,24,0,71,255]
theorem split_Shares.tab13 : rtab .any (opsOf Try.f21 13) = split_Shares.T13:=by kernel_rfl
theorem split_Shares.bits13 : waitsOk split_Shares.T13.2 split_Shares.B13 = true:=by kernel_rfl
def split_Shares.T21 : Bool × List (List Nat × List Nat):=(true,[([],[]),([],[]),([],[]),([],[]),([],[]),([4],[4]),([],[]),([0,1,0,1,4,5],[0,1]),([7,5,0,1,4,5],[5,7]),([2,3,0,1,2,3,4,5,6,7,8],[2,3]),([9,6,8,0,1,2,3,4,5,6,7,8],[6,9])])
def split_Shares.B21 : List Nat:=[0,0,0,0,0,16,0,51,179,511,1023]
theorem split_Shares.tab21 : rtab .any (opsOf Try.f21 21) = split_Shares.T21:=by kernel_rfl
theorem split_Shares.bits21 : waitsOk split_Shares.T21.2 split_Shares.B21 = true:=by kernel_rfl
theorem split_Shares.calls (k : Nat) (a0 : Int) (A1 : Option Addr) (c1 : Nat) (l1 : List Int) (r1 : List Int) (r2 : Option Int) (w : World) (hr1 : Kd.C (ah .i64) w A1 l1.length l1) (hc1 : l1.length≤c1) (h : split_Shares.f k a0 l1 = some (r1,r2)) :
  Calls Try.prog 21 #[.int .i64 a0,.slice A1 l1.length c1] w fun e w'=>∃ v0_ : Value,e = .returned (.tuple #[v0_,errW r2])∧aC (ah .i64) 2 w' w.heap.size (fun _=>True) v0_ r1∧Below w.heap.size w w':=by
 have hu24:=Try.underlying24;have hu29:=Try.underlying29;have HR1:=ka hr1;have e4:=ka hc1;clear hr1 hc1;have HB:=ka (Below.refl w.heap.size w);have H : (if a0 < 0 then (split_Shares.j0 k a0 l1 true) else (if a0 > 10000000000000 then (split_Shares.j0 k a0 l1 true) else (split_Shares.j0 k a0 l1 (decide ((l1.length : Int) > 480))))) = some (r1,r2):=h;clear h;have a1:=ka H;clear H;go_enter Try.func21,Try.ntmps21
 go_upto_region 1 with (fail)
 go_cut [31] (fun d0 wc=>∃ (kq : Nat) (x31_2 : Bool),d0 = .bool x31_2∧af (split_Shares.j0 kq a0 l1 x31_2 = some (r1,r2))∧af (kq≤k)∧af (Below w.heap.size w wc))
 case first=>
  have H:=a1.out;clear a1;by_cases c4 : a0 < 0
  ·rw [if_pos c4] at H
   have c4b0 : decide (a0 < 0) = true:=decide_eq_true c4;clear c4;(first|rw [c4b0]|(simp only [am,an];rw [c4b0])|skip);have H':=ka H;clear H;go_wp2
   go_meet
   case rel=>exact ⟨_,(true),(by first|rfl|(simp;done)|(simp [*];done)),H',⟨by first|omega|exact aj _⟩,⟨by repeat (first|(with_reducible first|exact HB.out|apply kc1|apply kc2|apply kc3)|exact HB.out)⟩⟩
  ·rw [if_neg c4] at H
   have c4b0 : decide (a0 < 0) = false:=decide_eq_false c4;clear c4;(first|rw [c4b0]|(simp only [am,an];rw [c4b0])|skip);by_cases c5 : a0 > 10000000000000
   ·rw [if_pos c5] at H
    have c5b0 : decide (10000000000000 < a0) = true:=decide_eq_true c5;clear c5;have H':=ka H;clear H;go_wp2
    go_meet
    case rel=>exact ⟨_,(true),(by first|rfl|(simp;done)|(simp [*];done)),H',⟨by first|omega|exact aj _⟩,⟨by repeat (first|(with_reducible first|exact HB.out|apply kc1|apply kc2|apply kc3)|exact HB.out)⟩⟩
   ·rw [if_neg c5] at H
    have c5b0 : decide (10000000000000 < a0) = false:=decide_eq_false c5;clear c5;have H':=ka H;clear H;go_wp2
    go_meet
    case rel=>exact ⟨_,(decide ((l1.length : Int) > 480)),(by first|rfl|(simp;done)|(simp [*];done)),H',⟨by first|omega|exact aj _⟩,⟨by repeat (first|(with_reducible first|exact HB.out|apply kc1|apply kc2|apply kc3)|exact HB.out)⟩⟩
 case rest=>
  clear a1;try clear c1
  obtain ⟨kq,x31_2,rfl,HA,M,HB⟩:=hcut;cases kq with
  | zero=>exact absurd HA.out (by simp [split_Shares.j0])
  | succ kj2=>
   have H:=HA.out;clear HA;simp only [split_Shares.j0] at H
   by_cases c6 : x31_2 = true
   ·subst c6;have H1 : (some (([] : List Int),some 1)) = some (r1,r2):=by rw [if_pos rfl] at H;exact H
    clear H;have H:=H1;clear H1;simp only [av,Prod.mk.injEq] at H
    obtain ⟨rfl,rfl⟩:=H;go_wp2
    go_ret2
    exact ⟨_,by first|rfl|(simp [errW_none,errW_some] <;> rfl)|(simp [*,errW_none,errW_some] <;> rfl),by first|exact aM _ _ _ _ _|exact aN _ _ _ _ _|exact aQ _ _ _ _ _|exact aR _ _ _ _ _|exact aT _ _ _ _ _,by repeat (first|(with_reducible first|exact HB.out|apply kc1|apply kc2|apply kc3)|exact HB.out)⟩
   ·replace c6:=Bool.eq_false_iff.mpr c6;subst c6;have H1 : (split_Shares.l0 kj2 a0 l1 0 l1 (l1.length : Int) 0) = some (r1,r2):=by rw [if_neg (show ¬ (false = true) by decide)] at H;exact H
    clear H;have H:=H1;clear H1;have H':=ka H;clear H;go_wp2
    (try simp only [Act.put,ac,ad,ae]);go_loopg [6,35] kj2 (fun kq v6 d1 w'=>∃ (x6_2 : Int) (x35_2 : Int),v6 = .int .u64 x6_2∧d1 = .int .i64 x35_2∧af (split_Shares.l0 kq a0 l1 x6_2 l1 (l1.length : Int) x35_2 = some (r1,r2))∧af (kq≤kj2)∧af (Below w.heap.size w w'))
    case atStart=>exact ⟨(0),(0),(by first|rfl|(simp;done)|(simp [*];done)),(by first|rfl|(simp;done)|(simp [*];done)),H',⟨aj _⟩,⟨by repeat (first|(with_reducible first|exact HB.out|apply kc1|apply kc2|apply kc3)|exact HB.out)⟩⟩
    case round=>
     clear H';try clear c1
     try clear c6
     obtain ⟨x6_2,x35_2,rfl,rfl,HA,HK2,HB⟩:=hrel;cases gk with
     | zero=>exact absurd HA.out (by simp [split_Shares.l0])
     | succ k2=>
      have H:=HA.out;clear HA;simp only [split_Shares.l0] at H
      by_cases c7 : x35_2 < (l1.length : Int)
      ·rw [if_pos c7] at H
       have c7b0 : decide (x35_2 < (l1.length : Int)) = true:=decide_eq_true c7;clear c7;by_cases c8 : 0≤x35_2
       ·rw [if_pos c8] at H
        have c8b0 : decide (0≤x35_2) = true:=decide_eq_true c8;clear c8;by_cases c9 : x35_2 < (l1.length : Int)
        ·rw [if_pos c9] at H
         have c9b0 : decide (x35_2 < (l1.length : Int)) = true:=decide_eq_true c9;clear c9;by_cases c10 : (rd l1 x35_2) < 0
         ·rw [if_pos c10] at H
          have c10b0 : decide ((rd l1 x35_2) < 0) = true:=decide_eq_true c10;clear c10;simp only [av,Prod.mk.injEq] at H
          obtain ⟨rfl,rfl⟩:=H;have p452 : 0≤(x35_2 : Int):=of_decide_eq_true (by first|(with_reducible assumption)|assumption);have q452 : x35_2 < (l1.length : Int):=of_decide_eq_true (by first|(with_reducible assumption)|assumption);obtain ⟨ad452,e452,hx452_0⟩:=aI HR1.out x35_2 p452 q452;cases e452
          replace hx452_0:=(HB.out.cell (ar w _ hx452_0)).trans hx452_0;replace p452:=eq_true p452;replace q452:=eq_true q452;go_wp2
          go_ret2
          exact ⟨_,by first|rfl|(simp [errW_none,errW_some] <;> rfl)|(simp [*,errW_none,errW_some] <;> rfl),by first|exact aM _ _ _ _ _|exact aN _ _ _ _ _|exact aQ _ _ _ _ _|exact aR _ _ _ _ _|exact aT _ _ _ _ _,by repeat (first|(with_reducible first|exact HB.out|apply kc1|apply kc2|apply kc3)|exact HB.out)⟩
         ·rw [if_neg c10] at H
          have c10b0 : decide ((rd l1 x35_2) < 0) = false:=decide_eq_false c10;clear c10;by_cases c11 : (rd l1 x35_2) > 10000000000000
          ·rw [if_pos c11] at H
           have c11b0 : decide (10000000000000 < (rd l1 x35_2)) = true:=decide_eq_true c11;clear c11;simp only [av,Prod.mk.injEq] at H
           obtain ⟨rfl,rfl⟩:=H;have p452 : 0≤(x35_2 : Int):=of_decide_eq_true (by first|(with_reducible assumption)|assumption);have q452 : x35_2 < (l1.length : Int):=of_decide_eq_true (by first|(with_reducible assumption)|assumption);obtain ⟨ad452,e452,hx452_0⟩:=aI HR1.out x35_2 p452 q452;cases e452
           replace hx452_0:=(HB.out.cell (ar w _ hx452_0)).trans hx452_0;replace p452:=eq_true p452;replace q452:=eq_true q452;go_wp2
           go_ret2
           exact ⟨_,by first|rfl|(simp [errW_none,errW_some] <;> rfl)|(simp [*,errW_none,errW_some] <;> rfl),by first|exact aM _ _ _ _ _|exact aN _ _ _ _ _|exact aQ _ _ _ _ _|exact aR _ _ _ _ _|exact aT _ _ _ _ _,by repeat (first|(with_reducible first|exact HB.out|apply kc1|apply kc2|apply kc3)|exact HB.out)⟩
          ·rw [if_neg c11] at H
           have c11b0 : decide (10000000000000 < (rd l1 x35_2)) = false:=decide_eq_false c11;clear c11;have H':=ka H;clear H;have p452 : 0≤(x35_2 : Int):=of_decide_eq_true (by first|(with_reducible assumption)|assumption);have q452 : x35_2 < (l1.length : Int):=of_decide_eq_true (by first|(with_reducible assumption)|assumption);obtain ⟨ad452,e452,hx452_0⟩:=aI HR1.out x35_2 p452 q452;cases e452
           replace hx452_0:=(HB.out.cell (ar w _ hx452_0)).trans hx452_0;replace p452:=eq_true p452;replace q452:=eq_true q452;go_wp2
           go_roundg k2
           case measure=>have:=M.out;have:=HK2.out;omega
           case rel=>exact ⟨(ap.wrap (x6_2 + (ap.wrap (rd l1 x35_2)))),(wrap64 (x35_2 + 1)),(by first|rfl|(simp;done)|(simp [*];done)),(by first|rfl|(simp;done)|(simp [*];done)),H',⟨by have:=M.out;have:=HK2.out;omega⟩,⟨by repeat (first|(with_reducible first|exact HB.out|apply kc1|apply kc2|apply kc3)|exact HB.out)⟩⟩
        ·rw [if_neg c9] at H
         exact absurd H (by simp)
       ·rw [if_neg c8] at H
        exact absurd H (by simp)
      ·rw [if_neg c7] at H
       have c7b0 : decide (x35_2 < (l1.length : Int)) = false:=decide_eq_false c7;clear c7;by_cases c12 : x6_2 = 0
       ·rw [if_pos c12] at H
        have c12b0 : (x6_2 == 0) = true:=beq_iff_eq.mpr c12;have c12b1 : (x6_2 != 0) = false:=bne_eq_false_iff_eq.mpr c12;clear c12;simp only [av,Prod.mk.injEq] at H
        obtain ⟨rfl,rfl⟩:=H;go_wp2
        go_ret2
        exact ⟨_,by first|rfl|(simp [errW_none,errW_some] <;> rfl)|(simp [*,errW_none,errW_some] <;> rfl),by first|exact aM _ _ _ _ _|exact aN _ _ _ _ _|exact aQ _ _ _ _ _|exact aR _ _ _ _ _|exact aT _ _ _ _ _,by repeat (first|(with_reducible first|exact HB.out|apply kc1|apply kc2|apply kc3)|exact HB.out)⟩
       ·rw [if_neg c12] at H
        have c12b0 : (x6_2 == 0) = false:=beq_eq_false_iff_ne.mpr c12;have c12b1 : (x6_2 != 0) = true:=bne_iff_ne.mpr c12;by_cases c13 : 0≤(l1.length : Int)
        ·rw [if_pos c13] at H
         have c13b0:=eq_true c13;have c13b1 : decide (0≤(l1.length : Int)) = true:=decide_eq_true c13;clear c13;by_cases c14 : ((l1.length : Int) : Int).toNat≤35184372088832
         ·rw [if_pos c14] at H
          have c14b0:=eq_true c14;have c14b1 : decide (((l1.length : Int) : Int).toNat≤35184372088832) = true:=decide_eq_true c14;clear c14;obtain ⟨y453,hy453⟩ : ∃ y_ : List Int,y_ = (List.replicate ((l1.length : Int) : Int).toNat 0):=⟨_,rfl⟩
          replace H : (split_Shares.l1 k2 a0 x6_2 y453 a0 ([] : List Int) l1 (l1.length : Int) 0 (List.replicate ((l1.length : Int) : Int).toNat 0)) = some (r1,r2):=by first|(rw [hy453];with_reducible exact H)|(have H2_:=(ag _ _).symm.trans H;rw [hy453];with_reducible exact H2_)|(have H2_:=(ag _ _).symm.trans H;with_reducible exact H2_)|with_reducible exact H|(rw [hy453];exact H)|exact H
          have Ny453:=ka hy453;clear hy453;obtain ⟨y456,hy456⟩ : ∃ y_ : List Int,y_ = (List.replicate ((l1.length : Int) : Int).toNat 0):=⟨_,rfl⟩
          replace H : (split_Shares.l1 k2 a0 x6_2 y453 a0 ([] : List Int) l1 (l1.length : Int) 0 y456) = some (r1,r2):=by first|(rw [hy456];with_reducible exact H)|(have H2_:=(ag _ _).symm.trans H;rw [hy456];with_reducible exact H2_)|(have H2_:=(ag _ _).symm.trans H;with_reducible exact H2_)|with_reducible exact H|(rw [hy456];exact H)|exact H
          have Ny456:=ka hy456;clear hy456;have H':=ka H;clear H;try go_wp2
          replace HB:=ka (below_drew1 HB.out);refine start_ (n:=9) (S:=fun w'=>True) (ds:=[]) #[ab,ab,ab,ab,ab,ab,ab,ab,ab] (by kernel_rfl) rfl rfl trivial (fun hHeld=>?_);refine with_tabW split_Shares.tab13 split_Shares.bits13 (fun HT_ HW_=>?_);generalize wr.drew = e5 at HB hHeld ⊢;refine aD (i:=0) (N:=some 54) (v:=?_) (a':=?_) #[aa,ab,ab,ab,ab,ab,ab,ab,ab] rfl rfl (ax HT_.out (by kernel_rfl)) (fun _ _ _ h=>h) (Or.inl ⟨by rfl,?_⟩) ?_ ?_;rotate_left
          ·intro w';go_simp
           with_reducible rfl
          rotate_left
          ·simp only [Act.put,ac,ad,ae,am,an]
           rfl
          refine aD (i:=1) (N:=some 55) (v:=?_) (a':=?_) #[aa,aa,ab,ab,ab,ab,ab,ab,ab] rfl rfl (ax HT_.out (by kernel_rfl)) (fun _ _ _ h=>h) (Or.inl ⟨by rfl,?_⟩) ?_ ?_;rotate_left
          ·intro w';go_simp
           with_reducible rfl
          rotate_left
          ·simp only [Act.put,ac,ad,ae,am,an]
           rfl
          refine aD (i:=3) (N:=some 57) (v:=?_) (a':=?_) #[aa,aa,ab,aa,ab,ab,ab,ab,ab] rfl rfl (ax HT_.out (by kernel_rfl)) (fun _ _ _ h=>h) (Or.inl ⟨by rfl,?_⟩) ?_ ?_;rotate_left
          ·intro w';go_simp
           with_reducible rfl
          rotate_left
          ·simp only [Act.put,ac,ad,ae,am,an]
           rfl
          refine aD (i:=4) (N:=some 58) (v:=?_) (a':=?_) #[aa,aa,ab,aa,aa,ab,ab,ab,ab] rfl rfl (ax HT_.out (by kernel_rfl)) (fun _ _ _ h=>h) (Or.inl ⟨by rfl,?_⟩) ?_ ?_;rotate_left
          ·intro w';go_simp
           with_reducible rfl
          rotate_left
          ·simp only [Act.put,ac,ad,ae,am,an]
           rfl
          refine join_ (σ:=Value × Value × Nat) 1 #[aa,aa,aa,aa,aa,aa,aa,aa,ab] (fun s_=>[(56,s_.1),(59,s_.2.1),(10,.pointer (some ⟨s_.2.2,0,none⟩)),(9,s_.1)]) (fun s_ w'=>(aC (ah .i64) 2 w' w.heap.size (fun _=>True) s_.1 y453)∧(aC (ah .u64) 60 w' w.heap.size (fun _=>True) s_.2.1 y456)∧(w'.heap[s_.2.2]? = some (.cells #[.slice none 0 0] 49 (0,0)))∧(w.heap.size≤s_.2.2)∧(w.heap.size≤s_.2.2)∧(Below w.heap.size w w')) ?_ ?_;rotate_left
          ·intro hJ2_5_6;refine join_ (σ:=Value × Value) 3 #[aa,aa,aa,aa,aa,aa,ab,ab,ab] (fun s_=>[(56,s_.1),(59,s_.2)]) (fun s_ w'=>(aC (ah .i64) 2 w' w.heap.size (fun _=>True) s_.1 y453)∧(aC (ah .u64) 60 w' w.heap.size (fun _=>True) s_.2 y456)∧(Below w.heap.size w w')) ?_ ?_;rotate_left
           ·intro hJ2_5;refine join_ (σ:=Value × Nat) 2 #[aa,aa,aa,aa,aa,ab,aa,aa,ab] (fun s_=>[(56,s_.1),(10,.pointer (some ⟨s_.2,0,none⟩)),(9,s_.1)]) (fun s_ w'=>(aC (ah .i64) 2 w' w.heap.size (fun _=>True) s_.1 y453)∧(w'.heap[s_.2]? = some (.cells #[.slice none 0 0] 49 (0,0)))∧(w.heap.size≤s_.2)∧(w.heap.size≤s_.2)∧(Below w.heap.size w w')) ?_ ?_;rotate_left
            ·intro hJ2_6;refine join_ (σ:=Value × Nat) 3 #[aa,aa,ab,aa,aa,aa,aa,ab,ab] (fun s_=>[(59,s_.1),(10,.pointer (some ⟨s_.2,0,none⟩))]) (fun s_ w'=>(aC (ah .u64) 60 w' w.heap.size (fun _=>True) s_.1 y456)∧(w'.heap[s_.2]? = some (.cells #[.slice none 0 0] 49 (0,0)))∧(w.heap.size≤s_.2)∧(w.heap.size≤s_.2)∧(Below w.heap.size w w')) ?_ ?_;rotate_left
             ·intro hJ5_6;refine join_ (σ:=Value) 4 #[aa,aa,aa,aa,aa,ab,ab,ab,ab] (fun s_=>[(56,s_)]) (fun s_ w'=>(aC (ah .i64) 2 w' w.heap.size (fun _=>True) s_ y453)∧(Below w.heap.size w w')) ?_ ?_;rotate_left
              ·intro hJ2;refine join_ (σ:=Value) 4 #[aa,aa,ab,aa,aa,aa,ab,ab,ab] (fun s_=>[(59,s_)]) (fun s_ w'=>(aC (ah .u64) 60 w' w.heap.size (fun _=>True) s_ y456)∧(Below w.heap.size w w')) ?_ ?_;rotate_left
               ·intro hJ5;refine join_ (σ:=Nat) 4 #[aa,aa,ab,aa,aa,ab,aa,ab,ab] (fun s_=>[(10,.pointer (some ⟨s_,0,none⟩))]) (fun s_ w'=>(w'.heap[s_]? = some (.cells #[.slice none 0 0] 49 (0,0)))∧(w.heap.size≤s_)∧(w.heap.size≤s_)∧(Below w.heap.size w w')) ?_ ?_;rotate_left
                ·intro hJ6;refine three_ (i:=2) (j:=5) (k:=6) (Ni:=some 56) (Nj:=some 59) (Nk:=some 10) #[aa,aa,aa,aa,aa,ab,ab,ab,ab] #[aa,aa,ab,aa,aa,aa,ab,ab,ab] #[aa,aa,ab,aa,aa,ab,aa,ab,ab] rfl rfl rfl rfl rfl rfl (three_of HT_.out (by kernel_rfl)) (by decide) (by decide) (by decide) (fun K hK=>?_) (fun K hK=>?_) (fun K hK=>?_)
                 ·skip
                  refine ak (ah .i64) _ 2 (by rfl) (N:=56) rfl 34 _ _ rfl (l1.length : Int) rfl rfl Try.underlying34 (.int .i64 0) 8 info2 rfl (by decide) (by omega) 0 (ok:=fun _=>True) (okp:=fun _=>True) rfl (fun _ hk=>hk) trivial (of_decide_eq_true (by first|(with_reducible assumption)|assumption)) (au (Nat.mul_le_mul_right _ (of_decide_eq_true (by first|(with_reducible assumption)|assumption) : (l1.length : Int).toNat≤35184372088832)) (by omega)) (Below.refl _ _) (aj _) ?_;intro B b5 ho17 hb hg_ hnew_;clear hg_ hnew_;(first|rw [← Ny453.out] at ho17|(simp only [Int.reduceToNat] at ho17;rw [← Ny453.out] at ho17));have u:=ka (ay ho17 (ai (kw HB.out)));replace HB:=ka (al (kw HB.out) hb);clear hb ho17;refine hK.out _ _ trivial (fun hHeld=>?_);clear hK K;refine ao (a':=?_) ?_ ?_;rotate_left
                  ·show Act.put _ (some 56) _ = _
                   simp only [Act.put,ac,ad,ae,am,an]
                   rfl
                  exact ao (by first|(simp only [putAll,Act.put,ac,ad,ae];done)|(simp only [putAll,Act.put,ac,ad,ae];rfl)) (hJ2 (_) _ ⟨(kr u.out),(kw HB.out)⟩)
                 ·skip
                  refine ak (ah .u64) _ 60 (by rfl) (N:=59) rfl 49 _ _ rfl (l1.length : Int) rfl rfl Try.underlying49 (.int .u64 0) 8 info60 rfl (by decide) (by omega) 0 (ok:=fun _=>True) (okp:=fun _=>True) rfl (fun _ hk=>hk) trivial (of_decide_eq_true (by first|(with_reducible assumption)|assumption)) (au (Nat.mul_le_mul_right _ (of_decide_eq_true (by first|(with_reducible assumption)|assumption) : (l1.length : Int).toNat≤35184372088832)) (by omega)) (Below.refl _ _) (aj _) ?_;intro E b5 ho17 hb hg_ hnew_;clear hg_ hnew_;(first|rw [← Ny456.out] at ho17|(simp only [Int.reduceToNat] at ho17;rw [← Ny456.out] at ho17));have s:=ka (ay ho17 (ai (kw HB.out)));replace HB:=ka (al (kw HB.out) hb);clear hb ho17;refine hK.out _ _ trivial (fun hHeld=>?_);clear hK K;refine ao (a':=?_) ?_ ?_;rotate_left
                  ·show Act.put _ (some 59) _ = _
                   simp only [Act.put,ac,ad,ae,am,an]
                   rfl
                  exact ao (by first|(simp only [putAll,Act.put,ac,ad,ae];done)|(simp only [putAll,Act.put,ac,ad,ae];rfl)) (hJ5 (_) _ ⟨(kr s.out),(kw HB.out)⟩)
                 ·skip
                  refine box_step ?hg (N:=10) ?hd (cs:=#[.slice none 0 0]) (t:=49) ?hr ?_;(case hd=>rfl);(case hg=>rfl);(case hr=>first|(go_simp;done)|(go_simp;rfl));intro d hg b5 hbox hb;have c:=ka (hbox);have z:=ka ((by rw [hg];exact (ai (kw HB.out)) : w.heap.size≤d));have y:=ka ((by rw [hg];exact (ai (kw HB.out)) : w.heap.size≤d));replace HB:=ka (al (kw HB.out) hb);clear hb hbox hg;refine hK.out _ _ trivial (fun hHeld=>?_);clear hK K;refine ao (a':=?_) ?_ ?_;rotate_left
                  ·show Act.put _ (some 10) _ = _
                   simp only [Act.put,ac,ad,ae,am,an]
                   rfl
                  exact ao (by first|(simp only [putAll,Act.put,ac,ad,ae];done)|(simp only [putAll,Act.put,ac,ad,ae];rfl)) (hJ6 (d) _ ⟨(kz c.out),z.out,y.out,(kw HB.out)⟩)
                ·skip
                 rintro d b6 ⟨h0_,h1_,h2_,h3_⟩;have c : af (b6.heap[d]? = some (.cells #[.slice none 0 0] 49 (0,0))):=⟨h0_⟩
                 have z : af (w.heap.size≤d):=⟨h1_⟩
                 have y : af (w.heap.size≤d):=⟨h2_⟩
                 replace HB : af (Below w.heap.size w b6):=⟨h3_⟩
                 clear h0_ h1_ h2_ h3_;have hHeld:=trivial;refine ao (a':=?_) ?_ ?_;rotate_left
                 ·simp only [putAll,Act.put,ac,ad,ae]
                  rfl
                 refine two_ (i:=2) (j:=5) (Ni:=some 56) (Nj:=some 59) #[aa,aa,aa,aa,aa,ab,aa,ab,ab] #[aa,aa,ab,aa,aa,aa,aa,ab,ab] rfl rfl rfl rfl (two_of HT_.out (by kernel_rfl)) (by decide) (by decide) (fun K hK=>?_) (fun K hK=>?_)
                 ·skip
                  refine ak (ah .i64) _ 2 (by rfl) (N:=56) rfl 34 _ _ rfl (l1.length : Int) rfl rfl Try.underlying34 (.int .i64 0) 8 info2 rfl (by decide) (by omega) 0 (ok:=fun _=>True) (okp:=fun _=>True) rfl (fun _ hk=>hk) trivial (of_decide_eq_true (by first|(with_reducible assumption)|assumption)) (au (Nat.mul_le_mul_right _ (of_decide_eq_true (by first|(with_reducible assumption)|assumption) : (l1.length : Int).toNat≤35184372088832)) (by omega)) (Below.refl _ _) (aj _) ?_;intro B L ho19 hb hg_ hnew_;clear hg_ hnew_;(first|rw [← Ny453.out] at ho19|(simp only [Int.reduceToNat] at ho19;rw [← Ny453.out] at ho19));have u:=ka (ay ho19 (ai (kw HB.out)));replace c:=kbb c hb;replace HB:=ka (al (kw HB.out) hb);clear hb ho19;refine hK.out _ _ trivial (fun hHeld=>?_);clear hK K;refine ao (a':=?_) ?_ ?_;rotate_left
                  ·show Act.put _ (some 56) _ = _
                   simp only [Act.put,ac,ad,ae,am,an]
                   rfl
                  refine aD (i:=7) (N:=some 9) (v:=?_) (a':=?_) #[aa,aa,aa,aa,aa,ab,aa,aa,ab] rfl rfl (ax HT_.out (by kernel_rfl)) (fun _ _ _ h=>h) (Or.inl ⟨by rfl,?_⟩) ?_ ?_;rotate_left
                  ·intro w';go_simp
                   with_reducible rfl
                  rotate_left
                  ·simp only [Act.put,ac,ad,ae,am,an]
                   rfl
                  exact ao (by first|(simp only [putAll,Act.put,ac,ad,ae];done)|(simp only [putAll,Act.put,ac,ad,ae];rfl)) (hJ2_6 (_,d) _ ⟨(kr u.out),(kz c.out),z.out,y.out,(kw HB.out)⟩)
                 ·skip
                  refine ak (ah .u64) _ 60 (by rfl) (N:=59) rfl 49 _ _ rfl (l1.length : Int) rfl rfl Try.underlying49 (.int .u64 0) 8 info60 rfl (by decide) (by omega) 0 (ok:=fun _=>True) (okp:=fun _=>True) rfl (fun _ hk=>hk) trivial (of_decide_eq_true (by first|(with_reducible assumption)|assumption)) (au (Nat.mul_le_mul_right _ (of_decide_eq_true (by first|(with_reducible assumption)|assumption) : (l1.length : Int).toNat≤35184372088832)) (by omega)) (Below.refl _ _) (aj _) ?_;intro E L ho19 hb hg_ hnew_;clear hg_ hnew_;(first|rw [← Ny456.out] at ho19|(simp only [Int.reduceToNat] at ho19;rw [← Ny456.out] at ho19));have s:=ka (ay ho19 (ai (kw HB.out)));replace c:=kbb c hb;replace HB:=ka (al (kw HB.out) hb);clear hb ho19;refine hK.out _ _ trivial (fun hHeld=>?_);clear hK K;refine ao (a':=?_) ?_ ?_;rotate_left
                  ·show Act.put _ (some 59) _ = _
                   simp only [Act.put,ac,ad,ae,am,an]
                   rfl
                  exact ao (by first|(simp only [putAll,Act.put,ac,ad,ae];done)|(simp only [putAll,Act.put,ac,ad,ae];rfl)) (hJ5_6 (_,d) _ ⟨(kr s.out),(kz c.out),z.out,y.out,(kw HB.out)⟩)
               ·skip
                rintro E L ⟨h0_,h1_⟩;have s : af (aC (ah .u64) 60 L w.heap.size (fun _=>True) E y456):=⟨h0_⟩
                replace HB : af (Below w.heap.size w L):=⟨h1_⟩
                clear h0_ h1_;have hHeld:=trivial;refine ao (a':=?_) ?_ ?_;rotate_left
                ·simp only [putAll,Act.put,ac,ad,ae]
                 rfl
                refine two_ (i:=2) (j:=6) (Ni:=some 56) (Nj:=some 10) #[aa,aa,aa,aa,aa,aa,ab,ab,ab] #[aa,aa,ab,aa,aa,aa,aa,ab,ab] rfl rfl rfl rfl (two_of HT_.out (by kernel_rfl)) (by decide) (by decide) (fun K hK=>?_) (fun K hK=>?_)
                ·skip
                 refine ak (ah .i64) _ 2 (by rfl) (N:=56) rfl 34 _ _ rfl (l1.length : Int) rfl rfl Try.underlying34 (.int .i64 0) 8 info2 rfl (by decide) (by omega) 0 (ok:=fun _=>True) (okp:=fun _=>True) rfl (fun _ hk=>hk) trivial (of_decide_eq_true (by first|(with_reducible assumption)|assumption)) (au (Nat.mul_le_mul_right _ (of_decide_eq_true (by first|(with_reducible assumption)|assumption) : (l1.length : Int).toNat≤35184372088832)) (by omega)) (Below.refl _ _) (aj _) ?_;intro B J ho20 hb hg_ hnew_;clear hg_ hnew_;(first|rw [← Ny453.out] at ho20|(simp only [Int.reduceToNat] at ho20;rw [← Ny453.out] at ho20));replace s:=ka (az (kr s.out) hb);have u:=ka (ay ho20 (ai (kw HB.out)));replace HB:=ka (al (kw HB.out) hb);clear hb ho20;refine hK.out _ _ trivial (fun hHeld=>?_);clear hK K;refine ao (a':=?_) ?_ ?_;rotate_left
                 ·show Act.put _ (some 56) _ = _
                  simp only [Act.put,ac,ad,ae,am,an]
                  rfl
                 exact ao (by first|(simp only [putAll,Act.put,ac,ad,ae];done)|(simp only [putAll,Act.put,ac,ad,ae];rfl)) (hJ2_5 (_,_) _ ⟨(kr u.out),(kr s.out),(kw HB.out)⟩)
                ·skip
                 refine box_step ?hg (N:=10) ?hd (cs:=#[.slice none 0 0]) (t:=49) ?hr ?_;(case hd=>rfl);(case hg=>rfl);(case hr=>first|(go_simp;done)|(go_simp;rfl));intro d hg J hbox hb;replace s:=ka (az (kr s.out) hb);have c:=ka (hbox);have z:=ka ((by rw [hg];exact (ai (kw HB.out)) : w.heap.size≤d));have y:=ka ((by rw [hg];exact (ai (kw HB.out)) : w.heap.size≤d));replace HB:=ka (al (kw HB.out) hb);clear hb hbox hg;refine hK.out _ _ trivial (fun hHeld=>?_);clear hK K;refine ao (a':=?_) ?_ ?_;rotate_left
                 ·show Act.put _ (some 10) _ = _
                  simp only [Act.put,ac,ad,ae,am,an]
                  rfl
                 exact ao (by first|(simp only [putAll,Act.put,ac,ad,ae];done)|(simp only [putAll,Act.put,ac,ad,ae];rfl)) (hJ5_6 (_,d) _ ⟨(kr s.out),(kz c.out),z.out,y.out,(kw HB.out)⟩)
              ·skip
               rintro B L ⟨h0_,h1_⟩;have u : af (aC (ah .i64) 2 L w.heap.size (fun _=>True) B y453):=⟨h0_⟩
               replace HB : af (Below w.heap.size w L):=⟨h1_⟩
               clear h0_ h1_;have hHeld:=trivial;refine ao (a':=?_) ?_ ?_;rotate_left
               ·simp only [putAll,Act.put,ac,ad,ae]
                rfl
               refine two_ (i:=5) (j:=6) (Ni:=some 59) (Nj:=some 10) #[aa,aa,aa,aa,aa,aa,ab,ab,ab] #[aa,aa,aa,aa,aa,ab,aa,ab,ab] rfl rfl rfl rfl (two_of HT_.out (by kernel_rfl)) (by decide) (by decide) (fun K hK=>?_) (fun K hK=>?_)
               ·skip
                refine ak (ah .u64) _ 60 (by rfl) (N:=59) rfl 49 _ _ rfl (l1.length : Int) rfl rfl Try.underlying49 (.int .u64 0) 8 info60 rfl (by decide) (by omega) 0 (ok:=fun _=>True) (okp:=fun _=>True) rfl (fun _ hk=>hk) trivial (of_decide_eq_true (by first|(with_reducible assumption)|assumption)) (au (Nat.mul_le_mul_right _ (of_decide_eq_true (by first|(with_reducible assumption)|assumption) : (l1.length : Int).toNat≤35184372088832)) (by omega)) (Below.refl _ _) (aj _) ?_;intro E J ho20 hb hg_ hnew_;clear hg_ hnew_;(first|rw [← Ny456.out] at ho20|(simp only [Int.reduceToNat] at ho20;rw [← Ny456.out] at ho20));replace u:=ka (az (kr u.out) hb);have s:=ka (ay ho20 (ai (kw HB.out)));replace HB:=ka (al (kw HB.out) hb);clear hb ho20;refine hK.out _ _ trivial (fun hHeld=>?_);clear hK K;refine ao (a':=?_) ?_ ?_;rotate_left
                ·show Act.put _ (some 59) _ = _
                 simp only [Act.put,ac,ad,ae,am,an]
                 rfl
                exact ao (by first|(simp only [putAll,Act.put,ac,ad,ae];done)|(simp only [putAll,Act.put,ac,ad,ae];rfl)) (hJ2_5 (_,_) _ ⟨(kr u.out),(kr s.out),(kw HB.out)⟩)
               ·skip
                refine box_step ?hg (N:=10) ?hd (cs:=#[.slice none 0 0]) (t:=49) ?hr ?_;(case hd=>rfl);(case hg=>rfl);(case hr=>first|(go_simp;done)|(go_simp;rfl));intro d hg J hbox hb;replace u:=ka (az (kr u.out) hb);have c:=ka (hbox);have z:=ka ((by rw [hg];exact (ai (kw HB.out)) : w.heap.size≤d));have y:=ka ((by rw [hg];exact (ai (kw HB.out)) : w.heap.size≤d));replace HB:=ka (al (kw HB.out) hb);clear hb hbox hg;refine hK.out _ _ trivial (fun hHeld=>?_);clear hK K;refine ao (a':=?_) ?_ ?_;rotate_left
                ·show Act.put _ (some 10) _ = _
                 simp only [Act.put,ac,ad,ae,am,an]
                 rfl
                refine aD (i:=7) (N:=some 9) (v:=?_) (a':=?_) #[aa,aa,aa,aa,aa,ab,aa,aa,ab] rfl rfl (ax HT_.out (by kernel_rfl)) (fun _ _ _ h=>h) (Or.inl ⟨by rfl,?_⟩) ?_ ?_;rotate_left
                ·intro w';go_simp
                 with_reducible rfl
                rotate_left
                ·simp only [Act.put,ac,ad,ae,am,an]
                 rfl
                exact ao (by first|(simp only [putAll,Act.put,ac,ad,ae];done)|(simp only [putAll,Act.put,ac,ad,ae];rfl)) (hJ2_6 (_,d) _ ⟨(kr u.out),(kz c.out),z.out,y.out,(kw HB.out)⟩)
             ·skip
              rintro ⟨E,d⟩ J ⟨h0_,h1_,h2_,h3_,h4_⟩;have s : af (aC (ah .u64) 60 J w.heap.size (fun _=>True) E y456):=⟨h0_⟩
              have c : af (J.heap[d]? = some (.cells #[.slice none 0 0] 49 (0,0))):=⟨h1_⟩
              have z : af (w.heap.size≤d):=⟨h2_⟩
              have y : af (w.heap.size≤d):=⟨h3_⟩
              replace HB : af (Below w.heap.size w J):=⟨h4_⟩
              clear h0_ h1_ h2_ h3_ h4_;have hHeld:=trivial;refine ao (a':=?_) ?_ ?_;rotate_left
              ·simp only [putAll,Act.put,ac,ad,ae]
               rfl
              refine one_ (i:=2) (N:=some 56) #[aa,aa,aa,aa,aa,aa,aa,ab,ab] rfl rfl (one_of HT_.out (by kernel_rfl)) (by decide) (fun K hK=>?_);refine ak (ah .i64) _ 2 (by rfl) (N:=56) rfl 34 _ _ rfl (l1.length : Int) rfl rfl Try.underlying34 (.int .i64 0) 8 info2 rfl (by decide) (by omega) 0 (ok:=fun _=>True) (okp:=fun _=>True) rfl (fun _ hk=>hk) trivial (of_decide_eq_true (by first|(with_reducible assumption)|assumption)) (au (Nat.mul_le_mul_right _ (of_decide_eq_true (by first|(with_reducible assumption)|assumption) : (l1.length : Int).toNat≤35184372088832)) (by omega)) (Below.refl _ _) (aj _) ?_;intro B U ho21 hb hg_ hnew_;clear hg_ hnew_;(first|rw [← Ny453.out] at ho21|(simp only [Int.reduceToNat] at ho21;rw [← Ny453.out] at ho21));replace s:=ka (az (kr s.out) hb);have u:=ka (ay ho21 (ai (kw HB.out)));replace c:=kbb c hb;replace HB:=ka (al (kw HB.out) hb);clear hb ho21;refine hK.out _ _ trivial (fun hHeld=>?_);clear hK K;refine ao (a':=?_) ?_ ?_;rotate_left
              ·show Act.put _ (some 56) _ = _
               simp only [Act.put,ac,ad,ae,am,an]
               rfl
              refine aD (i:=7) (N:=some 9) (v:=?_) (a':=?_) #[aa,aa,aa,aa,aa,aa,aa,aa,ab] rfl rfl (ax HT_.out (by kernel_rfl)) (fun _ _ _ h=>h) (Or.inl ⟨by rfl,?_⟩) ?_ ?_;rotate_left
              ·intro w';go_simp
               with_reducible rfl
              rotate_left
              ·simp only [Act.put,ac,ad,ae,am,an]
               rfl
              exact ao (by first|(simp only [putAll,Act.put,ac,ad,ae];done)|(simp only [putAll,Act.put,ac,ad,ae];rfl)) (hJ2_5_6 (_,_,d) _ ⟨(kr u.out),(kr s.out),(kz c.out),z.out,y.out,(kw HB.out)⟩)
            ·skip
             rintro ⟨B,d⟩ J ⟨h0_,h1_,h2_,h3_,h4_⟩;have u : af (aC (ah .i64) 2 J w.heap.size (fun _=>True) B y453):=⟨h0_⟩
             have c : af (J.heap[d]? = some (.cells #[.slice none 0 0] 49 (0,0))):=⟨h1_⟩
             have z : af (w.heap.size≤d):=⟨h2_⟩
             have y : af (w.heap.size≤d):=⟨h3_⟩
             replace HB : af (Below w.heap.size w J):=⟨h4_⟩
             clear h0_ h1_ h2_ h3_ h4_;have hHeld:=trivial;refine ao (a':=?_) ?_ ?_;rotate_left
             ·simp only [putAll,Act.put,ac,ad,ae]
              rfl
             refine one_ (i:=5) (N:=some 59) #[aa,aa,aa,aa,aa,aa,aa,aa,ab] rfl rfl (one_of HT_.out (by kernel_rfl)) (by decide) (fun K hK=>?_);refine ak (ah .u64) _ 60 (by rfl) (N:=59) rfl 49 _ _ rfl (l1.length : Int) rfl rfl Try.underlying49 (.int .u64 0) 8 info60 rfl (by decide) (by omega) 0 (ok:=fun _=>True) (okp:=fun _=>True) rfl (fun _ hk=>hk) trivial (of_decide_eq_true (by first|(with_reducible assumption)|assumption)) (au (Nat.mul_le_mul_right _ (of_decide_eq_true (by first|(with_reducible assumption)|assumption) : (l1.length : Int).toNat≤35184372088832)) (by omega)) (Below.refl _ _) (aj _) ?_;intro E U ho21 hb hg_ hnew_;clear hg_ hnew_;(first|rw [← Ny456.out] at ho21|(simp only [Int.reduceToNat] at ho21;rw [← Ny456.out] at ho21));replace u:=ka (az (kr u.out) hb);have s:=ka (ay ho21 (ai (kw HB.out)));replace c:=kbb c hb;replace HB:=ka (al (kw HB.out) hb);clear hb ho21;refine hK.out _ _ trivial (fun hHeld=>?_);clear hK K;refine ao (a':=?_) ?_ ?_;rotate_left
             ·show Act.put _ (some 59) _ = _
              simp only [Act.put,ac,ad,ae,am,an]
              rfl
             exact ao (by first|(simp only [putAll,Act.put,ac,ad,ae];done)|(simp only [putAll,Act.put,ac,ad,ae];rfl)) (hJ2_5_6 (_,_,d) _ ⟨(kr u.out),(kr s.out),(kz c.out),z.out,y.out,(kw HB.out)⟩)
           ·skip
            rintro ⟨B,E⟩ U ⟨h0_,h1_,h2_⟩;have u : af (aC (ah .i64) 2 U w.heap.size (fun _=>True) B y453):=⟨h0_⟩
            have s : af (aC (ah .u64) 60 U w.heap.size (fun _=>True) E y456):=⟨h1_⟩
            replace HB : af (Below w.heap.size w U):=⟨h2_⟩
            clear h0_ h1_ h2_;have hHeld:=trivial;refine ao (a':=?_) ?_ ?_;rotate_left
            ·simp only [putAll,Act.put,ac,ad,ae]
             rfl
            refine one_ (i:=6) (N:=some 10) #[aa,aa,aa,aa,aa,aa,aa,ab,ab] rfl rfl (one_of HT_.out (by kernel_rfl)) (by decide) (fun K hK=>?_);refine box_step ?hg (N:=10) ?hd (cs:=#[.slice none 0 0]) (t:=49) ?hr ?_;(case hd=>rfl);(case hg=>rfl);(case hr=>first|(go_simp;done)|(go_simp;rfl));intro d hg O hbox hb;replace u:=ka (az (kr u.out) hb);replace s:=ka (az (kr s.out) hb);have c:=ka (hbox);have z:=ka ((by rw [hg];exact (ai (kw HB.out)) : w.heap.size≤d));have y:=ka ((by rw [hg];exact (ai (kw HB.out)) : w.heap.size≤d));replace HB:=ka (al (kw HB.out) hb);clear hb hbox hg;refine hK.out _ _ trivial (fun hHeld=>?_);clear hK K;refine ao (a':=?_) ?_ ?_;rotate_left
            ·show Act.put _ (some 10) _ = _
             simp only [Act.put,ac,ad,ae,am,an]
             rfl
            refine aD (i:=7) (N:=some 9) (v:=?_) (a':=?_) #[aa,aa,aa,aa,aa,aa,aa,aa,ab] rfl rfl (ax HT_.out (by kernel_rfl)) (fun _ _ _ h=>h) (Or.inl ⟨by rfl,?_⟩) ?_ ?_;rotate_left
            ·intro w';go_simp
             with_reducible rfl
            rotate_left
            ·simp only [Act.put,ac,ad,ae,am,an]
             rfl
            exact ao (by first|(simp only [putAll,Act.put,ac,ad,ae];done)|(simp only [putAll,Act.put,ac,ad,ae];rfl)) (hJ2_5_6 (_,_,d) _ ⟨(kr u.out),(kr s.out),(kz c.out),z.out,y.out,(kw HB.out)⟩)
          rintro ⟨B,E,d⟩ O ⟨h0_,h1_,h2_,h3_,h4_,h5_⟩;have u : af (aC (ah .i64) 2 O w.heap.size (fun _=>True) B y453):=⟨h0_⟩
          have s : af (aC (ah .u64) 60 O w.heap.size (fun _=>True) E y456):=⟨h1_⟩
          have c : af (O.heap[d]? = some (.cells #[.slice none 0 0] 49 (0,0))):=⟨h2_⟩
          have z : af (w.heap.size≤d):=⟨h3_⟩
          have y : af (w.heap.size≤d):=⟨h4_⟩
          replace HB : af (Below w.heap.size w O):=⟨h5_⟩
          clear h0_ h1_ h2_ h3_ h4_ h5_;have hHeld:=trivial;obtain ⟨V,W,a2⟩:=Kd.R_slice s.out;(first|subst a2|(injection a2 with f1_ f2_ f3_;have f4_:=f1_.symm;have f5_:=f3_.symm;clear f1_ f2_ f3_;subst f4_;subst f5_));refine ao (a':=?_) ?_ ?_;rotate_left
          ·simp only [putAll,Act.put,ac,ad,ae]
           rfl
          refine one_ (i:=8) (N:=none) #[aa,aa,aa,aa,aa,aa,aa,aa,aa] rfl rfl (one_of HT_.out (by kernel_rfl)) (by decide) (fun K hK=>?_);have hs23 : O.cell? ⟨d,0,none⟩ = some (.slice none 0 0):=(blk_cell c.out 0).trans rfl;have hfs23:=blk_frozen c.out 0;refine skip_ (w1:=?_) (by rfl) rfl ?_ ?_;rotate_left
          ·go_simp
           rfl
          refine hK.out _ _ trivial (fun hHeld=>?_);clear hK K;refine done_ (done_of HT_.out (by kernel_rfl)) ?_;try go_wp2
          (try simp only [Act.put,ac,ad,ae]);go_loopg [11,12,63] k2 (fun kq d2 d3 d4 w'=>∃ (x9_3 : List Int) (x11_3 : Int) (x12_3 : List Int) (x63_3 : Int) (l : List Int) (A : Value),d2 = .int .i64 x11_3∧d4 = .int .i64 x63_3∧af (split_Shares.l1 kq a0 x6_2 x9_3 x11_3 x12_3 l1 (l1.length : Int) x63_3 l = some (r1,r2))∧af (kq≤k2)∧af (aC (ah .i64) 2 w' w.heap.size (fun _=>True) B x9_3)∧af (aC (ah .i64) 3 w' w.heap.size (fun _=>True) d3 x12_3)∧af (aC (ah .u64) 60 w' w.heap.size (fun _=>True) A l)∧af (w'.heap[d]? = some (.cells #[A] 49 (0,0)))∧af (Below w.heap.size w w'))
          case atStart=>exact ⟨(y453),(a0),(([] : List Int)),(0),(y456),(.slice V y456.length W),(by first|rfl|(simp;done)|(simp [*];done)),(by first|rfl|(simp;done)|(simp [*];done)),H',⟨aj _⟩,⟨kr (aA (aw (p:=⟨d,0,none⟩) (aq u.out c.out (by decide)) (fun _ hk=>hk.2) (.slice V y456.length W)) (fun _ hk=>trivial))⟩,⟨by first|exact aM _ _ _ _ _|exact aN _ _ _ _ _|exact aQ _ _ _ _ _|exact aR _ _ _ _ _|exact aT _ _ _ _ _⟩,⟨kr (aA (aw (p:=⟨d,0,none⟩) (aq s.out c.out (by decide)) (fun _ hk=>hk.2) (.slice V y456.length W)) (fun _ hk=>trivial))⟩,⟨by (with_reducible repeat (first|apply kb1|apply kb2|apply kb3));refine blk_put (cs:=#[.slice none 0 0]) ?_ 0 _ rfl;(with_reducible repeat (first|apply kb1|apply kb2|apply kb3));exact c.out⟩,⟨by repeat (first|(with_reducible first|exact HB.out|apply kc1|apply kc2|apply kc3|refine kc4 ?_ y.out)|exact HB.out)⟩⟩
          case round=>
           clear H';try clear c1
           try clear c7
           try clear c7b0
           try clear c12
           try clear c12b0
           try clear c12b1
           try clear c13
           try clear c13b0
           try clear c13b1
           try clear c14
           try clear c14b0
           try clear c14b1
           obtain ⟨x9_3,x11_3,x12_3,x63_3,l,A,rfl,rfl,HA,HK3,x,r,q,c,HB⟩:=hrel;cases gk with
           | zero=>exact absurd HA.out (by simp [split_Shares.l1])
           | succ k3=>
            have H:=HA.out;clear HA;simp only [split_Shares.l1] at H
            by_cases c24 : x63_3 < (l1.length : Int)
            ·rw [if_pos c24] at H
             have c24b0 : decide (x63_3 < (l1.length : Int)) = true:=decide_eq_true c24;clear c24;by_cases c25 : 0≤x63_3
             ·rw [if_pos c25] at H
              have c25b0 : decide (0≤x63_3) = true:=decide_eq_true c25;clear c25;by_cases c26 : x63_3 < (l1.length : Int)
              ·rw [if_pos c26] at H
               have c26b0 : decide (x63_3 < (l1.length : Int)) = true:=decide_eq_true c26;clear c26;replace H:=aJ.mp H;obtain ⟨⟨Q,T⟩,a3,H⟩:=H;replace H : ((bits_Div64_s.f Q T x6_2).bind fun F=>(if x63_3 < (x9_3.length : Int) then (if x63_3 < (l.length : Int) then (if x12_3.length < 17592186044416 then (split_Shares.l1 k3 a0 x6_2 (x9_3.set (x63_3 : Int).toNat (wrap64 (F.1))) (wrap64 (x11_3 - (wrap64 (F.1)))) (x12_3 ++ [x63_3]) l1 (l1.length : Int) (wrap64 (x63_3 + 1)) (l.set (x63_3 : Int).toNat F.2)) else (none)) else (none)) else (none))) = some (r1,r2):=H;have d5:=ka a3;clear a3;replace H:=aJ.mp H;obtain ⟨⟨D,G⟩,a4,H⟩:=H;replace H : (if x63_3 < (x9_3.length : Int) then (if x63_3 < (l.length : Int) then (if x12_3.length < 17592186044416 then (split_Shares.l1 k3 a0 x6_2 (x9_3.set (x63_3 : Int).toNat (wrap64 (D))) (wrap64 (x11_3 - (wrap64 (D)))) (x12_3 ++ [x63_3]) l1 (l1.length : Int) (wrap64 (x63_3 + 1)) (l.set (x63_3 : Int).toNat G)) else (none)) else (none)) else (none)) = some (r1,r2):=H;have d6:=ka a4;clear a4;by_cases c29 : x63_3 < (x9_3.length : Int)
               ·rw [if_pos c29] at H
                have c29b0 : decide (x63_3 < (x9_3.length : Int)) = true:=decide_eq_true c29;clear c29;obtain ⟨y465,hy465⟩ : ∃ y_ : List Int,y_ = (x9_3.set (x63_3 : Int).toNat (wrap64 (D))):=⟨_,rfl⟩
                replace H : (if x63_3 < (l.length : Int) then (if x12_3.length < 17592186044416 then (split_Shares.l1 k3 a0 x6_2 y465 (wrap64 (x11_3 - (wrap64 (D)))) (x12_3 ++ [x63_3]) l1 (l1.length : Int) (wrap64 (x63_3 + 1)) (l.set (x63_3 : Int).toNat G)) else (none)) else (none)) = some (r1,r2):=by first|(rw [hy465];with_reducible exact H)|(have H2_:=(ag _ _).symm.trans H;rw [hy465];with_reducible exact H2_)|(have H2_:=(ag _ _).symm.trans H;with_reducible exact H2_)|with_reducible exact H|(rw [hy465];exact H)|exact H
                have Ny465:=ka hy465;clear hy465;by_cases c31 : x63_3 < (l.length : Int)
                ·rw [if_pos c31] at H
                 have c31b0 : decide (x63_3 < (l.length : Int)) = true:=decide_eq_true c31;clear c31;obtain ⟨y466,hy466⟩ : ∃ y_ : List Int,y_ = (l.set (x63_3 : Int).toNat G):=⟨_,rfl⟩
                 replace H : (if x12_3.length < 17592186044416 then (split_Shares.l1 k3 a0 x6_2 y465 (wrap64 (x11_3 - (wrap64 (D)))) (x12_3 ++ [x63_3]) l1 (l1.length : Int) (wrap64 (x63_3 + 1)) y466) else (none)) = some (r1,r2):=by first|(rw [hy466];with_reducible exact H)|(have H2_:=(ag _ _).symm.trans H;rw [hy466];with_reducible exact H2_)|(have H2_:=(ag _ _).symm.trans H;with_reducible exact H2_)|with_reducible exact H|(rw [hy466];exact H)|exact H
                 have Ny466:=ka hy466;clear hy466;by_cases c33 : x12_3.length < 17592186044416
                 ·rw [if_pos c33] at H
                  have LMc33:=ka c33;clear c33;obtain ⟨y467,hy467⟩ : ∃ y_ : List Int,y_ = (x12_3 ++ [x63_3]):=⟨_,rfl⟩
                  replace H : (split_Shares.l1 k3 a0 x6_2 y465 (wrap64 (x11_3 - (wrap64 (D)))) y467 l1 (l1.length : Int) (wrap64 (x63_3 + 1)) y466) = some (r1,r2):=by first|(rw [hy467];with_reducible exact H)|(have H2_:=(ag _ _).symm.trans H;rw [hy467];with_reducible exact H2_)|(have H2_:=(ag _ _).symm.trans H;with_reducible exact H2_)|with_reducible exact H|(rw [hy467];exact H)|exact H
                  have Ny467:=ka hy467;clear hy467;have H':=ka H;clear H;have p460 : 0≤(x63_3 : Int):=of_decide_eq_true (by first|(with_reducible assumption)|assumption);have q460 : x63_3 < (l1.length : Int):=of_decide_eq_true (by first|(with_reducible assumption)|assumption);obtain ⟨ad460,e460,hx460_0⟩:=aI HR1.out x63_3 p460 q460;cases e460
                  replace hx460_0:=(HB.out.cell (ar w _ hx460_0)).trans hx460_0;replace p460:=eq_true p460;replace q460:=eq_true q460;try go_wp2_with (first|((with_reducible refine gate_callee (f:=32) rfl ?_);refine kg (some 73) rfl rfl Try.func32 (by kernel_rfl) rfl #[.int .u64 (ap.wrap (a0)),.int .u64 (ap.wrap (rd l1 x63_3))] rfl ?_;(with_reducible refine (bits_Mul64_s.calls (ap.wrap (a0)) (ap.wrap (rd l1 x63_3)) Q T _ d5.out).mono ?_);rintro e w' ⟨rfl,⟨nd,rfl⟩⟩;refine ⟨_,rfl,?_⟩;(try (rw [drewN_self wr];generalize hq_ : World.drewN wr _ = wr;replace r : af (aC (ah .i64) 3 wr w.heap.size (fun _=>True) u12 x12_3):=⟨by rw [← hq_];exact (kr r.out)⟩;replace q : af (aC (ah .u64) 60 wr w.heap.size (fun _=>True) A l):=⟨by rw [← hq_];exact (kr q.out)⟩;replace x : af (aC (ah .i64) 2 wr w.heap.size (fun _=>True) B x9_3):=⟨by rw [← hq_];exact (kr x.out)⟩;replace c : af (wr.heap[d]? = some (.cells #[A] 49 (0,0))):=⟨by rw [← hq_];exact (kz c.out)⟩;replace HB : af (Below w.heap.size w wr):=⟨by rw [← hq_];exact (kw HB.out)⟩;clear hq_)))|((with_reducible refine gate_callee (f:=33) rfl ?_);refine kg (some 80) rfl rfl Try.func33 (by kernel_rfl) rfl #[.int .u64 Q,.int .u64 T,.int .u64 x6_2] rfl ?_;(with_reducible refine (bits_Div64_s.calls Q T x6_2 D G _ d6.out).mono ?_);rintro e w' ⟨rfl,⟨nd,rfl⟩⟩;refine ⟨_,rfl,?_⟩;(try (rw [drewN_self wr];generalize hq_ : World.drewN wr _ = wr;replace r : af (aC (ah .i64) 3 wr w.heap.size (fun _=>True) u12 x12_3):=⟨by rw [← hq_];exact (kr r.out)⟩;replace q : af (aC (ah .u64) 60 wr w.heap.size (fun _=>True) A l):=⟨by rw [← hq_];exact (kr q.out)⟩;replace x : af (aC (ah .i64) 2 wr w.heap.size (fun _=>True) B x9_3):=⟨by rw [← hq_];exact (kr x.out)⟩;replace c : af (wr.heap[d]? = some (.cells #[A] 49 (0,0))):=⟨by rw [← hq_];exact (kz c.out)⟩;replace HB : af (Below w.heap.size w wr):=⟨by rw [← hq_];exact (kw HB.out)⟩;clear hq_))))
                  replace x:=ka (aK x.out);replace r:=ka (aK r.out);replace q:=ka (aK q.out);replace c:=ka (blk_drew c.out);replace HB:=ka (below_drew1 HB.out);have p30 : 0≤(x63_3 : Int):=of_decide_eq_true (by first|(with_reducible assumption)|assumption);have q30 : (x63_3 : Int) < ((x9_3.length : Int) : Int):=of_decide_eq_true (by first|(with_reducible assumption)|assumption);obtain ⟨go30,e0,a5,a6,gl30,cl30,HG30⟩:=aV x.out (by omega);(first|cases a5|(injection a5 with ea_ en_ ec_;(first|subst ea_|(injection ea_ with ea_;subst ea_));subst ec_;clear en_));have GB30:=ka a6;have GG30:=ka HG30;clear a6 gl30 HG30;obtain ⟨hx30_0,hf30_0⟩:=Kd.R_celln 0 x.out (x63_3 : Int) p30 q30;replace p30:=eq_true p30;replace q30:=eq_true q30;have HP35:=Kd.R_putn x.out (x63_3 : Int) (wrap64 (D));rw [← Ny465.out] at HP35
                  have HQ35:=ka HP35;clear HP35;have p32 : 0≤(x63_3 : Int):=of_decide_eq_true (by first|(with_reducible assumption)|assumption);have q32 : (x63_3 : Int) < ((l.length : Int) : Int):=of_decide_eq_true (by first|(with_reducible assumption)|assumption);obtain ⟨go32,X,a7,a8,gl32,cl32,HG32⟩:=aV q.out (by omega);(first|cases a7|(injection a7 with ea_ en_ ec_;(first|subst ea_|(injection ea_ with ea_;subst ea_));subst ec_;clear en_));have GB32:=ka a8;have GG32:=ka HG32;clear a8 gl32 HG32;obtain ⟨hx32_0,hf32_0⟩:=Kd.R_celln 0 (aw (p:=⟨go30,(x63_3 : Int).toNat,none⟩) (aq q.out GG30.out (by decide)) (fun _ hk=>hk.2) (.int .i64 (wrap64 (D)))) (x63_3 : Int) p32 q32;replace p32:=eq_true p32;replace q32:=eq_true q32;have HP36:=Kd.R_putn (aw (p:=⟨go30,(x63_3 : Int).toNat,none⟩) (aq q.out GG30.out (by decide)) (fun _ hk=>hk.2) (.int .i64 (wrap64 (D)))) (x63_3 : Int) G;rw [← Ny466.out] at HP36
                  have HQ36:=ka HP36;clear HP36;refine start_ (n:=11) (S:=fun w'=>w'.cell? ⟨d,0,none⟩ = some (.slice (some ⟨go32,0,none⟩) l.length X)) (ds:=[10]) #[ab,ab,ab,ab,ab,ab,ab,ab,ab,ab,ab] (by kernel_rfl) rfl rfl ((blk_cell c.out 0).trans rfl) (fun hHeld=>?_);refine with_tabW split_Shares.tab21 split_Shares.bits21 (fun HT_ HW_=>?_);generalize wr.drew = e6 at x r q c HB GG30 GG32 HQ35 HQ36 hf30_0 hf32_0 hx30_0 hx32_0 hHeld ⊢;refine aD (i:=0) (N:=some 83) (v:=?_) (a':=?_) #[aa,ab,ab,ab,ab,ab,ab,ab,ab,ab,ab] rfl rfl (ax HT_.out (by kernel_rfl)) (fun _ _ _ h=>h) (Or.inl ⟨by rfl,?_⟩) ?_ ?_;rotate_left
                  ·intro w';go_simp
                   with_reducible rfl
                  rotate_left
                  ·simp only [Act.put,ac,ad,ae,am,an]
                   rfl
                  refine aD (i:=1) (N:=some 84) (v:=?_) (a':=?_) #[aa,aa,ab,ab,ab,ab,ab,ab,ab,ab,ab] rfl rfl (ax HT_.out (by kernel_rfl)) (fun _ _ _ h=>h) (Or.inl ⟨by rfl,?_⟩) ?_ ?_;rotate_left
                  ·intro w';go_simp
                   with_reducible rfl
                  rotate_left
                  ·simp only [Act.put,ac,ad,ae,am,an]
                   rfl
                  refine aD (i:=3) (N:=some 86) (v:=?_) (a':=?_) #[aa,aa,ab,aa,ab,ab,ab,ab,ab,ab,ab] rfl rfl (ax HT_.out (by kernel_rfl)) (fun _ _ _ h=>h) (Or.inl ⟨by rfl,?_⟩) ?_ ?_;rotate_left
                  ·intro w';go_simp
                   with_reducible rfl
                  rotate_left
                  ·simp only [Act.put,ac,ad,ae,am,an]
                   rfl
                  refine aD (i:=4) (N:=some 87) (v:=?_) (a':=?_) #[aa,aa,ab,aa,aa,ab,ab,ab,ab,ab,ab] rfl rfl (ax HT_.out (by kernel_rfl)) (fun _ _ _ h=>h) (Or.inl ⟨by rfl,?_⟩) ?_ ?_;rotate_left
                  ·intro w';go_simp
                   with_reducible rfl
                  rotate_left
                  ·simp only [Act.put,ac,ad,ae,am,an]
                   rfl
                  refine aD (i:=5) (N:=some 88) (v:=?_) (a':=?_) #[aa,aa,ab,aa,aa,aa,ab,ab,ab,ab,ab] rfl rfl (ax HT_.out (by kernel_rfl)) (fun _ _ _ h=>h) (Or.inl ⟨by rfl,?_⟩) ?_ ?_;rotate_left
                  ·intro w';go_simp
                   with_reducible rfl
                  rotate_left
                  ·simp only [Act.put,ac,ad,ae,am,an]
                   rfl
                  refine aD (i:=6) (N:=some 89) (v:=?_) (a':=?_) #[aa,aa,ab,aa,aa,aa,aa,ab,ab,ab,ab] rfl rfl (ax HT_.out (by kernel_rfl)) (fun _ _ _ h=>h) (Or.inl ⟨by rfl,?_⟩) ?_ ?_;rotate_left
                  ·intro w';go_simp
                   with_reducible rfl
                  rotate_left
                  ·simp only [Act.put,ac,ad,ae,am,an]
                   rfl
                  refine aD (i:=7) (N:=some 90) (v:=?_) (a':=?_) #[aa,aa,ab,aa,aa,aa,aa,aa,ab,ab,ab] rfl rfl (ax HT_.out (by kernel_rfl)) (fun _ _ _ h=>h) (Or.inl ⟨by rfl,?_⟩) ?_ ?_;rotate_left
                  ·intro w';go_simp
                   with_reducible rfl
                  rotate_left
                  ·simp only [Act.put,ac,ad,ae,am,an]
                   rfl
                  refine take_ (i:=2) (N:=some 85) (v:=?_) (a':=?_) #[aa,aa,aa,aa,aa,aa,aa,aa,ab,ab,ab] rfl rfl (take_ofW HT_.out HW_.out (by kernel_rfl)) (fun _ _ _ h=>h) (Or.inl ⟨by rfl,?_⟩) hHeld ?_ ?_;rotate_left
                  ·intro w' s0;go_simp
                   with_reducible rfl
                  rotate_left
                  ·simp only [Act.put,ac,ad,ae,am,an]
                   rfl
                  refine one_ (i:=8) (N:=none) #[aa,aa,aa,aa,aa,aa,aa,aa,aa,ab,ab] rfl rfl (one_of HT_.out (by kernel_rfl)) (by decide) (fun K hK=>?_);refine skip_ (w1:=?_) (by rfl) rfl ?_ ?_;rotate_left
                  ·go_simp
                   rfl
                  refine hK.out _ _ (((cell_far (p:=⟨go30,_,none⟩) (fun e_=>aU x.out c.out (by decide) (congrArg some e_)) _).trans (hHeld))) (fun hHeld=>?_);clear hK K;refine aD (i:=9) (N:=some 91) (v:=?_) (a':=?_) #[aa,aa,aa,aa,aa,aa,aa,aa,aa,aa,ab] rfl rfl (ax HT_.out (by kernel_rfl)) (fun _ _ _ h=>h) (Or.inl ⟨by rfl,?_⟩) ?_ ?_;rotate_left
                  ·intro w';go_simp
                   with_reducible rfl
                  rotate_left
                  ·simp only [Act.put,ac,ad,ae,am,an]
                   rfl
                  refine last_ (i:=10) (N:=none) #[aa,aa,aa,aa,aa,aa,aa,aa,aa,aa,aa] rfl rfl (one_of HT_.out (by kernel_rfl)) (by decide) (fun K hK=>?_);refine skip_ (w1:=?_) (by rfl) rfl ?_ ?_;rotate_left
                  ·go_simp
                   rfl
                  refine hK.out _ _ ?_;clear hK K;refine done_ (done_of HT_.out (by kernel_rfl)) ?_;try go_wp2_with (first|((with_reducible refine gate_builtin (b:=.append) (xs:=#[.tmp 96,.tmp 98]) rfl ?_);(try (refine gate_guard (by rfl) ?_;dsimp only));at_builtin;refine Kd.R_append (ah .i64) (w0:=w) w.heap.size rfl (.tmp 96) (.tmp 98) 68 3 (.int .i64 0) 8 rfl Try.underlying68 info3 rfl (by decide) (by omega) u12 x12_3 x63_3 [.int .i64 x63_3] (fun _=>True) (fun _=>False) rfl (by first|(go_simp;done)|(go_simp;rfl)) ?aP (fun _ hk=>hk.elim) ?aF ?aO ?aB ?aS ?aL ?_;(case aP=>exact rfl);(case aB=>exact (by repeat (first|(with_reducible first|exact HB.out|apply kc1|apply kc2|apply kc3|refine kc4 ?_ GB30.out|refine kc4 ?_ GB32.out|refine kc4 ?_ y.out)|exact HB.out)));(case aF=>exact (fun _ _=>trivial));(case aO=>exact (kr (aA (aw (p:=⟨go32,(x63_3 : Int).toNat,none⟩) (aw (p:=⟨go30,(x63_3 : Int).toNat,none⟩) (aq (aq r.out GG30.out (by decide)) GG32.out (by decide)) (fun _ hk=>hk.1.2) (.int .i64 (wrap64 (D)))) (fun _ hk=>hk.2) (.int .u64 G)) (fun _ hk=>trivial))));(case aS=>exact (ai (by repeat (first|(with_reducible first|exact HB.out|apply kc1|apply kc2|apply kc3|refine kc4 ?_ GB30.out|refine kc4 ?_ GB32.out|refine kc4 ?_ y.out)|exact HB.out))));(case aL=>have:=LMc33.out;omega);intro e1 e7 ho hb hg hat;rw [← Ny467.out] at ho;replace c:=ka (blk_grown (g:=d) (o:=.cells #[.slice (some ⟨go32,0,none⟩) l.length X] 49 (0,0)) (by (with_reducible repeat (first|apply kb1|apply kb2|apply kb3));refine kb4 ?_ (by have h_:=aU q.out c.out (by decide);intro e_;exact h_ (by rw [e_];rfl)) _;(with_reducible repeat (first|apply kb1|apply kb2|apply kb3));refine kb4 ?_ (by have h_:=aU x.out c.out (by decide);intro e_;exact h_ (by rw [e_];rfl)) _;(with_reducible repeat (first|apply kb1|apply kb2|apply kb3));exact c.out) hg (aU r.out c.out (by decide)));replace x:=ka (aE (kr ((aA (aw (p:=⟨go32,(x63_3 : Int).toNat,none⟩) (aq HQ35.out (blk_far GG32.out (knt GG32.out GG30.out (by decide)) _) (by decide)) (fun _ hk=>hk.2) (.int .u64 G)) (fun _ h_=>h_.1)))) (aG (kr ((aA (aA (aw (p:=⟨go32,(x63_3 : Int).toNat,none⟩) (aw (p:=⟨go30,(x63_3 : Int).toNat,none⟩) (aq (aq r.out GG30.out (by decide)) GG32.out (by decide)) (fun _ hk=>hk.1.2) (.int .i64 (wrap64 (D)))) (fun _ hk=>hk.2) (.int .u64 G)) (fun _ h_=>h_.1)) (fun _ h_=>h_.1))))) (by decide) hg);replace q:=ka (aE (kr ((aA HQ36.out (fun _ h_=>h_.1)))) (aG (kr ((aA (aA (aw (p:=⟨go32,(x63_3 : Int).toNat,none⟩) (aw (p:=⟨go30,(x63_3 : Int).toNat,none⟩) (aq (aq r.out GG30.out (by decide)) GG32.out (by decide)) (fun _ hk=>hk.1.2) (.int .i64 (wrap64 (D)))) (fun _ hk=>hk.2) (.int .u64 G)) (fun _ h_=>h_.1)) (fun _ h_=>h_.1))))) (by decide) hg);replace HB:=ka (hb);have b4:=ka (ho);clear r;clear ho hb hg hat))
                  go_roundg k3
                  case measure=>have:=M.out;have:=HK2.out;have:=HK3.out;omega
                  case rel=>exact ⟨(y465),(wrap64 (x11_3 - (wrap64 (D)))),(y467),(wrap64 (x63_3 + 1)),(y466),(.slice (some ⟨go32,0,none⟩) l.length X),(by first|rfl|(simp;done)|(simp [*];done)),(by first|rfl|(simp;done)|(simp [*];done)),H',⟨by have:=M.out;have:=HK2.out;have:=HK3.out;omega⟩,⟨kr x.out⟩,⟨kr b4.out⟩,⟨kr q.out⟩,⟨by (with_reducible repeat (first|apply kb1|apply kb2|apply kb3));exact c.out⟩,⟨by repeat (first|(with_reducible first|exact HB.out|apply kc1|apply kc2|apply kc3|refine kc4 ?_ y.out)|exact HB.out)⟩⟩
                 ·rw [if_neg c33] at H
                  exact absurd H (by simp)
                ·rw [if_neg c31] at H
                 exact absurd H (by simp)
               ·rw [if_neg c29] at H
                exact absurd H (by simp)
              ·rw [if_neg c26] at H
               exact absurd H (by simp)
             ·rw [if_neg c25] at H
              exact absurd H (by simp)
            ·rw [if_neg c24] at H
             have c24b0 : decide (x63_3 < (l1.length : Int)) = false:=decide_eq_false c24;clear c24;by_cases c38 : Srt.ok l x12_3 = true
             ·rw [if_pos c38] at H
              have LMc38:=ka c38;clear c38;obtain ⟨y470,hy470⟩ : ∃ y_ : List Int,y_ = (Srt.srt l x12_3):=⟨_,rfl⟩
              replace H : (if 0≤x11_3 then (if x11_3≤(x12_3.length : Int) then ((some (y470.take (x11_3 : Int).toNat : List Int)).bind fun y471=>(split_Shares.l2 k3 x9_3 y471 (y471.length : Int) 0)) else (none)) else (none)) = some (r1,r2):=by first|(rw [hy470];with_reducible exact H)|(have H2_:=(ag _ _).symm.trans H;rw [hy470];with_reducible exact H2_)|(have H2_:=(ag _ _).symm.trans H;with_reducible exact H2_)|with_reducible exact H|(rw [hy470];exact H)|exact H
              have Ny470:=ka hy470;clear hy470;by_cases c39 : 0≤x11_3
              ·rw [if_pos c39] at H
               have c39b0:=eq_true c39;have c39b1 : decide (0≤x11_3) = true:=decide_eq_true c39;clear c39;by_cases c40 : x11_3≤(x12_3.length : Int)
               ·rw [if_pos c40] at H
                have c40b0:=eq_true c40;have c40b1 : decide (x11_3≤(x12_3.length : Int)) = true:=decide_eq_true c40;clear c40;obtain ⟨y471,hy471⟩ : ∃ y_ : List Int,y_ = (y470.take (x11_3 : Int).toNat):=⟨_,rfl⟩
                replace H : (split_Shares.l2 k3 x9_3 y471 (y471.length : Int) 0) = some (r1,r2):=by first|(rw [hy471];with_reducible exact H)|(have H2_:=(ag _ _).symm.trans H;rw [hy471];with_reducible exact H2_)|(have H2_:=(ag _ _).symm.trans H;with_reducible exact H2_)|with_reducible exact H|(rw [hy471];exact H)|exact H
                have Ny471:=ka hy471;clear hy471;have H':=ka H;clear H;obtain ⟨go42,I,a9,b0,gl42,cl42,HG42⟩:=aV r.out (by have h_:=(show Srt.Ok l x12_3 from of_decide_eq_true LMc38.out).2.1;omega);(first|cases a9|(injection a9 with ea_ en_ ec_;(first|subst ea_|(injection ea_ with ea_;subst ea_));subst ec_;clear en_));have GB42:=ka b0;have GG42:=ka HG42;clear b0 gl42 HG42;go_wp2_with (first|((with_reducible refine gate_callee (f:=36) rfl ?_);refine kg (some 103) rfl rfl Try.func36 (by kernel_rfl) rfl #[.slice (some ⟨go42,0,none⟩) x12_3.length I,.func (.func 37) #[] #[.pointer (some ⟨d,0,none⟩)]] rfl ?_;(with_reducible refine (Srt.calls _ _ _ x12_3 d ?sV l ?sBase ?sOk ?sOkr _ ?sideO ?sideB ?sideR ?sideK).mono ?_);(case sideO=>exact by (with_reducible repeat (first|apply Kd.R_alloc|apply Kd.R_drewN|apply aK));exact r.out);(case sideB=>exact by (with_reducible repeat (first|apply kb1|apply kb2|apply kb3));exact c.out);(case sideR=>exact by (with_reducible repeat (first|apply Kd.R_alloc|apply Kd.R_drewN|apply aK));exact q.out);(case sideK=>first|(with_reducible exact of_decide_eq_true (af.out (by assumption)))|exact of_decide_eq_true (af.out (by assumption)));rintro e d7 ⟨rfl,hp0_,hg⟩;refine ⟨_,rfl,?_⟩;have hp_ : aC (ah .i64) 3 d7 w.heap.size (fun _=>True) (.slice (some ⟨go42,0,none⟩) x12_3.length I) y470:=(by rw [Ny470.out];exact hp0_);clear hp0_;replace x:=ka (aE (v:=(.slice (some ⟨go42,0,none⟩) x12_3.length I)) (kr x.out) (aG (kr r.out)) (by decide) hg);replace q:=ka (aE (v:=(.slice (some ⟨go42,0,none⟩) x12_3.length I)) (kr q.out) (aG (kr r.out)) (by decide) hg);replace c:=ka (blk_grown (g:=d) (kz c.out) hg (aU r.out c.out (by decide)));replace r:=ka (hp_);replace HB:=ka ((Below.grown (kw HB.out) hg (ai (kw HB.out)) (fun k_ e_=>by cases e_;exact GB42.out)));clear hg hp_;have hlx43:=(aH r.out).1;have q43 : (x11_3 : Int)≤((x12_3.length : Int) : Int):=of_decide_eq_true (by first|(with_reducible assumption)|assumption);obtain ⟨i043,hi043,_,hsz43,_⟩:=info_parts info3;have hroom43 : x12_3.length≤I:=(aH r.out).2.1;have hroomc43 : y470.length≤I:=(by rw [← hlx43];exact hroom43);have hC43 : Kd.C (ah .i64) _ (some ⟨go42,0,none⟩) y470.length y470:=(aH r.out).2.2;have hcut43:=cut_to (P:=Try.prog) 68 3 .i64 Try.underlying68 hi043 (some ⟨go42,0,none⟩) x12_3.length I x11_3 (of_decide_eq_true (by first|(with_reducible assumption)|assumption)) q43 hroom43;have hr43:=Kd.C_take (m:=(x11_3 : Int).toNat) hC43 (by omega);have hy43 : y471.length = (x11_3 : Int).toNat:=(by rw [Ny471.out,List.length_take];omega);rw [← Ny471.out] at hr43;rw [← hy43] at hcut43;have HR474:=ka hr43;have d8:=ka (show y471.length≤I from by omega);clear hr43 hC43 hroom43 hi043 hsz43 hroomc43;have KY43:=ka hy43;clear hy43;have KE43:=ka hlx43;have KL43:=ka (show (x11_3 : Int).toNat≤y470.length from by omega);clear hlx43;replace q43:=eq_true q43))
                (try simp only [Act.put,ac,ad,ae]);go_loopg [108] k3 (fun kq b8 w'=>∃ (x9_4 : List Int) (x108_4 : Int),b8 = .int .i64 x108_4∧af (split_Shares.l2 kq x9_4 y471 (y471.length : Int) x108_4 = some (r1,r2))∧af (kq≤k3)∧af (aC (ah .i64) 2 w' w.heap.size (fun _=>True) B x9_4)∧af (aC (ah .i64) 3 w' w.heap.size (fun _=>True) (.slice (some ⟨go42,0,none⟩) x12_3.length I) y470)∧af (aC (ah .u64) 60 w' w.heap.size (fun _=>True) A l)∧af (w'.heap[d]? = some (.cells #[A] 49 (0,0)))∧af (Below w.heap.size w w'))
                case atStart=>exact ⟨(x9_3),(0),(by first|rfl|(simp;done)|(simp [*];done)),H',⟨aj _⟩,⟨kr x.out⟩,⟨kr r.out⟩,⟨kr q.out⟩,⟨by (with_reducible repeat (first|apply kb1|apply kb2|apply kb3));exact c.out⟩,⟨by repeat (first|(with_reducible first|exact HB.out|apply kc1|apply kc2|apply kc3|refine kc4 ?_ y.out)|exact HB.out)⟩⟩
                case round=>
                 clear H';try clear c1
                 try clear c7
                 try clear c7b0
                 try clear c12
                 try clear c12b0
                 try clear c12b1
                 try clear c13
                 try clear c13b0
                 try clear c13b1
                 try clear c14
                 try clear c14b0
                 try clear c14b1
                 try clear c24
                 try clear c24b0
                 try clear c38
                 try clear c39
                 try clear c39b0
                 try clear c39b1
                 try clear c40
                 try clear c40b0
                 try clear c40b1
                 try clear q43
                 try clear q43
                 obtain ⟨x9_4,x108_4,rfl,HA,HK4,x,r,q,c,HB⟩:=hrel;cases gk with
                 | zero=>exact absurd HA.out (by simp [split_Shares.l2])
                 | succ k4=>
                  have H:=HA.out;clear HA;simp only [split_Shares.l2] at H
                  by_cases c44 : x108_4 < (y471.length : Int)
                  ·rw [if_pos c44] at H
                   have c44b0 : decide (x108_4 < (y471.length : Int)) = true:=decide_eq_true c44;clear c44;by_cases c45 : 0≤x108_4
                   ·rw [if_pos c45] at H
                    have c45b0 : decide (0≤x108_4) = true:=decide_eq_true c45;clear c45;by_cases c46 : x108_4 < (y471.length : Int)
                    ·rw [if_pos c46] at H
                     have c46b0 : decide (x108_4 < (y471.length : Int)) = true:=decide_eq_true c46;clear c46;by_cases c47 : 0≤(rd y471 x108_4)
                     ·rw [if_pos c47] at H
                      have c47b0 : decide (0≤(rd y471 x108_4)) = true:=decide_eq_true c47;clear c47;by_cases c48 : (rd y471 x108_4) < (x9_4.length : Int)
                      ·rw [if_pos c48] at H
                       have c48b0 : decide ((rd y471 x108_4) < (x9_4.length : Int)) = true:=decide_eq_true c48;clear c48;obtain ⟨y477,hy477⟩ : ∃ y_ : List Int,y_ = (x9_4.set ((rd y471 x108_4) : Int).toNat (wrap64 ((rd x9_4 (rd y471 x108_4)) + 1))):=⟨_,rfl⟩
                       replace H : (split_Shares.l2 k4 y477 y471 (y471.length : Int) (wrap64 (x108_4 + 1))) = some (r1,r2):=by first|(rw [hy477];with_reducible exact H)|(have H2_:=(ag _ _).symm.trans H;rw [hy477];with_reducible exact H2_)|(have H2_:=(ag _ _).symm.trans H;with_reducible exact H2_)|with_reducible exact H|(rw [hy477];exact H)|exact H
                       have Ny477:=ka hy477;clear hy477;have H':=ka H;clear H;have p475 : 0≤(x108_4 : Int):=of_decide_eq_true (by first|(with_reducible assumption)|assumption);have q475 : x108_4 < (y471.length : Int):=of_decide_eq_true (by first|(with_reducible assumption)|assumption);obtain ⟨ad475,e475,hx475_0⟩:=aI (show Kd.C (ah .i64) wr (some ⟨go42,0,none⟩) _ _ from (by have h1_:=Kd.C_take (m:=(x11_3 : Int).toNat) (aH r.out).2.2 (by have:=KL43.out;omega);rw [← Ny471.out] at h1_;exact h1_)) x108_4 p475 q475;obtain rfl : ⟨go42,0,none⟩ = ad475:=(by injection e475)
                       (first|simp only [add_plain] at hx475_0|skip);replace p475:=eq_true p475;replace q475:=eq_true q475;obtain ⟨e2,Y,b9⟩:=Kd.R_slice x.out;subst b9;have p476 : 0≤((rd y471 x108_4) : Int):=of_decide_eq_true (by first|(with_reducible assumption)|assumption);have q476 : (rd y471 x108_4) < (x9_4.length : Int):=of_decide_eq_true (by first|(with_reducible assumption)|assumption);obtain ⟨ad476,e476,hx476_0⟩:=aI (aH x.out).2.2 (rd y471 x108_4) p476 q476;cases e476
                       replace p476:=eq_true p476;replace q476:=eq_true q476;have p49 : 0≤((rd y471 x108_4) : Int):=of_decide_eq_true (by first|(with_reducible assumption)|assumption);have q49 : ((rd y471 x108_4) : Int) < ((x9_4.length : Int) : Int):=of_decide_eq_true (by first|(with_reducible assumption)|assumption);obtain ⟨go49,e3,b1,b2,gl49,cl49,HG49⟩:=aV x.out (by omega);(first|cases b1|(injection b1 with ea_ en_ ec_;(first|subst ea_|(injection ea_ with ea_;subst ea_));subst ec_;clear en_));have GB49:=ka b2;have GG49:=ka HG49;clear b2 gl49 HG49;(first|simp only [add_plain] at hx476_0|skip);obtain ⟨hx49_0,hf49_0⟩:=Kd.R_celln 0 x.out ((rd y471 x108_4) : Int) p49 q49;replace p49:=eq_true p49;replace q49:=eq_true q49;have HP51:=Kd.R_putg x.out ((rd y471 x108_4) : Int) (wrap64 ((rd x9_4 (rd y471 x108_4)) + 1));go_wp2_with (first|((with_reducible refine gate_store (t:=2) (p:=117) rfl ?_);refine store_event (t:=2) (p:=117) (v:=?vo_w52) (w1:=(wr.setCell ⟨go49,((rd y471 x108_4) : Int).toNat,none⟩ (.int .i64 (wrap64 ((rd x9_4 (rd y471 x108_4)) + 1))))) ?hg ?ho ?hn ?hr ?_;(case ho=>rfl);(case hg=>rfl);(case hn=>rfl);(case hr=>first|(go_simp;done)|(go_simp;rfl));intro b3 hw;have hg : wr.grownBy b3 (some go49):=(by rw [hw];exact HP51.2);have hp_ : aC (ah .i64) 2 b3 w.heap.size (fun _=>True) (.slice (some ⟨go49,0,none⟩) x9_4.length Y) y477:=(by rw [hw,Ny477.out];exact HP51.1);clear HP51;replace r:=ka (aE (v:=(.slice (some ⟨go49,0,none⟩) x9_4.length Y)) (kr r.out) (aG x.out) (by decide) hg);replace q:=ka (aE (v:=(.slice (some ⟨go49,0,none⟩) x9_4.length Y)) (kr q.out) (aG x.out) (by decide) hg);replace c:=ka (blk_grown (g:=d) (kz c.out) hg (aU x.out c.out (by decide)));replace x:=ka (hp_);replace HB:=ka ((by rw [hw];exact below_set (HB.out) GB49.out : Below w.heap.size w b3));clear hg hw hp_))
                       go_roundg k4
                       case measure=>have:=M.out;have:=HK2.out;have:=HK3.out;have:=HK4.out;omega
                       case rel=>exact ⟨(y477),(wrap64 (x108_4 + 1)),(by first|rfl|(simp;done)|(simp [*];done)),H',⟨by have:=M.out;have:=HK2.out;have:=HK3.out;have:=HK4.out;omega⟩,⟨kr x.out⟩,⟨kr r.out⟩,⟨kr q.out⟩,⟨by (with_reducible repeat (first|apply kb1|apply kb2|apply kb3));exact c.out⟩,⟨by repeat (first|(with_reducible first|exact HB.out|apply kc1|apply kc2|apply kc3|refine kc4 ?_ y.out)|exact HB.out)⟩⟩
                      ·rw [if_neg c48] at H
                       exact absurd H (by simp)
                     ·rw [if_neg c47] at H
                      exact absurd H (by simp)
                    ·rw [if_neg c46] at H
                     exact absurd H (by simp)
                   ·rw [if_neg c45] at H
                    exact absurd H (by simp)
                  ·rw [if_neg c44] at H
                   have c44b0 : decide (x108_4 < (y471.length : Int)) = false:=decide_eq_false c44;clear c44;simp only [av,Prod.mk.injEq] at H
                   obtain ⟨rfl,rfl⟩:=H;go_wp2
                   go_ret2
                   exact ⟨_,by first|rfl|(simp [errW_none,errW_some] <;> rfl)|(simp [*,errW_none,errW_some] <;> rfl),by (with_reducible repeat (first|apply Kd.R_alloc|apply Kd.R_drewN|apply aK));exact x.out,by repeat (first|(with_reducible first|exact HB.out|apply kc1|apply kc2|apply kc3|refine kc4 ?_ y.out)|exact HB.out)⟩
               ·rw [if_neg c40] at H
                exact absurd H (by simp)
              ·rw [if_neg c39] at H
               exact absurd H (by simp)
             ·rw [if_neg c38] at H
              exact absurd H (by simp)
         ·rw [if_neg c14] at H
          exact absurd H (by simp)
        ·rw [if_neg c13] at H
         exact absurd H (by simp)
end Go.Proofs.Ytghimjkoaldafaa.P
