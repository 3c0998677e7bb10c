-- Written by a program of this session out of the translation of the seat: Lean functions and the proofs that the Go functions come to them.
import Derived.Test.YtghimjkoaldafaaPx0
import Derived.Test.YtghimjkoaldafaaPx1
import Derived.Test.YtghimjkoaldafaaPx3
namespace Go.Proofs.Ytghimjkoaldafaa.P
open Go.RowKit Go.Proofs.YtghimjkoaldafaaW.PrintWords Go.Proofs.YtghimjkoaldafaaW.PrintLast Go.Proofs.YtghimjkoaldafaaW.PrintMore
open Go.Proofs.Ytghimjkoaldafaa.P renaming errW_none → aa, errW_some → ab
open Option.some renaming injEq → ac
open Go.Proofs.Ytghimjkoaldafaa.P.cents_MulDiv_s renaming calls → ae, f → af, at_ → ak
open Option renaming bind_some → ag, bind_eq_some_iff → aj
open Nat renaming le_refl → ah
open Go.Stab renaming stable → ai
set_option maxHeartbeats 8000000
set_option maxRecDepth 100000
attribute [local go_sem] max2_int min2_int max_two min_two max_three min_three max_four min_four   -- for this text's walks alone
set_option linter.unusedVariables false
set_option linter.unusedSimpArgs false
mutual
def pool_Cut.l0 : Nat→Int→Int→Int→Int→List Int→Int→Int→Option (Int × Int × Int × Option Int)
 | 0,_,_,_,_,_,_,_=>none
 | k + 1,x0,x1,x2,x3,x21,x22,x23=>if x23 < x22 then (if 0≤x23 then (if x23 < (x21.length : Int) then (if (rd x21 x23) < 0 then (some (0,0,0,some 1)) else (if (rd x21 x23) > 10000000000000 then (some (0,0,0,some 1)) else (pool_Cut.l0 k x0 x1 x2 x3 x21 x22 (wrap64 (x23 + 1))))) else (none)) else (none)) else (if (wrap64 (x1 + x2)) > x3 then (pool_Cut.j1 k x0 x1 x2 x3 true) else (pool_Cut.j1 k x0 x1 x2 x3 (decide (x0 > x3))))
def pool_Cut.j1 : Nat→Int→Int→Int→Int→Bool→Option (Int × Int × Int × Option Int)
 | 0,_,_,_,_,_=>none
 | k + 1,x0,x1,x2,x3,x44=>if x44 = true then (some (0,0,0,some 1)) else (if x3 = 0 then (some (0,0,0,none)) else ((af x1 x0 x3 1).bind fun t=>(if t.2.isNone = true then ((af x2 x0 x3 1).bind fun l=>(if l.2.isNone = true then (some (wrap64 ((wrap64 (x0 - t.1)) - l.1),t.1,l.1,none)) else (some (0,0,0,some (l.2.getD 0))))) else (some (0,0,0,some (t.2.getD 0))))))
end
def pool_Cut.f (k : Nat) (a0 : Int) (a1 : Int) (a2 : Int) (a3 : Int) : Option (Int × Int × Int × Option Int):=(some (([a0,a1,a2,a3] : List Int) : List Int)).bind fun y442=>(pool_Cut.l0 k a0 a1 a2 a3 y442 (y442.length : Int) 0)
theorem pool_Cut.calls (k : Nat) (a0 : Int) (a1 : Int) (a2 : Int) (a3 : Int) (r1 : Int) (r2 : Int) (r3 : Int) (r4 : Option Int) (w : World) (h : pool_Cut.f k a0 a1 a2 a3 = some (r1,r2,r3,r4)) :
  Calls Try.prog 11 #[.int .i64 a0,.int .i64 a1,.int .i64 a2,.int .i64 a3] w fun e w'=>e = .returned (.tuple #[.int .i64 r1,.int .i64 r2,.int .i64 r3,errW r4])∧Below w.heap.size w w':=by
 have hu24:=Try.underlying24;have hu29:=Try.underlying29;have HB:=ka (Below.refl w.heap.size w);have H : ((some (([a0,a1,a2,a3] : List Int) : List Int)).bind fun y442=>(pool_Cut.l0 k a0 a1 a2 a3 y442 (y442.length : Int) 0)) = some (r1,r2,r3,r4):=h;clear h;obtain ⟨y442,hy442⟩ : ∃ y_ : List Int,y_ = (([a0,a1,a2,a3] : List Int)):=⟨_,rfl⟩
 replace H : (pool_Cut.l0 k a0 a1 a2 a3 y442 (y442.length : Int) 0) = some (r1,r2,r3,r4):=by first|(rw [hy442];with_reducible exact H)|(have H2_:=(ag _ _).symm.trans H;rw [hy442];with_reducible exact H2_)|(have H2_:=(ag _ _).symm.trans H;with_reducible exact H2_)|with_reducible exact H|(rw [hy442];exact H)|exact H
 have Ny442:=ka hy442;clear hy442;have H':=ka H;clear H;go_enter Try.func11,Try.ntmps11
 go_wp2_with (first|((with_reducible refine gate_dst (N:=21) rfl ?_);refine Kd.R_lit (Kd.int .i64) _ 2 ?hg (N:=21) ?hd (xs:=([a0,a1,a2,a3] : List Int)) (inner:=[.int .i64 a0,.int .i64 a1,.int .i64 a2,.int .i64 a3]) (ok:=fun _=>True) (okp:=fun _=>True) ?hr ?hp (fun _ hk=>hk) trivial (Below.refl _ _) (ah _) (by simp) ?_;(case hd=>rfl);(case hg=>rfl);(case hr=>first|(go_simp;done)|(go_simp;rfl));(case hp=>exact (Reps.one (show Kd.M (Kd.int .i64) _ _ _ a0 [.int .i64 a0] from rfl) (Reps.one (show Kd.M (Kd.int .i64) _ _ _ a1 [.int .i64 a1] from rfl) (Reps.one (show Kd.M (Kd.int .i64) _ _ _ a2 [.int .i64 a2] from rfl) (Reps.one (show Kd.M (Kd.int .i64) _ _ _ a3 [.int .i64 a3] from rfl) (Reps.none _ _))))));intro a6 w5 ho6 hb hg_ hnew_;clear hg_ hnew_;(first|rw [← Ny442.out] at ho6|(simp only [Int.reduceToNat] at ho6;rw [← Ny442.out] at ho6));have I:=ka (Kd.R_lower ho6 (below_size (kw HB.out)));replace HB:=ka (below_step (kw HB.out) hb);clear hb ho6;obtain ⟨W,Y,Z⟩:=Kd.R_slice I.out;subst Z))
 (try simp only [Act.put,List.setIfInBounds_toArray,List.set_cons_zero,List.set_cons_succ]);go_loopg [23] k (fun kq a4 w'=>∃ (x23_1 : Int),a4 = .int .i64 x23_1∧Aside0 (pool_Cut.l0 kq a0 a1 a2 a3 y442 (y442.length : Int) x23_1 = some (r1,r2,r3,r4))∧Aside0 (kq≤k)∧Aside0 (Kd.R (Kd.int .i64) 2 w' w.heap.size (fun _=>True) (.slice W y442.length Y) y442)∧Aside0 (Below w.heap.size w w'))
 case atStart=>exact ⟨(0),(by first|rfl|(simp;done)|(simp [*];done)),H',⟨ah _⟩,⟨kr I.out⟩,⟨by repeat (first|(with_reducible first|exact HB.out|apply kc1|apply kc2|apply kc3)|exact HB.out)⟩⟩
 case round=>
  clear H';try clear c1
  obtain ⟨x23_1,rfl,HA,HK1,D,HB⟩:=hrel;cases gk with
  | zero=>exact absurd HA.out (by simp [pool_Cut.l0])
  | succ k1=>
   have H:=HA.out;clear HA;simp only [pool_Cut.l0] at H
   by_cases c8 : x23_1 < (y442.length : Int)
   ·rw [if_pos c8] at H
    have c8b0 : decide (x23_1 < (y442.length : Int)) = true:=decide_eq_true c8;clear c8;by_cases c9 : 0≤x23_1
    ·rw [if_pos c9] at H
     have c9b0 : decide (0≤x23_1) = true:=decide_eq_true c9;clear c9;by_cases c10 : x23_1 < (y442.length : Int)
     ·rw [if_pos c10] at H
      have c10b0 : decide (x23_1 < (y442.length : Int)) = true:=decide_eq_true c10;clear c10;by_cases c11 : (rd y442 x23_1) < 0
      ·rw [if_pos c11] at H
       have c11b0 : decide ((rd y442 x23_1) < 0) = true:=decide_eq_true c11;clear c11;simp only [ac,Prod.mk.injEq] at H
       obtain ⟨rfl,rfl,rfl,rfl⟩:=H;have p445 : 0≤(x23_1 : Int):=of_decide_eq_true (by first|(with_reducible assumption)|assumption);have q445 : x23_1 < (y442.length : Int):=of_decide_eq_true (by first|(with_reducible assumption)|assumption);obtain ⟨ad445,e445,hx445_0⟩:=Kd.at_int (Kd.R_reads' D.out).2.2 x23_1 p445 q445;cases e445
       replace p445:=eq_true p445;replace q445:=eq_true q445;go_wp2
       refine bodyPost_ret (results_list (rs:=[.tmp 8,.tmp 9,.tmp 10,.tmp 11]) rfl (by simp) (.tmp (.tmp (.tmp (.tmp .nil))))) rfl ?_;exact ⟨by first|rfl|(simp [aa,ab] <;> rfl)|(simp [*,aa,ab] <;> rfl),by repeat (first|(with_reducible first|exact HB.out|apply kc1|apply kc2|apply kc3)|exact HB.out)⟩
      ·rw [if_neg c11] at H
       have c11b0 : decide ((rd y442 x23_1) < 0) = false:=decide_eq_false c11;clear c11;by_cases c12 : (rd y442 x23_1) > 10000000000000
       ·rw [if_pos c12] at H
        have c12b0 : decide (10000000000000 < (rd y442 x23_1)) = true:=decide_eq_true c12;clear c12;simp only [ac,Prod.mk.injEq] at H
        obtain ⟨rfl,rfl,rfl,rfl⟩:=H;have p445 : 0≤(x23_1 : Int):=of_decide_eq_true (by first|(with_reducible assumption)|assumption);have q445 : x23_1 < (y442.length : Int):=of_decide_eq_true (by first|(with_reducible assumption)|assumption);obtain ⟨ad445,e445,hx445_0⟩:=Kd.at_int (Kd.R_reads' D.out).2.2 x23_1 p445 q445;cases e445
        replace p445:=eq_true p445;replace q445:=eq_true q445;go_wp2
        refine bodyPost_ret (results_list (rs:=[.tmp 8,.tmp 9,.tmp 10,.tmp 11]) rfl (by simp) (.tmp (.tmp (.tmp (.tmp .nil))))) rfl ?_;exact ⟨by first|rfl|(simp [aa,ab] <;> rfl)|(simp [*,aa,ab] <;> rfl),by repeat (first|(with_reducible first|exact HB.out|apply kc1|apply kc2|apply kc3)|exact HB.out)⟩
       ·rw [if_neg c12] at H
        have c12b0 : decide (10000000000000 < (rd y442 x23_1)) = false:=decide_eq_false c12;clear c12;have H':=ka H;clear H;have p445 : 0≤(x23_1 : Int):=of_decide_eq_true (by first|(with_reducible assumption)|assumption);have q445 : x23_1 < (y442.length : Int):=of_decide_eq_true (by first|(with_reducible assumption)|assumption);obtain ⟨ad445,e445,hx445_0⟩:=Kd.at_int (Kd.R_reads' D.out).2.2 x23_1 p445 q445;cases e445
        replace p445:=eq_true p445;replace q445:=eq_true q445;go_wp2
        go_roundg k1
        case measure=>have:=HK1.out;omega
        case rel=>exact ⟨(wrap64 (x23_1 + 1)),(by first|rfl|(simp;done)|(simp [*];done)),H',⟨by have:=HK1.out;omega⟩,⟨kr D.out⟩,⟨by repeat (first|(with_reducible first|exact HB.out|apply kc1|apply kc2|apply kc3)|exact HB.out)⟩⟩
     ·rw [if_neg c10] at H
      exact absurd H (by simp)
    ·rw [if_neg c9] at H
     exact absurd H (by simp)
   ·rw [if_neg c8] at H
    have c8b0 : decide (x23_1 < (y442.length : Int)) = false:=decide_eq_false c8;clear c8;have E:=ka H;clear H;go_upto_region 7 with (fail)
    go_cut [44] (fun a5 wc=>∃ (kq : Nat) (x44_12 : Bool),a5 = .bool x44_12∧Aside0 (pool_Cut.j1 kq a0 a1 a2 a3 x44_12 = some (r1,r2,r3,r4))∧Aside0 (kq≤k1)∧Aside0 (Below w.heap.size w wc))
    case first=>
     have H:=E.out;clear E;by_cases c14 : (wrap64 (a1 + a2)) > a3
     ·rw [if_pos c14] at H
      have c14b0 : decide (a3 < (wrap64 (a1 + a2))) = true:=decide_eq_true c14;clear c14;(first|rw [c14b0]|(simp only [i64_w,i32_w];rw [c14b0])|skip);have H':=ka H;clear H;go_wp2
      go_meet
      case rel=>exact ⟨_,(true),(by first|rfl|(simp;done)|(simp [*];done)),H',⟨by have:=HK1.out;first|omega|exact ah _⟩,⟨by repeat (first|(with_reducible first|exact HB.out|apply kc1|apply kc2|apply kc3)|exact HB.out)⟩⟩
     ·rw [if_neg c14] at H
      have c14b0 : decide (a3 < (wrap64 (a1 + a2))) = false:=decide_eq_false c14;clear c14;(first|rw [c14b0]|(simp only [i64_w,i32_w];rw [c14b0])|skip);have H':=ka H;clear H;go_wp2
      go_meet
      case rel=>exact ⟨_,(decide (a0 > a3)),(by first|rfl|(simp;done)|(simp [*];done)),H',⟨by have:=HK1.out;first|omega|exact ah _⟩,⟨by repeat (first|(with_reducible first|exact HB.out|apply kc1|apply kc2|apply kc3)|exact HB.out)⟩⟩
    case rest=>
     clear E;try clear c1
     try clear c8
     try clear c8b0
     obtain ⟨kq,x44_12,rfl,HA,a7,HB⟩:=hcut;cases kq with
     | zero=>exact absurd HA.out (by simp [pool_Cut.j1])
     | succ kj12=>
      have H:=HA.out;clear HA;simp only [pool_Cut.j1] at H
      by_cases c15 : x44_12 = true
      ·subst c15;have H1 : (some (0,0,0,some 1)) = some (r1,r2,r3,r4):=by rw [if_pos rfl] at H;exact H
       clear H;have H:=H1;clear H1;simp only [ac,Prod.mk.injEq] at H
       obtain ⟨rfl,rfl,rfl,rfl⟩:=H;go_wp2
       refine bodyPost_ret (results_list (rs:=[.tmp 8,.tmp 9,.tmp 10,.tmp 11]) rfl (by simp) (.tmp (.tmp (.tmp (.tmp .nil))))) rfl ?_;exact ⟨by first|rfl|(simp [aa,ab] <;> rfl)|(simp [*,aa,ab] <;> rfl),by repeat (first|(with_reducible first|exact HB.out|apply kc1|apply kc2|apply kc3)|exact HB.out)⟩
      ·replace c15:=Bool.eq_false_iff.mpr c15;subst c15;have H1 : (if a3 = 0 then (some (0,0,0,none)) else ((af a1 a0 a3 1).bind fun t=>(if t.2.isNone = true then ((af a2 a0 a3 1).bind fun l=>(if l.2.isNone = true then (some (wrap64 ((wrap64 (a0 - t.1)) - l.1),t.1,l.1,none)) else (some (0,0,0,some (l.2.getD 0))))) else (some (0,0,0,some (t.2.getD 0)))))) = some (r1,r2,r3,r4):=by rw [if_neg (show ¬ (false = true) by decide)] at H;exact H
       clear H;have H:=H1;clear H1;by_cases c16 : a3 = 0
       ·rw [if_pos c16] at H
        have c16b0 : (a3 == 0) = true:=beq_iff_eq.mpr c16;have c16b1 : (a3 != 0) = false:=bne_eq_false_iff_eq.mpr c16;clear c16;simp only [ac,Prod.mk.injEq] at H
        obtain ⟨rfl,rfl,rfl,rfl⟩:=H;go_wp2
        refine bodyPost_ret (results_list (rs:=[.tmp 8,.tmp 9,.tmp 10,.tmp 11]) rfl (by simp) (.tmp (.tmp (.tmp (.tmp .nil))))) rfl ?_;exact ⟨by first|rfl|(simp [aa,ab] <;> rfl)|(simp [*,aa,ab] <;> rfl),by repeat (first|(with_reducible first|exact HB.out|apply kc1|apply kc2|apply kc3)|exact HB.out)⟩
       ·rw [if_neg c16] at H
        have c16b0 : (a3 == 0) = false:=beq_eq_false_iff_ne.mpr c16;have c16b1 : (a3 != 0) = true:=bne_iff_ne.mpr c16;replace H:=aj.mp H;obtain ⟨⟨u,F⟩,J,H⟩:=H;replace H : (if F.isNone = true then ((af a2 a0 a3 1).bind fun l=>(if l.2.isNone = true then (some (wrap64 ((wrap64 (a0 - u)) - l.1),u,l.1,none)) else (some (0,0,0,some (l.2.getD 0))))) else (some (0,0,0,some (F.getD 0)))) = some (r1,r2,r3,r4):=H;have K:=ka J;clear J;rcases F with _|q448
        ·have H1 : ((af a2 a0 a3 1).bind fun l=>(if l.2.isNone = true then (some (wrap64 ((wrap64 (a0 - u)) - l.1),u,l.1,none)) else (some (0,0,0,some (l.2.getD 0))))) = some (r1,r2,r3,r4):=by rw [if_pos (show (none : Option Int).isNone = true by rfl)] at H;exact H
         clear H;have H:=H1;clear H1;try simp only [aa,ab]
         replace H:=aj.mp H;obtain ⟨⟨B,G⟩,O,H⟩:=H;replace H : (if G.isNone = true then (some (wrap64 ((wrap64 (a0 - u)) - B),u,B,none)) else (some (0,0,0,some (G.getD 0)))) = some (r1,r2,r3,r4):=H;have V:=ka O;clear O;rcases G with _|q451
         ·have H1 : (some (wrap64 ((wrap64 (a0 - u)) - B),u,B,none)) = some (r1,r2,r3,r4):=by rw [if_pos (show (none : Option Int).isNone = true by rfl)] at H;exact H
          clear H;have H:=H1;clear H1;try simp only [aa,ab]
          simp only [ac,Prod.mk.injEq] at H
          obtain ⟨rfl,rfl,rfl,rfl⟩:=H;go_wp2_with (first|((with_reducible refine gate_callee (f:=20) rfl ?_);refine kg (some 52) rfl rfl Try.func20 (by kernel_rfl) rfl #[.int .i64 a1,.int .i64 a0,.int .i64 a3,.int .i64 1] rfl ?_;(with_reducible refine (ae a1 a0 a3 1 u none _ K.out).mono ?_);rintro e w' ⟨rfl,⟨nd,rfl⟩⟩;refine ⟨_,rfl,?_⟩;(try simp only [aa,ab]))|((with_reducible refine gate_callee (f:=20) rfl ?_);refine kg (some 62) rfl rfl Try.func20 (by kernel_rfl) rfl #[.int .i64 a2,.int .i64 a0,.int .i64 a3,.int .i64 1] rfl ?_;(with_reducible refine (ae a2 a0 a3 1 B none _ V.out).mono ?_);rintro e w' ⟨rfl,⟨nd,rfl⟩⟩;refine ⟨_,rfl,?_⟩;(try simp only [aa,ab])))
          refine bodyPost_ret (results_list (rs:=[.tmp 8,.tmp 9,.tmp 10,.tmp 11]) rfl (by simp) (.tmp (.tmp (.tmp (.tmp .nil))))) rfl ?_;exact ⟨by first|rfl|(simp [aa,ab] <;> rfl)|(simp [*,aa,ab] <;> rfl),by repeat (first|(with_reducible first|exact HB.out|apply kc1|apply kc2|apply kc3)|exact HB.out)⟩
         ·have H1 : (some (0,0,0,some q451)) = some (r1,r2,r3,r4):=by rw [if_neg (show ¬ (some q451).isNone = true by simp)] at H;exact H
          clear H;have H:=H1;clear H1;try simp only [aa,ab]
          simp only [ac,Prod.mk.injEq] at H
          obtain ⟨rfl,rfl,rfl,rfl⟩:=H;go_wp2_with (first|((with_reducible refine gate_callee (f:=20) rfl ?_);refine kg (some 52) rfl rfl Try.func20 (by kernel_rfl) rfl #[.int .i64 a1,.int .i64 a0,.int .i64 a3,.int .i64 1] rfl ?_;(with_reducible refine (ae a1 a0 a3 1 u none _ K.out).mono ?_);rintro e w' ⟨rfl,⟨nd,rfl⟩⟩;refine ⟨_,rfl,?_⟩;(try simp only [aa,ab]))|((with_reducible refine gate_callee (f:=20) rfl ?_);refine kg (some 62) rfl rfl Try.func20 (by kernel_rfl) rfl #[.int .i64 a2,.int .i64 a0,.int .i64 a3,.int .i64 1] rfl ?_;(with_reducible refine (ae a2 a0 a3 1 B (some q451) _ V.out).mono ?_);rintro e w' ⟨rfl,⟨nd,rfl⟩⟩;refine ⟨_,rfl,?_⟩;(try simp only [aa,ab])))
          refine bodyPost_ret (results_list (rs:=[.tmp 8,.tmp 9,.tmp 10,.tmp 11]) rfl (by simp) (.tmp (.tmp (.tmp (.tmp .nil))))) rfl ?_;exact ⟨by first|rfl|(simp [aa,ab] <;> rfl)|(simp [*,aa,ab] <;> rfl),by repeat (first|(with_reducible first|exact HB.out|apply kc1|apply kc2|apply kc3)|exact HB.out)⟩
        ·have H1 : (some (0,0,0,some q448)) = some (r1,r2,r3,r4):=by rw [if_neg (show ¬ (some q448).isNone = true by simp)] at H;exact H
         clear H;have H:=H1;clear H1;try simp only [aa,ab]
         simp only [ac,Prod.mk.injEq] at H
         obtain ⟨rfl,rfl,rfl,rfl⟩:=H;go_wp2_with (first|((with_reducible refine gate_callee (f:=20) rfl ?_);refine kg (some 52) rfl rfl Try.func20 (by kernel_rfl) rfl #[.int .i64 a1,.int .i64 a0,.int .i64 a3,.int .i64 1] rfl ?_;(with_reducible refine (ae a1 a0 a3 1 u (some q448) _ K.out).mono ?_);rintro e w' ⟨rfl,⟨nd,rfl⟩⟩;refine ⟨_,rfl,?_⟩;(try simp only [aa,ab])))
         refine bodyPost_ret (results_list (rs:=[.tmp 8,.tmp 9,.tmp 10,.tmp 11]) rfl (by simp) (.tmp (.tmp (.tmp (.tmp .nil))))) rfl ?_;exact ⟨by first|rfl|(simp [aa,ab] <;> rfl)|(simp [*,aa,ab] <;> rfl),by repeat (first|(with_reducible first|exact HB.out|apply kc1|apply kc2|apply kc3)|exact HB.out)⟩
theorem pool_Cut.tells (i f g a : Int) (hi : M.In i) (hf : M.In f) (hg : M.In g) (ha : M.In a) (k : Nat) (hk : 8≤k) : pool_Cut.f k i f g a =
  some (if M.cutOk i f g a then (if a = 0 then (0,0,0,none) else (i - f * i / a - g * i / a,f * i / a,g * i / a,none)) else (0,0,0,some 1)):=by
 obtain ⟨k,rfl⟩ : ∃ m,k = m + 7:=⟨k - 7,by omega⟩
 unfold M.In at hi hf hg ha
 have hno : ¬ M.cutOk i f g a→some (0,0,0,some 1) = some (if M.cutOk i f g a then (if a = 0 then ((0 : Int),(0 : Int),(0 : Int),(none : Option Int)) else (i - f * i / a - g * i / a,f * i / a,g * i / a,none)) else (0,0,0,some 1)):=fun h=>by rw [if_neg h]
 unfold pool_Cut.f
 rw [ag]
 have w1 : wrap64 (0 + 1) = 1:=by unfold wrap64;omega
 have w2 : wrap64 (1 + 1) = 2:=by unfold wrap64;omega
 have w3 : wrap64 (2 + 1) = 3:=by unfold wrap64;omega
 have w4 : wrap64 (3 + 1) = 4:=by unfold wrap64;omega
 have r0 : rd [i,f,g,a] 0 = i:=rfl;have r1 : rd [i,f,g,a] 1 = f:=rfl;have r2 : rd [i,f,g,a] 2 = g:=rfl;have r3 : rd [i,f,g,a] 3 = a:=rfl;have hl : (([i,f,g,a] : List Int).length : Int) = 4:=rfl;rw [hl]
 simp only [pool_Cut.l0]
 rw [hl,w1,w2,w3,w4,r0,r1,r2,r3]
 rw [if_pos (by decide),if_pos (by decide),if_pos (by decide)]
 by_cases h1 : i < 0
 ·rw [if_pos h1];exact hno (fun hh=>by have:=hh.1;omega)
 rw [if_neg h1]
 by_cases h2 : i > 10000000000000
 ·rw [if_pos h2];exact hno (fun hh=>by have:=hh.2;omega)
 rw [if_neg h2,if_pos (by decide),if_pos (by decide),if_pos (by decide)]
 by_cases h3 : f < 0
 ·rw [if_pos h3];exact hno (fun hh=>by have:=hh.2;omega)
 rw [if_neg h3]
 by_cases h4 : f > 10000000000000
 ·rw [if_pos h4];exact hno (fun hh=>by have:=hh.2;omega)
 rw [if_neg h4,if_pos (by decide),if_pos (by decide),if_pos (by decide)]
 by_cases h5 : g < 0
 ·rw [if_pos h5];exact hno (fun hh=>by have:=hh.2;omega)
 rw [if_neg h5]
 by_cases h6 : g > 10000000000000
 ·rw [if_pos h6];exact hno (fun hh=>by have:=hh.2;omega)
 rw [if_neg h6,if_pos (by decide),if_pos (by decide),if_pos (by decide)]
 by_cases h7 : a < 0
 ·rw [if_pos h7];exact hno (fun hh=>by have:=hh.2;omega)
 rw [if_neg h7]
 by_cases h8 : a > 10000000000000
 ·rw [if_pos h8];exact hno (fun hh=>by have:=hh.2;omega)
 rw [if_neg h8,if_neg (by decide),M.w64_id (n:=f + g) (by omega) (by omega)]
 by_cases h9 : f + g > a
 ·rw [if_pos h9]
  simp only [pool_Cut.j1]
  rw [if_pos trivial];exact hno (fun hh=>by have:=hh.2;omega)
 rw [if_neg h9]
 simp only [pool_Cut.j1]
 by_cases h10 : i > a
 ·rw [if_pos (decide_eq_true h10)];exact hno (fun hh=>by have:=hh.2;omega)
 have hok : M.cutOk i f g a:=⟨by omega,by omega,by omega,by omega,by omega,by omega⟩
 rw [if_neg (by simpa using h10),if_pos hok]
 by_cases h11 : a = 0
 ·rw [if_pos h11,if_pos h11]
 rw [if_neg h11,if_neg h11]
 have c1:=M.cut_part (i:=i) (f:=f) (a:=a) (by omega) (by omega) (by omega) (by omega);have c2:=M.cut_part (i:=i) (f:=g) (a:=a) (by omega) (by omega) (by omega) (by omega);have hin : ∀ z,0≤z→z≤10000000000000→M.In z:=fun z _ _=>by unfold M.In;omega
 rw [ak (hin _ (by omega) (by omega)) (hin _ (by omega) (by omega)) (hin _ (by omega) (by omega)),if_neg (by omega),M.quo_down (by omega),M.told_in (hin _ c1.1 (by omega)),ag]
 simp only [Option.isNone_none,if_true]
 rw [ak (hin _ (by omega) (by omega)) (hin _ (by omega) (by omega)) (hin _ (by omega) (by omega)),if_neg (by omega),M.quo_down (by omega),M.told_in (hin _ c2.1 (by omega)),ag]
 simp only [Option.isNone_none,if_true]
 rw [M.w64_id (n:=i - f * i / a) (by omega) (by omega),M.w64_id (n:=i - f * i / a - g * i / a) (by omega) (by omega)]
def pool_Cut_s.f (i f g a : Int) : Option (Int × Int × Int × Option Int):=
 if M.In i∧M.In f∧M.In g∧M.In a then some (if M.cutOk i f g a then (if a = 0 then (0,0,0,none) else (i - f * i / a - g * i / a,f * i / a,g * i / a,none)) else (0,0,0,some 1)) else none
theorem pool_Cut_s.calls (a0 : Int) (a1 : Int) (a2 : Int) (a3 : Int) (r1 : Int) (r2 : Int) (r3 : Int) (r4 : Option Int) (w : World) (h : pool_Cut_s.f a0 a1 a2 a3 = some (r1,r2,r3,r4)) :
  Calls Try.prog 11 #[.int .i64 a0,.int .i64 a1,.int .i64 a2,.int .i64 a3] w fun e w'=>e = .returned (.tuple #[.int .i64 r1,.int .i64 r2,.int .i64 r3,errW r4])∧Below w.heap.size w w':=by
 unfold pool_Cut_s.f at h
 split at h
 ·rename_i hr
  exact pool_Cut.calls 8 a0 a1 a2 a3 r1 r2 r3 r4 w ((pool_Cut.tells a0 a1 a2 a3 hr.1 hr.2.1 hr.2.2.1 hr.2.2.2 8 (ah _)).trans h)
 ·cases h
theorem pool_Cut_s.at_ {i f g a : Int} (hi : M.In i) (hf : M.In f) (hg : M.In g) (ha : M.In a) : pool_Cut_s.f i f g a = some (if M.cutOk i f g a then (if a = 0 then (0,0,0,none) else (i - f * i / a - g * i / a,f * i / a,g * i / a,none)) else (0,0,0,some 1)):=by unfold pool_Cut_s.f;rw [if_pos ⟨hi,hf,hg,ha⟩]
section
open Go.Shelf Go.Lib Go.Sort
def Srt.cmp (r : List Int) (m : Nat) (x y : Fin (m + 1)) : Int:=if rd r y.val < rd r x.val then -1 else if rd r y.val > rd r x.val then 1 else 0
def Srt.Ok (r o : List Int) : Prop:=(∀ x ∈ o,0≤x∧x < (r.length : Int))∧0 < o.length∧o.length < 1152921504606846976∧r.length < 1152921504606846976
instance (r o : List Int) : Decidable (Srt.Ok r o):=inferInstanceAs (Decidable (_∧_∧_∧_))
def Srt.ok (r o : List Int) : Bool:=decide (Srt.Ok r o)
def Srt.fin (m : Nat) (x : Int) : Fin (m + 1):=⟨min x.toNat m,by omega⟩
/-- the places o by what is left there (r),greatest first,those that are alike as they stood -/
def Srt.srt (r o : List Int) : List Int:=((ai (ltOf (Srt.cmp r (r.length - 1))) (o.map (Srt.fin (r.length - 1))).toArray o.length).toList.map (fun x=>(x.val : Int)))
def Srt.enc (m : Nat) (x : Fin (m + 1)) : Value:=.int .i64 (x.val : Int)
section
set_option maxHeartbeats 4000000
set_option maxRecDepth 100000
theorem Srt.closure (gb : Nat) (A : Option Addr) (c : Nat) (r : List Int) (w : World) (hb : w.cell? ⟨gb,0,none⟩ = some (.slice A r.length c)) (hr : Kd.C (Kd.int .u64) w A r.length r) (x y : Nat) (hx : x < r.length) (hy : y < r.length) (hl : r.length < 1152921504606846976) :
  Calls Try.prog 37 #[.int .i64 x,.int .i64 y,.pointer (some ⟨gb,0,none⟩)] w fun e w'=>e = .returned (.int .i64 (if rd r y < rd r x then -1 else if rd r y > rd r x then 1 else 0))∧Drawn0 w w':=by
 have mixed : Try.prog.follows .mixedOrders = true:=by kernel_rfl
 have hu32:=Try.underlying49
 have hc : cmp_Compare_uint64.f (rd r y) (rd r x) = some (if rd r y < rd r x then -1 else if rd r y > rd r x then 1 else 0):=by
  unfold cmp_Compare_uint64.f cmp_isNaN_uint64.f
  simp
  split <;> simp_all
  split <;> simp_all
 have U:=ka hc;clear hc;obtain ⟨z,hz⟩ : ∃ z,z = (if rd r y < rd r x then (-1 : Int) else if rd r y > rd r x then 1 else 0):=⟨_,rfl⟩
 rw [← hz] at U ⊢
 clear hz;have pa : (0 : Int)≤(y : Int):=by omega
 have qa : (y : Int) < (r.length : Int):=by omega
 have pb : (0 : Int)≤(x : Int):=by omega
 have qb : (x : Int) < (r.length : Int):=by omega
 obtain ⟨ad,ea,ha⟩:=Kd.at_int hr (y : Int) pa qa;obtain ⟨ad2,eb,hb2⟩:=Kd.at_int hr (x : Int) pb qb;subst ea;injection eb with eb
 subst eb;simp only [Int.toNat_natCast] at ha hb2
 replace pa:=eq_true pa;replace qa:=eq_true qa;replace pb:=eq_true pb;replace qb:=eq_true qb;clear hr hx hy;obtain ⟨yv,hyv⟩ : ∃ v,v = rd r (y : Int):=⟨_,rfl⟩
 obtain ⟨xv,hxv⟩ : ∃ v,v = rd r (x : Int):=⟨_,rfl⟩
 rw [← hyv] at ha U
 rw [← hxv] at hb2 U
 clear hyv hxv;go_enter Try.func37,Try.ntmps37
 go_wp2
 go_quiet (first|(go_at_call 38;(with_reducible refine (cmp_Compare_uint64.calls yv xv z _ U.out).mono ?_);rintro e w' ⟨rfl,⟨nd,rfl⟩⟩;(try first|exact ⟨rfl,_,World.drewN_drewN _ _ _⟩|exact ⟨rfl,_,Eq.trans (World.drewN_drewN _ _ _) (congrArg (World.drewN _) (Nat.add_assoc _ _ _))⟩)))
 try go_wp2
 go_ret
 exact ⟨by first|rfl|(simp;done)|(simp [*];done),by repeat (first|exact Drawn0.refl _|apply Drawn0.step)⟩
end
section
set_option maxHeartbeats 4000000
theorem Srt.grown {α : Type} [Inhabited α] (enc : α→Value) (w : World) (g m : Nat) (dk : Array α) (os : Array Obj) : w.grownBy (sortWorld enc w g 0 m dk os) (some g):=by
 refine ⟨rfl,rfl,rfl,by simp [sortWorld],fun k hk hne=>?_⟩;unfold sortWorld
 rw [heap_grow_old _ _ (by simpa using hk)]
 have : g≠k:=fun e=>hne (by rw [e])
 simp [putRow,mapBlock,Sort.ahead,Array.getElem?_modify,this]
theorem Srt.put {α : Type} [Inhabited α] (enc : α→Value) (f : α→Int) (hf : ∀ x,enc x = .int .i64 (f x)) (w : World) (g : Nat) (d : Array α) : putRow enc w g 0 d = putRow (Value.int .i64) w g 0 (d.map f):=by
 unfold putRow
 congr 1
 funext c
 unfold putCells
 apply Array.ext
 ·simp
 ·intro k h1 h2;simp only [Array.getElem_mapIdx,Array.size_map]
  split
  ·rename_i hk
   rw [hf]
   congr 1
   rw [getElem!_pos d _ (by omega),getElem!_pos (d.map f) _ (by simp;omega)]
   simp
  ·rfl
theorem Srt.lays (g n cap : Nat) (o : List Int) (gb : Nat) (vr : Value) (r : List Int) (base : Nat) (ok okr : Nat→Prop) (w : World)
  (ho : Kd.R (Kd.int .i64) 3 w base ok (.slice (some ⟨g,0,none⟩) n cap) o) (hb : w.heap[gb]? = some (.cells #[vr] 49 (0,0))) (hr : Kd.R (Kd.int .u64) 60 w base okr vr r) (hp : 0 < r.length) (hl : r.length < 1152921504606846976) (size : Nat) :
  CmpLays1 Try.prog 37 #[.pointer (some ⟨gb,0,none⟩)] (Srt.enc (r.length - 1)) (Srt.cmp r (r.length - 1)) g 0 size w:=by
 intro mm os dk hs x y;have hg:=Srt.grown (Srt.enc (r.length - 1)) w g mm dk os;obtain ⟨A,c,hv⟩:=Kd.R_slice hr;have hne:=Kd.R_ne ho hb (by decide);have hR:=Kd.R_over' (v:=.slice (some ⟨g,0,none⟩) n cap) hr (Kd.R_typed ho) (by decide) hg;have hW : (sortWorld (Srt.enc (r.length - 1)) w g 0 mm dk os).heap[gb]? = some (.cells #[vr] 49 (0,0)):=(hg.block gb (blk_lt hb) hne).trans hb;subst hv;refine (Srt.closure gb A c r _ ((blk_cell hW 0).trans rfl) (Kd.R_reads' hR).2.2 x.val y.val (by omega) (by omega) hl).mono ?_;rintro e w' ⟨he,q,hq⟩;exact ⟨he,q,#[],by rw [hq,grow_empty]⟩
theorem stab_sortStable {α : Type} [Inhabited α] (enc : α→Value) (cf : α→α→Int) (g : Nat) (cb : Array Value) (blk off cap : Nat) (d0 d : Array α) (Q w : World) (eg : ∀ args w,(callFunc g args).run Try.prog w = .ok (.enter g args) w) (hcmp : CmpLays1 Try.prog g cb enc cf blk off d0.size Q) (R : Row1 enc Q blk off d0) (hs : d0.size = d.size) (S : SW enc Q blk off d w) (hsz : d0.size < 1152921504606846976) :
  Calls Try.prog 36 #[.slice (some ⟨blk,off,none⟩) d.size cap,.func (.func g) #[] cb] w fun e w'=>e = .returned (.tuple #[])∧SW enc Q blk off (ai (ltOf cf) d d.size) w':=by
 have hu43:=Try.underlying68;have hC:=stab_stable enc cf g cb blk off cap d.size d0 d Q w eg hcmp R hs S (ah _) hsz;have HC:=ka hC;clear hC hcmp S;go_enter Try.func36,Try.ntmps36
 go_wp2_with (go_at_call 45;with_reducible refine HC.out.mono ?_;rintro e w' ⟨rfl,T⟩)
 go_end0
 exact ⟨rfl,T⟩
theorem Srt.len (r o : List Int) : (Srt.srt r o).length = o.length:=by
 have h : ∀ (n : Nat) (f z : Nat) (d : Array (Fin (r.length - 1 + 1))) (lt),(Stab.merges lt n f z d).size = d.size:=by
  intro n f;induction f with
  | zero=>intro z d lt;rfl
  | succ f ih=>
   intro z d lt
   have hp : ∀ (k a : Nat) (d : Array (Fin (r.length - 1 + 1))),(Stab.pass lt n z k a d).2.size = d.size:=by
    intro k;induction k with
    | zero=>intro a d;rfl
    | succ k ihk=>
     intro a d;rw [Stab.pass]
     split
     ·rw [ihk];exact stab_size _ _ _ _ _ _
     ·rfl
   have hr : (Stab.round lt n z d).size = d.size:=by
    rw [Stab.round]
    (try simp only []);split
    ·rw [stab_size];exact hp _ _ _
    ·exact hp _ _ _
   rw [Stab.merges]
   split
   ·rw [ih,hr]
   ·rfl
 have h2 : ∀ (n f a : Nat) (d : Array (Fin (r.length - 1 + 1))) (lt),(Stab.firsts lt n f a d).2.size = d.size:=by
  intro n f;induction f with
  | zero=>intro a d lt;rfl
  | succ f ih=>
   intro a d lt;rw [Stab.firsts]
   split
   ·rw [ih];exact stab_ins_size _ _ _ _
   ·rfl
 unfold Srt.srt ai
 simp only [List.length_map,Array.length_toList,h,stab_ins_size,h2,List.size_toArray]
theorem Srt.calls (g n cap : Nat) (o : List Int) (gb : Nat) (vr : Value) (r : List Int) (base : Nat) (ok okr : Nat→Prop) (w : World)
  (ho : Kd.R (Kd.int .i64) 3 w base ok (.slice (some ⟨g,0,none⟩) n cap) o) (hb : w.heap[gb]? = some (.cells #[vr] 49 (0,0))) (hr : Kd.R (Kd.int .u64) 60 w base okr vr r) (h : Srt.Ok r o) :
  Calls Try.prog 36 #[.slice (some ⟨g,0,none⟩) n cap,.func (.func 37) #[] #[.pointer (some ⟨gb,0,none⟩)]] w fun e w'=>e = .returned (.tuple #[])∧Kd.R (Kd.int .i64) 3 w' base ok (.slice (some ⟨g,0,none⟩) n cap) (Srt.srt r o)∧w.grownBy w' (some g):=by
 obtain ⟨h1,h2,h3,h4⟩:=h
 have hp : 0 < r.length:=by
  cases o with
  | nil=>simp at h2
  | cons x o=>have:=h1 x (by simp);omega
 obtain rfl:=(Kd.R_reads' ho).1;have hown:=Kd.own_of_R ho;rcases hown.2 with ⟨he,_⟩|⟨g',cap',cur,hv,hbase,hcur,hc1,hc2,hc3,hc4⟩
 ·cases he
 cases hv
 rw [Nat.mul_one] at hc4
 obtain ⟨m,hm⟩ : ∃ m,m = r.length - 1:=⟨_,rfl⟩
 have hval : ∀ x ∈ o,((Srt.fin m x).val : Int) = x:=by
  intro x hx;have:=h1 x hx;simp only [Srt.fin]
  omega
 have R1 : Row1 (Srt.enc m) w g 0 (o.map (Srt.fin m)).toArray:=by
  refine ⟨fun _=>rfl,?_,blk_lt hcur⟩;intro j hj;have hj' : j < o.length:=by simpa using hj
  have h0:=holds_of_blockI hcur hc4 j (by simpa using hj');refine ⟨h0.1.trans ?_,h0.2⟩;rw [getElem!_pos _ j (by simpa using hj'),getElem!_pos _ j (by simpa using hj')]
  simp only [Srt.enc,List.getElem_toArray,List.getElem_map]
  rw [hval _ (List.getElem_mem hj')]
 have hL:=Srt.lays g o.length cap o gb vr r base ok okr w ho hb hr hp h4 o.length;rw [← hm] at hL
 have S0 : SW (Srt.enc m) w g 0 (o.map (Srt.fin m)).toArray w:=⟨0,#[],by unfold sortWorld;rw [grow_empty,Sort.ahead_zero,putRow_self _ _ _ _ _ R1.hH]⟩
 have hsz : (o.map (Srt.fin m)).toArray.size = o.length:=by simp
 have hC:=stab_sortStable (Srt.enc m) (Srt.cmp r m) 37 #[.pointer (some ⟨gb,0,none⟩)] g 0 cap _ _ w w (fun args w=>enters_ Try.func37 (by kernel_rfl) rfl args w) (by rw [hsz];exact hL) R1 rfl S0 (by rw [hsz];exact h3);rw [hsz] at hC
 refine hC.mono ?_;rintro e w' ⟨he,q,os,hw⟩;have hlen : (Srt.srt r o).length = o.length:=Srt.len r o
 have hput : w' = grow (putRow (Value.int .i64) (Sort.ahead w q) g 0 (Srt.srt r o).toArray) os:=by
  rw [hw]
  unfold sortWorld
  rw [Srt.put (Srt.enc m) (fun x=>(x.val : Int)) (fun _=>rfl)]
  congr 2
  subst hm;unfold Srt.srt
  generalize ai (ltOf (Srt.cmp r (r.length - 1))) (o.map (Srt.fin (r.length - 1))).toArray o.length = X;rw [← List.map_toArray,Array.toArray_toList]
 refine ⟨he,?_,hput ▸ grownBy_sortedI _⟩;have hrow:=ownsRow_sortedI (w:=w) (base:=base) (g:=g) (cap:=cap) (n:=q) (e:=3) (os:=os) (cur:=cur) (ss:=o) (ts:=Srt.srt r o) hlen hbase hcur hc1 hc2 hc3;rw [← hput] at hrow
 have hrow2 : w'.ownsRow base 3 1 (.slice (some ⟨g,0,none⟩) o.length cap) (Srt.srt r o).length (encs (Value.int .i64) (Srt.srt r o)):=by rw [hlen];exact hrow
 exact Kd.R_of_own hrow2 ho.1
end
end
section
open Go.Sort Go.Stab
/-- is place x ahead of place y: more is left there,or as much and it stands earlier -/
def Srt.T (r : List Int) (x y : Int) : Prop:=rd r x > rd r y∨(rd r x = rd r y∧x < y)
instance (r : List Int) (x y : Int) : Decidable (Srt.T r x y):=inferInstanceAs (Decidable (_∨_))
def Srt.upto (n : Nat) : List Int:=(List.range n).map (fun i : Nat=>(i : Int))
theorem Srt.ok_upto {r : List Int} (h : 0 < r.length) (h2 : r.length < 1152921504606846976) : Srt.Ok r (Srt.upto r.length):=by
 refine ⟨?_,by simp [Srt.upto];exact h,by simp [Srt.upto];exact h2,h2⟩;intro x hx;obtain ⟨i,hi,rfl⟩:=List.mem_map.mp hx;have:=List.mem_range.mp hi;omega
theorem Srt.spec {r : List Int} (h : 0 < r.length) (h2 : r.length < 1152921504606846976) :
  (Srt.srt r (Srt.upto r.length)).Perm (Srt.upto r.length)∧(Srt.srt r (Srt.upto r.length)).Pairwise (Srt.T r):=by
 have hfin : (Srt.upto r.length).map (Srt.fin (r.length - 1)) = (List.range r.length).map (fun i : Nat=>(⟨min i (r.length - 1),by omega⟩ : Fin (r.length - 1 + 1))):=by
  unfold Srt.upto
  rw [List.map_map]
  apply List.map_congr_left
  intro i hi;apply Fin.ext
  simp [Srt.fin]
 let T' : Fin (r.length - 1 + 1)→Fin (r.length - 1 + 1)→Prop:=fun a b=>Srt.T r a.val b.val
 have hT : ∀ x y z,T' x y→T' y z→T' x z:=by
  intro x y z h1 h2;simp only [T',Srt.T] at *
  omega
 obtain ⟨d,hd⟩ : ∃ d,d = ((Srt.upto r.length).map (Srt.fin (r.length - 1))).toArray:=⟨_,rfl⟩
 have hd2:=hd.trans (congrArg List.toArray hfin);have hsz : d.size = r.length:=by rw [hd2];simp
 have hget : ∀ i,i < r.length→(d[i]!).val = i:=by
  intro i hi;rw [getElem!_pos d i (by omega)]
  simp only [hd2,List.getElem_toArray,List.getElem_map,List.getElem_range]
  omega
 have hcross : ∀ x y,x < y→y < r.length→Cross (ltOf (Srt.cmp r (r.length - 1))) T' d[x]! d[y]!:=by
  intro x y hxy hy;have ex:=hget x (by omega);have ey:=hget y hy;unfold Cross
  simp only [ltOf,T',Srt.T,Srt.cmp,ex,ey]
  constructor
  ·intro hlt;have hlt:=of_decide_eq_true hlt;left
   split at hlt
   ·assumption
   ·split at hlt <;> omega
  ·intro hlt;have hlt:=of_decide_eq_false hlt;split at hlt
   ·omega
   ·omega
 have hs:=stable_spec hT r.length d (by omega) hcross;have hlen : (Srt.upto r.length).length = r.length:=by simp [Srt.upto]
 have hdef : Srt.srt r (Srt.upto r.length) = (ai (ltOf (Srt.cmp r (r.length - 1))) d r.length).toList.map (fun x=>(x.val : Int)):=by
  unfold Srt.srt
  rw [hd,hlen]
 rw [hdef]
 obtain ⟨⟨p1,p2,p3⟩,s⟩:=hs;obtain ⟨d',hd'⟩ : ∃ d',d' = ai (ltOf (Srt.cmp r (r.length - 1))) d r.length:=⟨_,rfl⟩
 rw [← hd'] at p1 p2 p3 s ⊢
 have ex : ∀ {α : Type} (a : Array α) (n : Nat),n = a.size→a.extract 0 n = a:=by
  intro α a n hn;subst hn;simp
 have e1:=ex d' r.length (by omega);have e2:=ex d r.length (by omega);rw [e1,e2] at p3
 constructor
 ·have p4:=p3.map (fun x=>(x.val : Int));refine p4.trans ?_
  have : d.toList.map (fun x=>(x.val : Int)) = Srt.upto r.length:=by
   rw [hd2]
   simp only [List.toList_toArray,List.map_map]
   unfold Srt.upto
   apply List.map_congr_left
   intro i hi;have:=List.mem_range.mp hi;simp
   omega
  rw [this]
 ·rw [List.pairwise_map,List.pairwise_iff_getElem]
  intro i j hi hj hij;have hi' : i < d'.size:=by simpa using hi
  have hj' : j < d'.size:=by simpa using hj
  have:=s i j (Nat.zero_le _) hij (by omega);rw [getElem!_pos d' i hi',getElem!_pos d' j hj'] at this
  simpa using this
end
theorem Srt.uniq {r : List Int} : ∀ {a b : List Int},a.Perm b→a.Pairwise (Srt.T r)→b.Pairwise (Srt.T r)→a = b
 | [],b,p,_,_=>(List.Perm.nil_eq p)
 | x :: a,[],p,_,_=>by have:=p.length_eq;simp at this
 | x :: a,y :: b,p,ha,hb=>by
  have ha':=List.pairwise_cons.mp ha;have hb':=List.pairwise_cons.mp hb
  have hxy : x = y:=by
   have h1 : x ∈ y :: b:=p.mem_iff.mp (by simp);have h2 : y ∈ x :: a:=p.mem_iff.mpr (by simp);rcases List.mem_cons.mp h1 with h|h
   ·exact h
   ·rcases List.mem_cons.mp h2 with h'|h'
    ·exact h'.symm
    ·have t1:=hb'.1 x h;have t2:=ha'.1 y h';unfold Srt.T at t1 t2
     omega
  subst hxy;rw [Srt.uniq (List.Perm.cons_inv p) ha'.2 hb'.2]
theorem Srt.is {r L : List Int} (h : 0 < r.length) (h2 : r.length < 1152921504606846976) (p : L.Perm (Srt.upto r.length)) (s : L.Pairwise (Srt.T r)) : Srt.srt r (Srt.upto r.length) = L:=
 Srt.uniq ((Srt.spec h h2).1.trans p.symm) (Srt.spec h h2).2 s
end Go.Proofs.Ytghimjkoaldafaa.P
