-- Written by a program of this session out of the translation of the seat: Lean functions and the proofs that the Go functions come to them.
import Derived.Test.YtghimjkoaldafaaPx0
namespace Go.Proofs.Ytghimjkoaldafaa.P
open Go.RowKit Go.Proofs.YtghimjkoaldafaaW.PrintWords Go.Proofs.YtghimjkoaldafaaW.PrintLast Go.Proofs.YtghimjkoaldafaaW.PrintMore
open Go.Proofs.YtghimjkoaldafaaW.PrintWords.Drawn0 renaming refl → aa, step → ab
set_option maxHeartbeats 8000000
set_option maxRecDepth 100000
attribute [local go_sem] max2_int min2_int max_two min_two max_three min_three max_four min_four   -- for this text's walks alone
set_option linter.unusedVariables false
set_option linter.unusedSimpArgs false
mutual
def trivetref03_May.j0 : Nat→List Int→Bool→Option (Bool)
 | 0,_,_=>none
 | k + 1,x1,x22=>if x22 = true then (some false) else (trivetref03_May.l0 k x1 false 0)
def trivetref03_May.l0 : Nat→List Int→Bool→Int→Option (Bool)
 | 0,_,_,_=>none
 | k + 1,x1,x5,x6=>if x6 < (x1.length : Int) then (if 0≤x6 then (if (rd x1 x6) < 0 then (some false) else (if (rd x1 x6) > 10000000000000 then (some false) else (if x5 = true then (trivetref03_May.l0 k x1 true (wrap64 (x6 + 1))) else (trivetref03_May.l0 k x1 (decide ((rd x1 x6) > 0)) (wrap64 (x6 + 1)))))) else (none)) else (some x5)
end
def trivetref03_May.f (k : Nat) (a0 : Int) (l1 : List Int) : Option (Bool):=if a0 < 0 then (trivetref03_May.j0 k l1 true) else (if a0 > 10000000000000 then (trivetref03_May.j0 k l1 true) else (if (l1.length : Int) = 0 then (trivetref03_May.j0 k l1 true) else (trivetref03_May.j0 k l1 (decide ((l1.length : Int) > 480)))))
theorem trivetref03_May.calls (k : Nat) (a0 : Int) (d : Option Addr) (c1 : Nat) (l1 : List Int) (r : Bool) (w : World) (hr1 : Kd.C (Kd.int .i64) w d l1.length l1) (hc1 : l1.length≤c1) (h : trivetref03_May.f k a0 l1 = some r) :
  Calls Try.prog 15 #[.int .i64 a0,.slice d l1.length c1] w fun e w'=>e = .returned (.bool r)∧Drawn0 w w':=by
 have HR1:=ka hr1;have l:=ka hc1;clear hr1 hc1;have H : (if a0 < 0 then (trivetref03_May.j0 k l1 true) else (if a0 > 10000000000000 then (trivetref03_May.j0 k l1 true) else (if (l1.length : Int) = 0 then (trivetref03_May.j0 k l1 true) else (trivetref03_May.j0 k l1 (decide ((l1.length : Int) > 480)))))) = some r:=h;clear h;have c:=ka H;clear H;go_enter Try.func15,Try.ntmps15
 go_upto_region 1 with (fail)
 go_cut [22] (fun g wc=>∃ (kq : Nat) (x22_2 : Bool),g = .bool x22_2∧Aside0 (trivetref03_May.j0 kq l1 x22_2 = some r)∧Aside0 (kq≤k)∧Drawn0 w wc)
 case first=>
  have H:=c.out;clear c;by_cases c4 : a0 < 0
  ·rw [if_pos c4] at H
   have c4b0 : decide (a0 < 0) = true:=decide_eq_true c4;clear c4;(first|rw [c4b0]|(simp only [i64_w,i32_w];rw [c4b0])|skip);have H':=ka H;clear H;go_wp2
   go_meet
   case rel=>exact ⟨_,(true),(by first|rfl|(simp;done)|(simp [*];done)),H',⟨by first|omega|exact Nat.le_refl _⟩,by repeat (first|exact aa _|apply ab)⟩
  ·rw [if_neg c4] at H
   have c4b0 : decide (a0 < 0) = false:=decide_eq_false c4;clear c4;(first|rw [c4b0]|(simp only [i64_w,i32_w];rw [c4b0])|skip);by_cases c5 : a0 > 10000000000000
   ·rw [if_pos c5] at H
    have c5b0 : decide (10000000000000 < a0) = true:=decide_eq_true c5;clear c5;have H':=ka H;clear H;go_wp2
    go_meet
    case rel=>exact ⟨_,(true),(by first|rfl|(simp;done)|(simp [*];done)),H',⟨by first|omega|exact Nat.le_refl _⟩,by repeat (first|exact aa _|apply ab)⟩
   ·rw [if_neg c5] at H
    have c5b0 : decide (10000000000000 < a0) = false:=decide_eq_false c5;clear c5;by_cases c6 : (l1.length : Int) = 0
    ·rw [if_pos c6] at H
     have c6b0 : ((l1.length : Int) == 0) = true:=beq_iff_eq.mpr c6;have c6b1 : ((l1.length : Int) != 0) = false:=bne_eq_false_iff_eq.mpr c6;clear c6;have H':=ka H;clear H;go_wp2
     go_meet
     case rel=>exact ⟨_,(true),(by first|rfl|(simp;done)|(simp [*];done)),H',⟨by first|omega|exact Nat.le_refl _⟩,by repeat (first|exact aa _|apply ab)⟩
    ·rw [if_neg c6] at H
     have c6b0 : ((l1.length : Int) == 0) = false:=beq_eq_false_iff_ne.mpr c6;have c6b1 : ((l1.length : Int) != 0) = true:=bne_iff_ne.mpr c6;have c6b2 : ¬ (l1 = []):=fun h_=>c6 (by rw [h_];rfl)
     have H':=ka H;clear H;go_wp2
     go_meet
     case rel=>exact ⟨_,(decide ((l1.length : Int) > 480)),(by first|rfl|(simp;done)|(simp [*];done)),H',⟨by first|omega|exact Nat.le_refl _⟩,by repeat (first|exact aa _|apply ab)⟩
 case rest=>
  clear c;try clear c1
  obtain ⟨kq,x22_2,rfl,HA,b,⟨mc2,rfl⟩⟩:=hcut;cases kq with
  | zero=>exact absurd HA.out (by simp [trivetref03_May.j0])
  | succ kj2=>
   have H:=HA.out;clear HA;simp only [trivetref03_May.j0] at H
   by_cases c7 : x22_2 = true
   ·subst c7;have H1 : (some false) = some r:=by rw [if_pos rfl] at H;exact H
    clear H;have H:=H1;clear H1;obtain rfl:=Option.some.inj H;go_wp2
    go_ret
    exact ⟨by first|rfl|(simp;done)|(simp [*];done),by repeat (first|exact aa _|apply ab)⟩
   ·replace c7:=Bool.eq_false_iff.mpr c7;subst c7;have H1 : (trivetref03_May.l0 kj2 l1 false 0) = some r:=by rw [if_neg (show ¬ (false = true) by decide)] at H;exact H
    clear H;have H:=H1;clear H1;have H':=ka H;clear H;go_wp2
    (try simp only [Act.put,List.setIfInBounds_toArray,List.set_cons_zero,List.set_cons_succ]);go_loopg [5,6] kj2 (fun kq i j w'=>∃ (x5_2 : Bool) (x6_2 : Int),i = .bool x5_2∧j = .int .i64 x6_2∧Aside0 (trivetref03_May.l0 kq l1 x5_2 x6_2 = some r)∧Aside0 (kq≤kj2)∧Drawn0 w w')
    case atStart=>exact ⟨(false),(0),(by first|rfl|(simp;done)|(simp [*];done)),(by first|rfl|(simp;done)|(simp [*];done)),H',⟨Nat.le_refl _⟩,by repeat (first|exact aa _|apply ab)⟩
    case round=>
     clear H';try clear c1
     try clear c7
     obtain ⟨x5_2,x6_2,rfl,rfl,HA,HK2,⟨m2,rfl⟩⟩:=hrel;cases gk with
     | zero=>exact absurd HA.out (by simp [trivetref03_May.l0])
     | succ k2=>
      have H:=HA.out;clear HA;simp only [trivetref03_May.l0] at H
      by_cases c8 : x6_2 < (l1.length : Int)
      ·rw [if_pos c8] at H
       have c8b0 : decide (x6_2 < (l1.length : Int)) = true:=decide_eq_true c8;clear c8;by_cases c9 : 0≤x6_2
       ·rw [if_pos c9] at H
        have c9b0 : decide (0≤x6_2) = true:=decide_eq_true c9;clear c9;by_cases c10 : (rd l1 x6_2) < 0
        ·rw [if_pos c10] at H
         have c10b0 : decide ((rd l1 x6_2) < 0) = true:=decide_eq_true c10;clear c10;obtain rfl:=Option.some.inj H;have p715 : 0≤(x6_2 : Int):=of_decide_eq_true (by first|(with_reducible assumption)|assumption);have q715 : x6_2 < (l1.length : Int):=of_decide_eq_true (by first|(with_reducible assumption)|assumption);obtain ⟨ad715,e715,hx715_0⟩:=Kd.at_int HR1.out x6_2 p715 q715;cases e715
         replace p715:=eq_true p715;replace q715:=eq_true q715;go_wp2
         go_ret
         exact ⟨by first|rfl|(simp;done)|(simp [*];done),by repeat (first|exact aa _|apply ab)⟩
        ·rw [if_neg c10] at H
         have c10b0 : decide ((rd l1 x6_2) < 0) = false:=decide_eq_false c10;clear c10;by_cases c11 : (rd l1 x6_2) > 10000000000000
         ·rw [if_pos c11] at H
          have c11b0 : decide (10000000000000 < (rd l1 x6_2)) = true:=decide_eq_true c11;clear c11;obtain rfl:=Option.some.inj H;have p715 : 0≤(x6_2 : Int):=of_decide_eq_true (by first|(with_reducible assumption)|assumption);have q715 : x6_2 < (l1.length : Int):=of_decide_eq_true (by first|(with_reducible assumption)|assumption);obtain ⟨ad715,e715,hx715_0⟩:=Kd.at_int HR1.out x6_2 p715 q715;cases e715
          replace p715:=eq_true p715;replace q715:=eq_true q715;have p716 : 0≤(x6_2 : Int):=of_decide_eq_true (by first|(with_reducible assumption)|assumption);have q716 : x6_2 < (l1.length : Int):=of_decide_eq_true (by first|(with_reducible assumption)|assumption);obtain ⟨ad716,e716,hx716_0⟩:=Kd.at_int HR1.out x6_2 p716 q716;obtain rfl : ad715 = ad716:=(by injection e716)
          replace p716:=eq_true p716;replace q716:=eq_true q716;go_wp2
          go_ret
          exact ⟨by first|rfl|(simp;done)|(simp [*];done),by repeat (first|exact aa _|apply ab)⟩
         ·rw [if_neg c11] at H
          have c11b0 : decide (10000000000000 < (rd l1 x6_2)) = false:=decide_eq_false c11;clear c11;by_cases c12 : x5_2 = true
          ·subst c12;have H1 : (trivetref03_May.l0 k2 l1 true (wrap64 (x6_2 + 1))) = some r:=by rw [if_pos rfl] at H;exact H
           clear H;have H:=H1;clear H1;have H':=ka H;clear H;have p715 : 0≤(x6_2 : Int):=of_decide_eq_true (by first|(with_reducible assumption)|assumption);have q715 : x6_2 < (l1.length : Int):=of_decide_eq_true (by first|(with_reducible assumption)|assumption);obtain ⟨ad715,e715,hx715_0⟩:=Kd.at_int HR1.out x6_2 p715 q715;cases e715
           replace p715:=eq_true p715;replace q715:=eq_true q715;have p716 : 0≤(x6_2 : Int):=of_decide_eq_true (by first|(with_reducible assumption)|assumption);have q716 : x6_2 < (l1.length : Int):=of_decide_eq_true (by first|(with_reducible assumption)|assumption);obtain ⟨ad716,e716,hx716_0⟩:=Kd.at_int HR1.out x6_2 p716 q716;obtain rfl : ad715 = ad716:=(by injection e716)
           replace p716:=eq_true p716;replace q716:=eq_true q716;go_wp2
           go_roundg k2
           case measure=>have:=b.out;have:=HK2.out;omega
           case rel=>exact ⟨(true),(wrap64 (x6_2 + 1)),(by first|rfl|(simp;done)|(simp [*];done)),(by first|rfl|(simp;done)|(simp [*];done)),H',⟨by have:=b.out;have:=HK2.out;omega⟩,by repeat (first|exact aa _|apply ab)⟩
          ·replace c12:=Bool.eq_false_iff.mpr c12;subst c12;have H1 : (trivetref03_May.l0 k2 l1 (decide ((rd l1 x6_2) > 0)) (wrap64 (x6_2 + 1))) = some r:=by rw [if_neg (show ¬ (false = true) by decide)] at H;exact H
           clear H;have H:=H1;clear H1;have H':=ka H;clear H;have p715 : 0≤(x6_2 : Int):=of_decide_eq_true (by first|(with_reducible assumption)|assumption);have q715 : x6_2 < (l1.length : Int):=of_decide_eq_true (by first|(with_reducible assumption)|assumption);obtain ⟨ad715,e715,hx715_0⟩:=Kd.at_int HR1.out x6_2 p715 q715;cases e715
           replace p715:=eq_true p715;replace q715:=eq_true q715;have p716 : 0≤(x6_2 : Int):=of_decide_eq_true (by first|(with_reducible assumption)|assumption);have q716 : x6_2 < (l1.length : Int):=of_decide_eq_true (by first|(with_reducible assumption)|assumption);obtain ⟨ad716,e716,hx716_0⟩:=Kd.at_int HR1.out x6_2 p716 q716;obtain rfl : ad715 = ad716:=(by injection e716)
           replace p716:=eq_true p716;replace q716:=eq_true q716;have p717 : 0≤(x6_2 : Int):=of_decide_eq_true (by first|(with_reducible assumption)|assumption);have q717 : x6_2 < (l1.length : Int):=of_decide_eq_true (by first|(with_reducible assumption)|assumption);obtain ⟨ad717,e717,hx717_0⟩:=Kd.at_int HR1.out x6_2 p717 q717;obtain rfl : ad715 = ad717:=(by injection e717)
           replace p717:=eq_true p717;replace q717:=eq_true q717;go_wp2
           go_roundg k2
           case measure=>have:=b.out;have:=HK2.out;omega
           case rel=>exact ⟨(decide ((rd l1 x6_2) > 0)),(wrap64 (x6_2 + 1)),(by first|rfl|(simp;done)|(simp [*];done)),(by first|rfl|(simp;done)|(simp [*];done)),H',⟨by have:=b.out;have:=HK2.out;omega⟩,by repeat (first|exact aa _|apply ab)⟩
       ·rw [if_neg c9] at H
        exact absurd H (by simp)
      ·rw [if_neg c8] at H
       have c8b0 : decide (x6_2 < (l1.length : Int)) = false:=decide_eq_false c8;clear c8;obtain rfl:=Option.some.inj H;go_wp2
       go_ret
       exact ⟨by first|rfl|(simp;done)|(simp [*];done),by repeat (first|exact aa _|apply ab)⟩
end Go.Proofs.Ytghimjkoaldafaa.P
