-- Written by a program of this session out of the translation of the seat: Lean functions and the proofs that the Go functions come to them.
import Derived.Test.YtcpmfdagnchlbaaPx0
namespace Go.Proofs.Ytcpmfdagnchlbaa.P
open Go.RowKit Go.Proofs.YtcpmfdagnchlbaaW.PrintWords Go.Proofs.YtcpmfdagnchlbaaW.PrintLast Go.Proofs.YtcpmfdagnchlbaaW.PrintMore
attribute [local go_sem] max2_int min2_int max_two min_two max_three min_three max_four min_four   -- for this text's walks alone
set_option linter.unusedVariables false
set_option linter.unusedSimpArgs false

/-! ### trivetlaw03_same: function 12 -/
def trivetlaw03_same.l0 : Nat→List Int→List Int→Int→Option (Bool)
 | 0,_,_,_=>none
 | k + 1,x0,x1,x5=>if x5 < (x0.length : Int) then (if 0≤x5 then (if x5 < (x1.length : Int) then (if (rd x0 x5) = (rd x1 x5) then (trivetlaw03_same.l0 k x0 x1 (wrap64 (x5 + 1))) else (some false)) else (none)) else (none)) else (some true)
def trivetlaw03_same.f (k : Nat) (l0 : List Int) (l1 : List Int) : Option (Bool):=if (l0.length : Int) = (l1.length : Int) then (trivetlaw03_same.l0 k l0 l1 0) else (some false)
set_option maxHeartbeats 8000000 in
set_option maxRecDepth 100000 in
theorem trivetlaw03_same.calls (k : Nat) (I : Option Addr) (c0 : Nat) (l0 : List Int) (L : Option Addr) (c1 : Nat) (l1 : List Int) (r : Bool) (w : World) (hr0 : Kd.C (Kd.int .i64) w I l0.length l0) (hc0 : l0.length≤c0) (hr1 : Kd.C (Kd.int .i64) w L l1.length l1) (hc1 : l1.length≤c1) (h : trivetlaw03_same.f k l0 l1 = some r) :
  Calls Try.prog 12 #[.slice I l0.length c0,.slice L l1.length c1] w fun e w'=>e = .returned (.bool r)∧Drawn0 w w':=by
 have HR0:=ka hr0;have O:=ka hc0;clear hr0 hc0;have HR1:=ka hr1;have a4:=ka hc1;clear hr1 hc1;have H : (if (l0.length : Int) = (l1.length : Int) then (trivetlaw03_same.l0 k l0 l1 0) else (some false)) = some r:=h;clear h;by_cases c3 : (l0.length : Int) = (l1.length : Int)
 ·rw [if_pos c3] at H
  have c3b0 : ((l0.length : Int) == (l1.length : Int)) = true:=beq_iff_eq.mpr c3;have c3b1 : ((l0.length : Int) != (l1.length : Int)) = false:=bne_eq_false_iff_eq.mpr c3;have c3b2 : (l0.length == l1.length) = true:=by first|simpa using c3|(simp at c3 ⊢;omega)
  clear c3;have H':=ka H;clear H;go_enter Try.func12,Try.ntmps12
  go_wp2
  repeat (go_quiet (fail);try go_wp2)
  (try simp only [Act.put,List.setIfInBounds_toArray,List.set_cons_zero,List.set_cons_succ]);go_loopg [5] k (fun kq v5 w'=>∃ (x5_1 : Int),v5 = .int .i64 x5_1∧Aside0 (trivetlaw03_same.l0 kq l0 l1 x5_1 = some r)∧Aside0 (kq≤k)∧Drawn0 w w')
  case atStart=>exact ⟨(0),(by first|rfl|(simp;done)|(simp [*];done)),H',⟨Nat.le_refl _⟩,by repeat (first|exact Drawn0.refl _|apply Drawn0.step)⟩
  case round=>
   clear H';try clear c1
   try clear p2
   try clear c3
   try clear c3b0
   try clear c3b1
   try clear c3b2
   obtain ⟨x5_1,rfl,HA,HK1,⟨m1,rfl⟩⟩:=hrel;cases gk with
   | zero=>exact absurd HA.out (by simp [trivetlaw03_same.l0])
   | succ k1=>
    have H:=HA.out;clear HA;simp only [trivetlaw03_same.l0] at H
    by_cases c4 : x5_1 < (l0.length : Int)
    ·rw [if_pos c4] at H
     have c4b0 : decide (x5_1 < (l0.length : Int)) = true:=decide_eq_true c4;clear c4;by_cases c5 : 0≤x5_1
     ·rw [if_pos c5] at H
      have c5b0 : decide (0≤x5_1) = true:=decide_eq_true c5;clear c5;by_cases c6 : x5_1 < (l1.length : Int)
      ·rw [if_pos c6] at H
       have c6b0 : decide (x5_1 < (l1.length : Int)) = true:=decide_eq_true c6;clear c6;by_cases c7 : (rd l0 x5_1) = (rd l1 x5_1)
       ·rw [if_pos c7] at H
        have c7b0 : ((rd l0 x5_1) == (rd l1 x5_1)) = true:=beq_iff_eq.mpr c7;have c7b1 : ((rd l0 x5_1) != (rd l1 x5_1)) = false:=bne_eq_false_iff_eq.mpr c7;clear c7;have H':=ka H;clear H;have p445 : 0≤(x5_1 : Int):=of_decide_eq_true (by first|(with_reducible assumption)|assumption);have q445 : x5_1 < (l0.length : Int):=of_decide_eq_true (by first|(with_reducible assumption)|assumption);obtain ⟨ad445,e445,hx445_0⟩:=Kd.at_int HR0.out x5_1 p445 q445;cases e445
        replace p445:=eq_true p445;replace q445:=eq_true q445;have p446 : 0≤(x5_1 : Int):=of_decide_eq_true (by first|(with_reducible assumption)|assumption);have q446 : x5_1 < (l1.length : Int):=of_decide_eq_true (by first|(with_reducible assumption)|assumption);obtain ⟨ad446,e446,hx446_0⟩:=Kd.at_int HR1.out x5_1 p446 q446;cases e446
        replace p446:=eq_true p446;replace q446:=eq_true q446;go_wp2
        repeat (go_quiet (fail);try go_wp2)
        go_roundg k1
        case measure=>have:=HK1.out;omega
        case rel=>exact ⟨(wrap64 (x5_1 + 1)),(by first|rfl|(simp;done)|(simp [*];done)),H',⟨by have:=HK1.out;omega⟩,by repeat (first|exact Drawn0.refl _|apply Drawn0.step)⟩
       ·rw [if_neg c7] at H
        have c7b0 : ((rd l0 x5_1) == (rd l1 x5_1)) = false:=beq_eq_false_iff_ne.mpr c7;have c7b1 : ((rd l0 x5_1) != (rd l1 x5_1)) = true:=bne_iff_ne.mpr c7;obtain rfl:=Option.some.inj H;have p445 : 0≤(x5_1 : Int):=of_decide_eq_true (by first|(with_reducible assumption)|assumption);have q445 : x5_1 < (l0.length : Int):=of_decide_eq_true (by first|(with_reducible assumption)|assumption);obtain ⟨ad445,e445,hx445_0⟩:=Kd.at_int HR0.out x5_1 p445 q445;cases e445
        replace p445:=eq_true p445;replace q445:=eq_true q445;have p446 : 0≤(x5_1 : Int):=of_decide_eq_true (by first|(with_reducible assumption)|assumption);have q446 : x5_1 < (l1.length : Int):=of_decide_eq_true (by first|(with_reducible assumption)|assumption);obtain ⟨ad446,e446,hx446_0⟩:=Kd.at_int HR1.out x5_1 p446 q446;cases e446
        replace p446:=eq_true p446;replace q446:=eq_true q446;go_wp2
        repeat (go_quiet (fail);try go_wp2)
        go_ret
        exact ⟨by first|rfl|(simp;done)|(simp [*];done),by repeat (first|exact Drawn0.refl _|apply Drawn0.step)⟩
      ·rw [if_neg c6] at H
       exact absurd H (by simp)
     ·rw [if_neg c5] at H
      exact absurd H (by simp)
    ·rw [if_neg c4] at H
     have c4b0 : decide (x5_1 < (l0.length : Int)) = false:=decide_eq_false c4;clear c4;obtain rfl:=Option.some.inj H;go_wp2
     repeat (go_quiet (fail);try go_wp2)
     go_ret
     exact ⟨by first|rfl|(simp;done)|(simp [*];done),by repeat (first|exact Drawn0.refl _|apply Drawn0.step)⟩
 ·rw [if_neg c3] at H
  have c3b0 : ((l0.length : Int) == (l1.length : Int)) = false:=beq_eq_false_iff_ne.mpr c3;have c3b1 : ((l0.length : Int) != (l1.length : Int)) = true:=bne_iff_ne.mpr c3;have c3b2 : (l0.length == l1.length) = false:=by first|simpa using c3|(simp at c3 ⊢;omega)
  obtain rfl:=Option.some.inj H;go_enter Try.func12,Try.ntmps12
  go_wp2
  repeat (go_quiet (fail);try go_wp2)
  go_ret
  exact ⟨by first|rfl|(simp;done)|(simp [*];done),by repeat (first|exact Drawn0.refl _|apply Drawn0.step)⟩

/-! ### trivetlaw03_same: function 12,its laws -/
theorem trivetlaw03_same.loop (n : Nat) : ∀ (k i : Nat) (a : List Int),a.length = i + n→a.length≤1000000000000000→n < k→trivetlaw03_same.l0 k a a i = some true:=by
 induction n with
 | zero=>
  intro k i a hl hm hk;obtain ⟨j,rfl⟩ : ∃ j,k = j + 1:=⟨k - 1,by omega⟩
  simp only [trivetlaw03_same.l0]
  rw [if_neg (by omega)]
 | succ n ih=>
  intro k i a hl hm hk;obtain ⟨j,rfl⟩ : ∃ j,k = j + 1:=⟨k - 1,by omega⟩
  simp only [trivetlaw03_same.l0]
  rw [if_pos (by omega),if_pos (by omega),if_pos (by omega),if_pos trivial,M.w64_id (n:=(i : Int) + 1) (by omega) (by omega)]
  exact ih j (i + 1) a (by omega) hm (by omega)
theorem trivetlaw03_same.num (k : Nat) (a : List Int) (hm : a.length≤1000) (hk : 1001≤k) : trivetlaw03_same.f k a a = some true:=by
 unfold trivetlaw03_same.f
 rw [if_pos rfl]
 exact trivetlaw03_same.loop a.length k 0 a (by omega) (by omega) (by omega)
theorem trivetlaw03_same.any (k : Nat) (a : List Int) (hm : a.length≤1000000000000000) (hk : a.length < k) : trivetlaw03_same.f k a a = some true:=by
 unfold trivetlaw03_same.f
 rw [if_pos rfl]
 exact trivetlaw03_same.loop a.length k 0 a (by omega) hm (by omega)

/-! ### trivetref01_at: function 36 -/
def trivetref01_at.f (l0 : List Int) (a1 : Int) : Option (Int):=if a1 < (l0.length : Int) then (if 0≤a1 then (some (rd l0 a1)) else (none)) else (some 0)
set_option maxHeartbeats 8000000 in
set_option maxRecDepth 100000 in
theorem trivetref01_at.calls (I : Option Addr) (c0 : Nat) (l0 : List Int) (a1 : Int) (r : Int) (w : World) (hr0 : Kd.C (Kd.int .u64) w I l0.length l0) (hc0 : l0.length≤c0) (h : trivetref01_at.f l0 a1 = some r) :
  Calls Try.prog 36 #[.slice I l0.length c0,.int .i64 a1] w fun e w'=>e = .returned (.int .u64 r)∧Drawn0 w w':=by
 have HR0:=ka hr0;have O:=ka hc0;clear hr0 hc0;have H : (if a1 < (l0.length : Int) then (if 0≤a1 then (some (rd l0 a1)) else (none)) else (some 0)) = some r:=h;clear h;by_cases c3 : a1 < (l0.length : Int)
 ·rw [if_pos c3] at H
  have c3b0 : decide (a1 < (l0.length : Int)) = true:=decide_eq_true c3;clear c3;by_cases c4 : 0≤a1
  ·rw [if_pos c4] at H
   have c4b0 : decide (0≤a1) = true:=decide_eq_true c4;clear c4;obtain rfl:=Option.some.inj H;have p447 : 0≤(a1 : Int):=of_decide_eq_true (by first|(with_reducible assumption)|assumption);have q447 : a1 < (l0.length : Int):=of_decide_eq_true (by first|(with_reducible assumption)|assumption);obtain ⟨ad447,e447,hx447_0⟩:=Kd.at_int HR0.out a1 p447 q447;cases e447
   replace p447:=eq_true p447;replace q447:=eq_true q447;go_enter Try.func36,Try.ntmps36
   go_wp2
   go_ret
   exact ⟨by first|rfl|(simp;done)|(simp [*];done),by repeat (first|exact Drawn0.refl _|apply Drawn0.step)⟩
  ·rw [if_neg c4] at H
   exact absurd H (by simp)
 ·rw [if_neg c3] at H
  have c3b0 : decide (a1 < (l0.length : Int)) = false:=decide_eq_false c3;clear c3;obtain rfl:=Option.some.inj H;go_enter Try.func36,Try.ntmps36
  go_wp2
  go_ret
  exact ⟨by first|rfl|(simp;done)|(simp [*];done),by repeat (first|exact Drawn0.refl _|apply Drawn0.step)⟩

/-! ### trivetref01_at: function 36,its laws -/
theorem trivetref01_at.num (d : List Int) (i : Nat) : trivetref01_at.f d i = some (d.getD i 0):=by
 unfold trivetref01_at.f
 by_cases h : (i : Int) < d.length
 ·rw [if_pos h,if_pos (by omega)]
  simp [rd]
 ·rw [if_neg h,List.getD_eq_getElem?_getD,List.getElem?_eq_none (by omega)];rfl

/-! ### trivetref01_plus: function 27 -/
mutual
def trivetref01_plus.l0 : Nat→List Int→List Int→List Int→Int→Int→Option (List Int)
 | 0,_,_,_,_,_=>none
 | k + 1,x0,x1,x5,x6,x7=>if x7 < (x0.length : Int) then (trivetref01_plus.j1 k x0 x1 x5 x6 x7 true) else (if x7 < (x1.length : Int) then (trivetref01_plus.j1 k x0 x1 x5 x6 x7 true) else (trivetref01_plus.j1 k x0 x1 x5 x6 x7 (decide (x6 > 0))))
def trivetref01_plus.j1 : Nat→List Int→List Int→List Int→Int→Int→Bool→Option (List Int)
 | 0,_,_,_,_,_,_=>none
 | k + 1,x0,x1,x5,x6,x7,x22=>if x22 = true then ((trivetref01_at.f x0 x7).bind fun o=>((trivetref01_at.f x1 x7).bind fun l=>(if x5.length < 17592186044416 then (trivetref01_plus.l0 k x0 x1 (x5 ++ [Int.tmod (IntKind.u64.wrap ((IntKind.u64.wrap (o + l)) + x6)) 65536]) (IntKind.u64.wrap (Int.tdiv (IntKind.u64.wrap ((IntKind.u64.wrap (o + l)) + x6)) 65536)) (wrap64 (x7 + 1))) else (none)))) else (some x5)
end
def trivetref01_plus.f (k : Nat) (l0 : List Int) (l1 : List Int) : Option (List Int):=trivetref01_plus.l0 k l0 l1 ([] : List Int) 0 0
set_option maxHeartbeats 8000000 in
set_option maxRecDepth 100000 in
theorem trivetref01_plus.calls (k : Nat) (I : Option Addr) (c0 : Nat) (l0 : List Int) (L : Option Addr) (c1 : Nat) (l1 : List Int) (r : List Int) (w : World) (hr0 : Kd.C (Kd.int .u64) w I l0.length l0) (hc0 : l0.length≤c0) (hr1 : Kd.C (Kd.int .u64) w L l1.length l1) (hc1 : l1.length≤c1) (h : trivetref01_plus.f k l0 l1 = some r) :
  Calls Try.prog 27 #[.slice I l0.length c0,.slice L l1.length c1] w fun e w'=>∃ v0_ : Value,e = .returned (v0_)∧Kd.R (Kd.int .u64) 42 w' w.heap.size (fun _=>True) v0_ r∧Below w.heap.size w w':=by
 have HR0:=ka hr0;have O:=ka hc0;clear hr0 hc0;have HR1:=ka hr1;have a4:=ka hc1;clear hr1 hc1;have HB:=ka (Below.refl w.heap.size w);have H : (trivetref01_plus.l0 k l0 l1 ([] : List Int) 0 0) = some r:=h;clear h;have H':=ka H;clear H;go_enter Try.func27,Try.ntmps27
 go_wp2
 (try simp only [Act.put,List.setIfInBounds_toArray,List.set_cons_zero,List.set_cons_succ]);go_loopg [5,6,7] k (fun kq v5 v6 v7 w'=>∃ (x5_1 : List Int) (x6_1 : Int) (x7_1 : Int),v6 = .int .u64 x6_1∧v7 = .int .i64 x7_1∧Aside0 (trivetref01_plus.l0 kq l0 l1 x5_1 x6_1 x7_1 = some r)∧Aside0 (kq≤k)∧Aside0 (Kd.R (Kd.int .u64) 42 w' w.heap.size (fun _=>True) v5 x5_1)∧Aside0 (Below w.heap.size w w'))
 case atStart=>exact ⟨(([] : List Int)),(0),(0),(by first|rfl|(simp;done)|(simp [*];done)),(by first|rfl|(simp;done)|(simp [*];done)),H',⟨Nat.le_refl _⟩,⟨by first|exact Kd.R_nil _ _ _ _ _|exact Kd.N_nil _ _ _ _ _|exact Kd.V_nil _ _ _ _ _|exact Kd.Q_nil _ _ _ _ _|exact Kd.S_nil _ _ _ _ _⟩,⟨by repeat (first|(with_reducible first|exact HB.out|apply kc1|apply kc2|apply kc3)|exact HB.out)⟩⟩
 case round=>
  clear H';try clear c1
  try clear c2
  try clear p2
  obtain ⟨x5_1,x6_1,x7_1,rfl,rfl,HA,HK1,G,HB⟩:=hrel;cases gk with
  | zero=>exact absurd HA.out (by simp [trivetref01_plus.l0])
  | succ k1=>
   have H:=HA.out;clear HA;simp only [trivetref01_plus.l0] at H
   have Q:=ka H;clear H;go_upto_region 4 with (fail)
   go_cut [22] (fun b8 wc=>∃ (kq : Nat) (x22_2 : Bool),b8 = .bool x22_2∧Aside0 (trivetref01_plus.j1 kq l0 l1 x5_1 x6_1 x7_1 x22_2 = some r)∧Aside0 (kq≤k1)∧Aside0 (Kd.R (Kd.int .u64) 42 wc w.heap.size (fun _=>True) u5 x5_1)∧Aside0 (Below w.heap.size w wc))
   case first=>
    have H:=Q.out;clear Q;by_cases c4 : x7_1 < (l0.length : Int)
    ·rw [if_pos c4] at H
     have c4b0 : decide (x7_1 < (l0.length : Int)) = true:=decide_eq_true c4;clear c4;(first|rw [c4b0]|(simp only [i64_w,i32_w];rw [c4b0])|skip);have H':=ka H;clear H;go_wp2
     go_meet
     case rel=>exact ⟨_,(true),(by first|rfl|(simp;done)|(simp [*];done)),H',⟨by have:=HK1.out;first|omega|exact Nat.le_refl _⟩,⟨kr G.out⟩,⟨by repeat (first|(with_reducible first|exact HB.out|apply kc1|apply kc2|apply kc3)|exact HB.out)⟩⟩
    ·rw [if_neg c4] at H
     have c4b0 : decide (x7_1 < (l0.length : Int)) = false:=decide_eq_false c4;clear c4;(first|rw [c4b0]|(simp only [i64_w,i32_w];rw [c4b0])|skip);by_cases c5 : x7_1 < (l1.length : Int)
     ·rw [if_pos c5] at H
      have c5b0 : decide (x7_1 < (l1.length : Int)) = true:=decide_eq_true c5;clear c5;have H':=ka H;clear H;go_wp2
      go_meet
      case rel=>exact ⟨_,(true),(by first|rfl|(simp;done)|(simp [*];done)),H',⟨by have:=HK1.out;first|omega|exact Nat.le_refl _⟩,⟨kr G.out⟩,⟨by repeat (first|(with_reducible first|exact HB.out|apply kc1|apply kc2|apply kc3)|exact HB.out)⟩⟩
     ·rw [if_neg c5] at H
      have c5b0 : decide (x7_1 < (l1.length : Int)) = false:=decide_eq_false c5;clear c5;have H':=ka H;clear H;go_wp2
      go_meet
      case rel=>exact ⟨_,(decide (x6_1 > 0)),(by first|rfl|(simp;done)|(simp [*];done)),H',⟨by have:=HK1.out;first|omega|exact Nat.le_refl _⟩,⟨kr G.out⟩,⟨by repeat (first|(with_reducible first|exact HB.out|apply kc1|apply kc2|apply kc3)|exact HB.out)⟩⟩
   case rest=>
    clear Q;try clear c1
    try clear c2
    try clear p2
    try clear c4
    try clear c4b0
    try clear c5
    try clear c5b0
    try clear p2
    obtain ⟨kq,x22_2,rfl,HA,a5,G,HB⟩:=hcut;cases kq with
    | zero=>exact absurd HA.out (by simp [trivetref01_plus.j1])
    | succ kj2=>
     have H:=HA.out;clear HA;simp only [trivetref01_plus.j1] at H
     by_cases c6 : x22_2 = true
     ·subst c6;have H1 : ((trivetref01_at.f l0 x7_1).bind fun o=>((trivetref01_at.f l1 x7_1).bind fun l=>(if x5_1.length < 17592186044416 then (trivetref01_plus.l0 kj2 l0 l1 (x5_1 ++ [Int.tmod (IntKind.u64.wrap ((IntKind.u64.wrap (o + l)) + x6_1)) 65536]) (IntKind.u64.wrap (Int.tdiv (IntKind.u64.wrap ((IntKind.u64.wrap (o + l)) + x6_1)) 65536)) (wrap64 (x7_1 + 1))) else (none)))) = some r:=by rw [if_pos rfl] at H;exact H
      clear H;have H:=H1;clear H1;replace H:=Option.bind_eq_some_iff.mp H;obtain ⟨o,a6,H⟩:=H;replace H : ((trivetref01_at.f l1 x7_1).bind fun l=>(if x5_1.length < 17592186044416 then (trivetref01_plus.l0 kj2 l0 l1 (x5_1 ++ [Int.tmod (IntKind.u64.wrap ((IntKind.u64.wrap (o + l)) + x6_1)) 65536]) (IntKind.u64.wrap (Int.tdiv (IntKind.u64.wrap ((IntKind.u64.wrap (o + l)) + x6_1)) 65536)) (wrap64 (x7_1 + 1))) else (none))) = some r:=H;have A7:=ka a6;clear a6;replace H:=Option.bind_eq_some_iff.mp H;obtain ⟨l,a7,H⟩:=H;replace H : (if x5_1.length < 17592186044416 then (trivetref01_plus.l0 kj2 l0 l1 (x5_1 ++ [Int.tmod (IntKind.u64.wrap ((IntKind.u64.wrap (o + l)) + x6_1)) 65536]) (IntKind.u64.wrap (Int.tdiv (IntKind.u64.wrap ((IntKind.u64.wrap (o + l)) + x6_1)) 65536)) (wrap64 (x7_1 + 1))) else (none)) = some r:=H;have A8:=ka a7;clear a7;by_cases c9 : x5_1.length < 17592186044416
      ·rw [if_pos c9] at H
       have LMc9:=ka c9;clear c9;obtain ⟨y450,hy450⟩ : ∃ y_ : List Int,y_ = (x5_1 ++ [Int.tmod (IntKind.u64.wrap ((IntKind.u64.wrap (o + l)) + x6_1)) 65536]):=⟨_,rfl⟩
       replace H : (trivetref01_plus.l0 kj2 l0 l1 y450 (IntKind.u64.wrap (Int.tdiv (IntKind.u64.wrap ((IntKind.u64.wrap (o + l)) + x6_1)) 65536)) (wrap64 (x7_1 + 1))) = some r:=by first|(rw [hy450];with_reducible exact H)|(have H2_:=(Option.bind_some _ _).symm.trans H;rw [hy450];with_reducible exact H2_)|(have H2_:=(Option.bind_some _ _).symm.trans H;with_reducible exact H2_)|with_reducible exact H|(rw [hy450];exact H)|exact H
       have Ny450:=ka hy450;clear hy450;have H':=ka H;clear H;go_wp2_with (first|((with_reducible refine gate_callee (f:=36) rfl ?_);refine kg (some 27) rfl rfl Try.func36 (by kernel_rfl) rfl #[.slice I l0.length c0,.int .i64 x7_1] rfl ?_;(with_reducible refine (trivetref01_at.calls _ _ l0 x7_1 o _ ?side1 ?side2 A7.out).mono ?_);(case side1=>repeat (first|exact (Kd.C_below HR0.out HB.out)|(with_reducible refine Kd.C_alloc ?_ _)|(with_reducible refine Kd.C_drewN ?_ _)|(with_reducible refine Kd.C_drew ?_)));(case side2=>exact O.out);rintro e w' ⟨rfl,⟨nd,rfl⟩⟩;refine ⟨_,rfl,?_⟩)|((with_reducible refine gate_callee (f:=36) rfl ?_);refine kg (some 30) rfl rfl Try.func36 (by kernel_rfl) rfl #[.slice L l1.length c1,.int .i64 x7_1] rfl ?_;(with_reducible refine (trivetref01_at.calls _ _ l1 x7_1 l _ ?side1 ?side2 A8.out).mono ?_);(case side1=>repeat (first|exact (Kd.C_below HR1.out (kw HB.out))|(with_reducible refine Kd.C_alloc ?_ _)|(with_reducible refine Kd.C_drewN ?_ _)|(with_reducible refine Kd.C_drew ?_)));(case side2=>exact a4.out);rintro e w' ⟨rfl,⟨nd,rfl⟩⟩;refine ⟨_,rfl,?_⟩)|((with_reducible refine gate_builtin (b:=.append) (xs:=#[.tmp 34,.tmp 37]) rfl ?_);(try (refine gate_guard (by rfl) ?_;dsimp only));at_builtin;refine Kd.R_append (Kd.int .u64) (w0:=w) w.heap.size rfl (.tmp 34) (.tmp 37) 32 42 (.int .u64 0) 8 rfl Try.underlying32 info42 rfl (by decide) (by omega) u5 x5_1 (Int.tmod (IntKind.u64.wrap ((IntKind.u64.wrap (o + l)) + x6_1)) 65536) [.int .u64 (Int.tmod (IntKind.u64.wrap ((IntKind.u64.wrap (o + l)) + x6_1)) 65536)] (fun _=>True) (fun _=>False) rfl rfl ?aP (fun _ hk=>hk.elim) ?aF ?aO ?aB ?aS ?aL ?_;(case aP=>exact rfl);(case aB=>exact (kw HB.out));(case aF=>exact (fun _ _=>trivial));(case aO=>exact (kr G.out));(case aS=>exact (below_size (kw HB.out)));(case aL=>have:=LMc9.out;omega);intro d9 e6 ho hb hg hat;rw [← Ny450.out] at ho;replace HB:=ka (hb);have a2:=ka (ho);clear G;clear ho hb hg hat))
       go_roundg kj2
       case measure=>have:=HK1.out;have:=a5.out;omega
       case rel=>exact ⟨(y450),(IntKind.u64.wrap (Int.tdiv (IntKind.u64.wrap ((IntKind.u64.wrap (o + l)) + x6_1)) 65536)),(wrap64 (x7_1 + 1)),(by first|rfl|(simp;done)|(simp [*];done)),(by first|rfl|(simp;done)|(simp [*];done)),H',⟨by have:=HK1.out;have:=a5.out;omega⟩,⟨kr a2.out⟩,⟨by repeat (first|(with_reducible first|exact HB.out|apply kc1|apply kc2|apply kc3)|exact HB.out)⟩⟩
      ·rw [if_neg c9] at H
       exact absurd H (by simp)
     ·replace c6:=Bool.eq_false_iff.mpr c6;subst c6;have H1 : (some x5_1) = some r:=by rw [if_neg (show ¬ (false = true) by decide)] at H;exact H
      clear H;have H:=H1;clear H1;obtain rfl:=Option.some.inj H;go_wp2
      go_ret
      exact ⟨_,by first|rfl|(simp [errW_none,errW_some] <;> rfl)|(simp [*,errW_none,errW_some] <;> rfl),by (with_reducible repeat (first|apply Kd.R_alloc|apply Kd.R_drewN|apply Kd.R_drew));exact G.out,by repeat (first|(with_reducible first|exact HB.out|apply kc1|apply kc2|apply kc3)|exact HB.out)⟩

/-! ### trivetref01_plus: function 27,its laws -/
theorem trivetref01_plus.step (k : Nat) (a b acc : List Int) (c : Int) (i : Nat) (ha : U.Dg a) (hb : U.Dg b) (hc : 0≤c∧c≤1) (hi : i < 1000000) (hl : acc.length < 1000000) : trivetref01_plus.j1 (k + 1) a b acc c i true = trivetref01_plus.l0 k a b (acc ++ [(a.getD i 0 + b.getD i 0 + c) % 65536]) ((a.getD i 0 + b.getD i 0 + c) / 65536) ((i + 1 : Nat) : Int):=by
 have ga:=ha.get i;have gb:=hb.get i;simp only [trivetref01_plus.j1]
 rw [if_pos trivial,trivetref01_at.num,Option.bind_some,trivetref01_at.num,Option.bind_some,if_pos (by omega)]
 generalize a.getD i 0 = x at *;generalize b.getD i 0 = y at *;rw [M.wrapu_id (n:=x + y) (by omega) (by omega),M.wrapu_id (n:=x + y + c) (by omega) (by omega),M.tdivu (show 0≤x + y + c by omega),M.tmodu (show 0≤x + y + c by omega),M.wrapu_id (n:=(x + y + c) / 65536) (by omega) (by omega),M.w64_id (n:=(i : Int) + 1) (by omega) (by omega)]
 rfl
theorem trivetref01_plus.loop (n : Nat) : ∀ (k : Nat) (a b acc : List Int) (c : Int) (i : Nat),U.Dg a→U.Dg b→U.Dg acc→0≤c∧c≤1→a.length≤i + n→b.length≤i + n→(a.length = i + n∨b.length = i + n)→acc.length = i→i + n < 500000→2 * n + 4≤k→
  ∃ out,trivetref01_plus.l0 k a b acc c i = some out∧U.Dg out∧U.val out = U.val acc + 65536 ^ i * (U.val (a.drop i) + U.val (b.drop i) + c)∧out.length≤i + n + 1:=by
 induction n with
 | zero=>
  intro k a b acc c i ha hb hacc hc la lb lab hl hi hk;obtain ⟨j,rfl⟩ : ∃ j,k = j + 2 + 2:=⟨k - 4,by omega⟩
  rw [List.drop_eq_nil_of_le (by omega),List.drop_eq_nil_of_le (by omega)]
  simp only [trivetref01_plus.l0]
  rw [if_neg (by omega),if_neg (by omega)]
  by_cases h : c > 0
  ·rw [decide_eq_true h,show j + 2 + 1 = (j + 2) + 1 from rfl,trivetref01_plus.step _ _ _ _ _ _ ha hb hc (by omega) (by omega)]
   have e1 : a.getD i 0 = 0:=by rw [List.getD_eq_getElem?_getD,List.getElem?_eq_none (by omega)];rfl
   have e2 : b.getD i 0 = 0:=by rw [List.getD_eq_getElem?_getD,List.getElem?_eq_none (by omega)];rfl
   have ec : c = 1:=by omega
   subst ec;rw [e1,e2]
   simp only [trivetref01_plus.l0]
   rw [if_neg (by omega),if_neg (by omega),decide_eq_false (by decide)]
   simp only [trivetref01_plus.j1]
   rw [if_neg (by decide)]
   refine ⟨_,rfl,hacc.add (U.Dg.one (by decide)),?_,by simp;omega⟩;rw [U.val_append,U.val_one,hl]
   simp [U.val]
  ·have ec : c = 0:=by omega
   subst ec;rw [decide_eq_false h]
   simp only [trivetref01_plus.j1]
   rw [if_neg (by decide)]
   exact ⟨_,rfl,hacc,by simp [U.val],by omega⟩
 | succ n ih=>
  intro k a b acc c i ha hb hacc hc la lb lab hl hi hk;obtain ⟨j,rfl⟩ : ∃ j,k = j + 1 + 1:=⟨k - 2,by omega⟩
  have e : trivetref01_plus.l0 (j + 1 + 1) a b acc c i = trivetref01_plus.j1 (j + 1) a b acc c i true:=by
   simp only [trivetref01_plus.l0]
   by_cases h : (i : Int) < a.length
   ·rw [if_pos h]
   ·rw [if_neg h,if_pos (by omega)]
  have ga:=ha.get i;have gb:=hb.get i;obtain ⟨out,o1,o2,o3,o4⟩:=ih j a b (acc ++ [(a.getD i 0 + b.getD i 0 + c) % 65536]) ((a.getD i 0 + b.getD i 0 + c) / 65536) (i + 1) ha hb (hacc.add (U.Dg.one (by omega))) (by omega) (by omega) (by omega) (by omega) (by simp;omega) (by omega) (by omega);refine ⟨out,?_,o2,?_,by omega⟩
  ·rw [e,trivetref01_plus.step _ _ _ _ _ _ ha hb hc (by omega) (by omega),o1]
  ·rw [o3,U.val_append,U.val_one,hl,U.pow_succ,U.drop_step a i,U.drop_step b i]
   generalize a.getD i 0 = x at *;generalize b.getD i 0 = y at *;have hx : (x + y + c) % 65536 + 65536 * ((x + y + c) / 65536) = x + y + c:=by omega
   generalize (x + y + c) % 65536 = r at *;generalize (x + y + c) / 65536 = q at *;generalize U.val (a.drop (i + 1)) = u;generalize U.val (b.drop (i + 1)) = v;have : x + 65536 * u + (y + 65536 * v) + c = r + 65536 * (u + v + q):=by omega
   rw [this]
   generalize u + v + q = s;generalize (65536 : Int) ^ i = p;rw [Int.mul_add,Int.mul_comm 65536 p,Int.mul_assoc,Int.add_assoc]
theorem trivetref01_plus.num (k : Nat) (a b : List Int) (ha : U.Dg a) (hb : U.Dg b) (la : a.length≤1000) (lb : b.length≤1000) (hk : 2 * a.length + 2 * b.length + 4≤k) :
  ∃ out,trivetref01_plus.f k a b = some out∧U.Dg out∧U.val out = U.val a + U.val b∧out.length≤max a.length b.length + 1:=by
 obtain ⟨out,o1,o2,o3,o4⟩:=trivetref01_plus.loop (max a.length b.length) k a b [] 0 0 ha hb U.Dg.nil (by omega) (by omega) (by omega) (by omega) rfl (by omega) (by omega);refine ⟨out,o1,o2,?_,by omega⟩;rw [o3]
 simp [U.val]

/-! ### trivetref01_norm: function 28 -/
def trivetref01_norm.l0 : Nat→List Int→Bool→Option (List Int × Bool)
 | 0,_,_=>none
 | k + 1,x0,x1=>if (x0.length : Int) > 0 then (if 0≤(wrap64 ((x0.length : Int) - 1)) then (if (wrap64 ((x0.length : Int) - 1)) < (x0.length : Int) then (if (rd x0 (wrap64 ((x0.length : Int) - 1))) = 0 then (if (wrap64 ((x0.length : Int) - 1))≤(x0.length : Int) then (trivetref01_norm.l0 k (x0.take ((wrap64 ((x0.length : Int) - 1)) : Int).toNat) x1) else (none)) else (if x1 = true then (some (x0,true)) else (some (x0,false)))) else (none)) else (none)) else (if x1 = true then (some (x0,false)) else (some (x0,false)))
def trivetref01_norm.f (k : Nat) (l0 : List Int) (a1 : Bool) : Option (List Int × Bool):=trivetref01_norm.l0 k l0 a1
set_option maxHeartbeats 8000000 in
set_option maxRecDepth 100000 in
theorem trivetref01_norm.calls (k : Nat) (P0_ : Nat→Prop) (I : Option Addr) (c0 : Nat) (l0 : List Int) (a1 : Bool) (r1 : List Int) (r2 : Bool) (w : World) (hs0 : Kd.V (Kd.int .u64) 42 w w.heap.size (fun D=>P0_ D) (.slice I l0.length c0) l0) (h : trivetref01_norm.f k l0 a1 = some (r1,r2)) :
  Calls Try.prog 28 #[.slice I l0.length c0,.bool a1] w fun e w'=>∃ v0_ : Value,e = .returned (.agg #[v0_,.bool r2])∧Kd.V (Kd.int .u64) 42 w' w.heap.size (fun D=>(P0_ D∨w.heap.size≤D)) v0_ r1∧Below w.heap.size w w':=by
 have hu34:=Try.underlying34;have K:=ka (show Kd.V (Kd.int .u64) 42 w w.heap.size (fun D=>(P0_ D∨w.heap.size≤D)) (.slice I l0.length c0) l0 from Kd.V_mono hs0 (fun D hk=>.inl hk));have HB:=ka (Below.refl w.heap.size w);have H : (trivetref01_norm.l0 k l0 a1) = some (r1,r2):=h;clear h;have H':=ka H;clear H;go_enter Try.func28,Try.ntmps28
 go_wp2_with (first|((with_reducible refine gate_dst (N:=4) rfl ?_);(try (refine gate_guard (by rfl) ?_;dsimp only));refine kx (N:=4) (cs:=#[.slice none 0 0,.bool false]) (t:=34) ?_;intro g hg w3 hbox hb;have a8:=ka (Kd.V_below (Kd.V_elderB (kv K.out) g (Nat.le_of_eq hg.symm)) hb);have a9:=ka (below_step (kw HB.out) hb);have b0:=ka (hbox);have S:=ka ((by rw [hg];exact (below_size (kw HB.out)) : w.heap.size≤g));have b1:=S;clear K;clear HB;have K:=a8;have HB:=a9;have A:=b0;have b9:=S;have E:=b1;clear a8 a9 b0 S b1;clear hb hbox hg))
 (try simp only [Act.put,List.setIfInBounds_toArray,List.set_cons_zero,List.set_cons_succ]);go_loopg [0] k (fun kq v0 w'=>∃ (x0_1 : List Int),Aside0 (trivetref01_norm.l0 kq x0_1 a1 = some (r1,r2))∧Aside0 (kq≤k)∧Aside0 (Kd.V (Kd.int .u64) 42 w' w.heap.size (fun D=>(P0_ D∨w.heap.size≤D)∧D≠g) v0 x0_1)∧Aside0 (w'.heap[g]? = some (.cells #[(.slice none 0 0),.bool false] 34 (0,0)))∧Aside0 (Below w.heap.size w w'))
 case atStart=>exact ⟨(l0),H',⟨Nat.le_refl _⟩,⟨kv K.out⟩,⟨by (with_reducible repeat (first|apply kb1|apply kb2|apply kb3));exact A.out⟩,⟨by repeat (first|(with_reducible first|exact HB.out|apply kc1|apply kc2|apply kc3|refine kc4 ?_ E.out)|exact HB.out)⟩⟩
 case round=>
  clear H';try clear c2
  try clear p2
  obtain ⟨x0_1,HA,HK1,B,A,HB⟩:=hrel;cases gk with
  | zero=>exact absurd HA.out (by simp [trivetref01_norm.l0])
  | succ k1=>
   have H:=HA.out;clear HA;simp only [trivetref01_norm.l0] at H
   by_cases c4 : (x0_1.length : Int) > 0
   ·rw [if_pos c4] at H
    have c4b0 : decide (0 < (x0_1.length : Int)) = true:=decide_eq_true c4;have c4b1 : decide (0 < x0_1.length) = true:=decide_eq_true (by omega);clear c4;obtain ⟨ji5,hji5⟩ : ∃ j_ : Int,(wrap64 ((x0_1.length : Int) - 1)) = j_:=⟨_,rfl⟩
    replace H : (if 0≤(ji5) then (if (ji5) < (x0_1.length : Int) then (if (rd x0_1 (ji5)) = 0 then (if (ji5)≤(x0_1.length : Int) then (trivetref01_norm.l0 k1 (x0_1.take ((ji5) : Int).toNat) a1) else (none)) else (if a1 = true then (some (x0_1,true)) else (some (x0_1,false)))) else (none)) else (none)) = some (r1,r2):=by first|(rw [hji5] at H;exact H)|(simp only [hji5] at H ⊢;exact H)
    have hji5w : (IntKind.i64.wrap ((x0_1.length : Int) - 1)) = ji5:=(i64_w _).trans hji5;by_cases c6 : 0≤(ji5)
    ·rw [if_pos c6] at H
     have c6b0 : decide (0≤(ji5)) = true:=decide_eq_true c6;clear c6;by_cases c7 : (ji5) < (x0_1.length : Int)
     ·rw [if_pos c7] at H
      have c7b0 : decide ((ji5) < (x0_1.length : Int)) = true:=decide_eq_true c7;clear c7;by_cases c8 : (rd x0_1 (ji5)) = 0
      ·rw [if_pos c8] at H
       have c8b0 : ((rd x0_1 (ji5)) == 0) = true:=beq_iff_eq.mpr c8;have c8b1 : ((rd x0_1 (ji5)) != 0) = false:=bne_eq_false_iff_eq.mpr c8;clear c8;have c9b0:=eq_true (of_decide_eq_true (by first|(with_reducible assumption)|assumption) : 0≤(ji5));by_cases c10 : (ji5)≤(x0_1.length : Int)
       ·rw [if_pos c10] at H
        have c10b0:=eq_true c10;have c10b1 : decide ((ji5)≤(x0_1.length : Int)) = true:=decide_eq_true c10;clear c10;obtain ⟨y455,hy455⟩ : ∃ y_ : List Int,y_ = (x0_1.take ((ji5) : Int).toNat):=⟨_,rfl⟩
        replace H : (trivetref01_norm.l0 k1 y455 a1) = some (r1,r2):=by first|(rw [hy455];with_reducible exact H)|(have H2_:=(Option.bind_some _ _).symm.trans H;rw [hy455];with_reducible exact H2_)|(have H2_:=(Option.bind_some _ _).symm.trans H;with_reducible exact H2_)|with_reducible exact H|(rw [hy455];exact H)|exact H
        have Ny455:=ka hy455;clear hy455;have H':=ka H;clear H;obtain ⟨e3,J,b3⟩:=Kd.V_slice B.out;subst b3;have p454 : 0≤((ji5) : Int):=of_decide_eq_true (by first|(with_reducible assumption)|assumption);have q454 : (ji5) < (x0_1.length : Int):=of_decide_eq_true (by first|(with_reducible assumption)|assumption);obtain ⟨ad454,e454,hx454_0⟩:=Kd.at_int (Kd.V_reads' B.out).2.2 (ji5) p454 q454;cases e454
        replace p454:=eq_true p454;replace q454:=eq_true q454;have q12 : ((ji5) : Int)≤((x0_1.length : Int) : Int):=of_decide_eq_true (by first|(with_reducible assumption)|assumption);obtain ⟨i012,hi012,_,hsz12,_⟩:=info_parts info42;have hroom12 : x0_1.length≤J:=(Kd.V_reads' B.out).2.1;have hC12 : Kd.F (Kd.int .u64) _ _ (some ad454) x0_1.length x0_1:=(Kd.V_at (base:=w.heap.size) B.out).2.2;have hcut12:=cut_to (P:=Try.prog) 32 42 .i64 Try.underlying32 hi012 (some ad454) x0_1.length J (ji5) (of_decide_eq_true (by first|(with_reducible assumption)|assumption)) q12 hroom12;have hr12:=Kd.F_take (m:=((ji5) : Int).toNat) hC12 (by omega);have hy12 : y455.length = ((ji5) : Int).toNat:=(by rw [Ny455.out,List.length_take];omega)
        rw [← Ny455.out] at hr12
        rw [← hy12] at hcut12
        have a3:=ka (show Kd.V (Kd.int .u64) 42 _ w.heap.size _ (.slice (some ad454) y455.length J) y455 from Kd.V_mk (by omega) hr12);have d0:=ka (show y455.length≤J from by omega);clear hr12 hC12 hroom12 hi012 hsz12;have KY12:=ka hy12;clear hy12;replace q12:=eq_true q12;go_wp2
        go_roundg k1
        case measure=>have:=HK1.out;omega
        case rel=>exact ⟨(y455),H',⟨by have:=HK1.out;omega⟩,⟨kv a3.out⟩,⟨by (with_reducible repeat (first|apply kb1|apply kb2|apply kb3));exact A.out⟩,⟨by repeat (first|(with_reducible first|exact HB.out|apply kc1|apply kc2|apply kc3|refine kc4 ?_ E.out)|exact HB.out)⟩⟩
       ·rw [if_neg c10] at H
        exact absurd H (by simp)
      ·rw [if_neg c8] at H
       have c8b0 : ((rd x0_1 (ji5)) == 0) = false:=beq_eq_false_iff_ne.mpr c8;have c8b1 : ((rd x0_1 (ji5)) != 0) = true:=bne_iff_ne.mpr c8;by_cases c13 : a1 = true
       ·subst c13;have H1 : (some (x0_1,true)) = some (r1,r2):=by rw [if_pos rfl] at H;exact H
        clear H;have H:=H1;clear H1;simp only [Option.some.injEq,Prod.mk.injEq] at H
        obtain ⟨rfl,rfl⟩:=H;obtain ⟨e4,T,b4⟩:=Kd.V_slice B.out;subst b4;have p454 : 0≤((ji5) : Int):=of_decide_eq_true (by first|(with_reducible assumption)|assumption);have q454 : (ji5) < (x0_1.length : Int):=of_decide_eq_true (by first|(with_reducible assumption)|assumption);obtain ⟨ad454,e454,hx454_0⟩:=Kd.at_int (Kd.V_reads' B.out).2.2 (ji5) p454 q454;cases e454
        replace p454:=eq_true p454;replace q454:=eq_true q454;have d1:=blkAll2 A.out;go_wp2
        refine bodyPost_ret (results_cell_row rfl _ _ g 34 #[.slice (some ad454) x0_1.length T,.bool true] (0,0) _ rfl (by (with_reducible repeat (first|apply kb1|apply kb2|apply kb3|apply blkPut2_1|apply blkPut2_0));exact A.out) Try.underlying34 rfl (by kernel_rfl)) rfl ?_;exact ⟨_,by first|rfl|(simp [errW_none,errW_some] <;> rfl)|(simp only [← hji5];first|rfl|(simp [errW_none,errW_some] <;> rfl))|(simp [*,errW_none,errW_some] <;> rfl),by (with_reducible repeat (first|apply Kd.V_alloc|apply Kd.V_drewN|apply Kd.V_drew));exact Kd.V_mono (Kd.V_far (p:=⟨g,1,none⟩) (Kd.V_far (p:=⟨g,0,none⟩) (Kd.V_mono B.out (fun D hk=>(⟨hk,hk.2⟩ : _∧D≠g))) (fun _ hk=>hk.2) (.slice (some ad454) x0_1.length T)) (fun _ hk=>hk.2) (.bool true)) (fun _ hk=>hk.1.1),by repeat (first|(with_reducible first|exact HB.out|apply kc1|apply kc2|apply kc3|refine kc4 ?_ E.out)|exact HB.out)⟩
       ·replace c13:=Bool.eq_false_iff.mpr c13;subst c13;have H1 : (some (x0_1,false)) = some (r1,r2):=by rw [if_neg (show ¬ (false = true) by decide)] at H;exact H
        clear H;have H:=H1;clear H1;simp only [Option.some.injEq,Prod.mk.injEq] at H
        obtain ⟨rfl,rfl⟩:=H;obtain ⟨e5,W,b5⟩:=Kd.V_slice B.out;subst b5;have p454 : 0≤((ji5) : Int):=of_decide_eq_true (by first|(with_reducible assumption)|assumption);have q454 : (ji5) < (x0_1.length : Int):=of_decide_eq_true (by first|(with_reducible assumption)|assumption);obtain ⟨ad454,e454,hx454_0⟩:=Kd.at_int (Kd.V_reads' B.out).2.2 (ji5) p454 q454;cases e454
        replace p454:=eq_true p454;replace q454:=eq_true q454;have d2:=blkAll2 A.out;go_wp2
        refine bodyPost_ret (results_cell_row rfl _ _ g 34 #[.slice (some ad454) x0_1.length W,.bool false] (0,0) _ rfl (by (with_reducible repeat (first|apply kb1|apply kb2|apply kb3|apply blkPut2_1|apply blkPut2_0));exact A.out) Try.underlying34 rfl (by kernel_rfl)) rfl ?_;exact ⟨_,by first|rfl|(simp [errW_none,errW_some] <;> rfl)|(simp only [← hji5];first|rfl|(simp [errW_none,errW_some] <;> rfl))|(simp [*,errW_none,errW_some] <;> rfl),by (with_reducible repeat (first|apply Kd.V_alloc|apply Kd.V_drewN|apply Kd.V_drew));exact Kd.V_mono (Kd.V_far (p:=⟨g,1,none⟩) (Kd.V_far (p:=⟨g,0,none⟩) (Kd.V_mono B.out (fun D hk=>(⟨hk,hk.2⟩ : _∧D≠g))) (fun _ hk=>hk.2) (.slice (some ad454) x0_1.length W)) (fun _ hk=>hk.2) (.bool false)) (fun _ hk=>hk.1.1),by repeat (first|(with_reducible first|exact HB.out|apply kc1|apply kc2|apply kc3|refine kc4 ?_ E.out)|exact HB.out)⟩
     ·rw [if_neg c7] at H
      exact absurd H (by simp)
    ·rw [if_neg c6] at H
     exact absurd H (by simp)
   ·rw [if_neg c4] at H
    have c4b0 : decide (0 < (x0_1.length : Int)) = false:=decide_eq_false c4;have c4b1 : decide (0 < x0_1.length) = false:=decide_eq_false (by omega);clear c4;by_cases c18 : a1 = true
    ·subst c18;have H1 : (some (x0_1,false)) = some (r1,r2):=by rw [if_pos rfl] at H;exact H
     clear H;have H:=H1;clear H1;simp only [Option.some.injEq,Prod.mk.injEq] at H
     obtain ⟨rfl,rfl⟩:=H;obtain ⟨X,Y,b6⟩:=Kd.V_slice B.out;subst b6;have d3:=blkAll2 A.out;go_wp2
     refine bodyPost_ret (results_cell_row rfl _ _ g 34 #[.slice X x0_1.length Y,.bool false] (0,0) _ rfl (by (with_reducible repeat (first|apply kb1|apply kb2|apply kb3|apply blkPut2_1|apply blkPut2_0));exact A.out) Try.underlying34 rfl (by kernel_rfl)) rfl ?_;exact ⟨_,by first|rfl|(simp [errW_none,errW_some] <;> rfl)|(simp [*,errW_none,errW_some] <;> rfl),by (with_reducible repeat (first|apply Kd.V_alloc|apply Kd.V_drewN|apply Kd.V_drew));exact Kd.V_mono (Kd.V_far (p:=⟨g,1,none⟩) (Kd.V_far (p:=⟨g,0,none⟩) (Kd.V_mono B.out (fun D hk=>(⟨hk,hk.2⟩ : _∧D≠g))) (fun _ hk=>hk.2) (.slice X x0_1.length Y)) (fun _ hk=>hk.2) (.bool false)) (fun _ hk=>hk.1.1),by repeat (first|(with_reducible first|exact HB.out|apply kc1|apply kc2|apply kc3|refine kc4 ?_ E.out)|exact HB.out)⟩
    ·replace c18:=Bool.eq_false_iff.mpr c18;subst c18;have H1 : (some (x0_1,false)) = some (r1,r2):=by rw [if_neg (show ¬ (false = true) by decide)] at H;exact H
     clear H;have H:=H1;clear H1;simp only [Option.some.injEq,Prod.mk.injEq] at H
     obtain ⟨rfl,rfl⟩:=H;obtain ⟨Z,a0,b7⟩:=Kd.V_slice B.out;subst b7;have d4:=blkAll2 A.out;go_wp2
     refine bodyPost_ret (results_cell_row rfl _ _ g 34 #[.slice Z x0_1.length a0,.bool false] (0,0) _ rfl (by (with_reducible repeat (first|apply kb1|apply kb2|apply kb3|apply blkPut2_1|apply blkPut2_0));exact A.out) Try.underlying34 rfl (by kernel_rfl)) rfl ?_;exact ⟨_,by first|rfl|(simp [errW_none,errW_some] <;> rfl)|(simp [*,errW_none,errW_some] <;> rfl),by (with_reducible repeat (first|apply Kd.V_alloc|apply Kd.V_drewN|apply Kd.V_drew));exact Kd.V_mono (Kd.V_far (p:=⟨g,1,none⟩) (Kd.V_far (p:=⟨g,0,none⟩) (Kd.V_mono B.out (fun D hk=>(⟨hk,hk.2⟩ : _∧D≠g))) (fun _ hk=>hk.2) (.slice Z x0_1.length a0)) (fun _ hk=>hk.2) (.bool false)) (fun _ hk=>hk.1.1),by repeat (first|(with_reducible first|exact HB.out|apply kc1|apply kc2|apply kc3|refine kc4 ?_ E.out)|exact HB.out)⟩

/-! ### trivetref01_norm: function 28,its laws -/
theorem trivetref01_norm.tells (k : Nat) : ∀ (d : List Int) (m : Bool),U.Dg d→d.length < k→(d.length : Int) < 9223372036854775808→trivetref01_norm.f k d m = some (U.dig (U.val d),m && !(U.dig (U.val d)).isEmpty):=by
 induction k with
 | zero=>intro d m _ h _;omega
 | succ k ih=>
  intro d m hd h hl;unfold trivetref01_norm.f
  simp only [trivetref01_norm.l0]
  rcases List.eq_nil_or_concat d with rfl|⟨r,x,rfl⟩
  ·rw [if_neg (by simp)]
   simp only [U.val,U.dig_zero]
   cases m <;> simp
  ·rw [List.concat_eq_append] at *
   have hlen : (r ++ [x]).length = r.length + 1:=by simp
   have hw : wrap64 (((r ++ [x]).length : Int) - 1) = r.length:=by rw [hlen,M.w64_id (by omega) (by omega)];omega
   rw [if_pos (by omega),hw,if_pos (by omega),if_pos (by omega)]
   have hr : rd (r ++ [x]) (r.length : Int) = x:=by simp [rd]
   rw [hr]
   by_cases hx : x = 0
   ·subst hx;rw [if_pos rfl,if_pos (by omega)]
    have ht : (r ++ [(0 : Int)]).take ((r.length : Int)).toNat = r:=by simp
    rw [ht,U.val_append,U.val_one,Int.mul_zero,Int.add_zero]
    exact ih r m hd.left (by omega) (by omega)
   ·rw [if_neg hx,U.dig_val_top hd hx]
    cases m <;> simp
theorem trivetref01_norm.num (k : Nat) (d : List Int) (m : Bool) (z : Int) (hd : U.Dg d) (h : d.length < k) (hl : (d.length : Int) < 9223372036854775808) (hz : z = if m = true then -U.val d else U.val d) : trivetref01_norm.f k d m = some (U.num z):=by
 rw [trivetref01_norm.tells k d m hd h hl,U.num_of (U.val_nonneg hd) hz]

end Go.Proofs.Ytcpmfdagnchlbaa.P
