-- Written by a program of this session out of the translation of the seat: Lean functions and the proofs that the Go functions come to them.
import Derived.Test.YtjeghhheenenbaaPx0
import Derived.Test.YtjeghhheenenbaaPx5
import Derived.Test.YtjeghhheenenbaaPx6
import Derived.Test.YtjeghhheenenbaaPx7
import Derived.Test.YtjeghhheenenbaaPx8
namespace Go.Proofs.Ytjeghhheenenbaa.P
open Go.RowKit Go.Proofs.YtjeghhheenenbaaW.PrintWords Go.Proofs.YtjeghhheenenbaaW.PrintLast Go.Proofs.YtjeghhheenenbaaW.PrintMore
attribute [local go_sem] max2_int min2_int max_two min_two max_three min_three max_four min_four   -- for this text's walks alone
set_option linter.unusedVariables false
set_option linter.unusedSimpArgs false

/-! ### trivetref16_Of: function 10, its laws -/
theorem trivetref16_money.num (a : Int) : trivetref16_money.f a = some (decide (-10000000000000 ≤ a ∧ a ≤ 10000000000000)) := by
 unfold trivetref16_money.f
 by_cases c : a ≥ -10000000000000
 ·rw [if_pos c]; simp; omega
 ·rw [if_neg c]; simp; omega
theorem trivetref16_Of.bad (k : Nat) (y p c s lo : Int) (bal : List Int) (t : Int) (cur : Bool) (hk : 1 ≤ k) : trivetref16_Of.j0 k t cur true y p c s lo bal 0 0 0 0 = some (0, 0, 0, 0, [], false) := by
 obtain ⟨j, rfl⟩ : ∃ j, k = j + 1 := ⟨k - 1, by omega⟩
 simp [trivetref16_Of.j0]
theorem trivetref16_Of.bad2 (k : Nat) (y p c s lo : Int) (bal : List Int) (cur : Bool) (a b d e : Int) (hk : 1 ≤ k) : trivetref16_Of.j2 k cur true y p c s lo bal a b d e = some (0, 0, 0, 0, [], false) := by
 obtain ⟨j, rfl⟩ : ∃ j, k = j + 1 := ⟨k - 1, by omega⟩
 simp [trivetref16_Of.j2]
theorem trivetref16_Of.j4_num (k : Nat) (y p c s lo : Int) (bal : List Int) (spr r su sh de : Int) (h1 : 0 ≤ spr ∧ spr ≤ 10000000000000) (h2 : 0 ≤ sh ∧ sh ≤ 10000000000000) (h3 : 0 ≤ de ∧ de ≤ 10000000000000) (hk : 100 ≤ k) :
  trivetref16_Of.j4 k y p c s lo bal su sh de r (Spr.mk fun j => -Spr.ev spr 12 j) = some (su, sh, de, r, Spr.mk (fun j => -Spr.ev spr 12 j + Spr.ev sh 12 j + Spr.ev de (if de < p then 2 else 12) j), true) := by
 obtain ⟨j, rfl⟩ : ∃ j, k = j + 1 := ⟨k - 1, by omega⟩
 have b1 := fun j => Spr.ev_in h1 (show (1 : Int) ≤ 12 by omega) j
 have b2 := fun j => Spr.ev_in h2 (show (1 : Int) ≤ 12 by omega) j
 simp only [trivetref16_Of.j4]
 have e2 := trivetref16_spread.num j sh 1 12 (fun j => -Spr.ev spr 12 j) h2 (by omega) (.inl rfl) (fun j => by have := b1 j; omega) (by omega)
 rw [show ((12 : Nat) : Int) = 12 from rfl] at e2
 rw [e2, Option.bind_some]
 by_cases c6 : de < p
 ·rw [if_pos c6]
  have e3 := trivetref16_spread.num j de 1 2 (fun j => -Spr.ev spr 12 j + 1 * Spr.ev sh 12 j) h3 (by omega) (.inl rfl) (fun j => by have := b1 j; have := b2 j; omega) (by omega)
  rw [show ((2 : Nat) : Int) = 2 from rfl] at e3
  rw [e3, Option.bind_some, if_pos c6]
  congr 6
  exact Spr.ext (fun j _ => by omega)
 ·rw [if_neg c6]
  have e3 := trivetref16_spread.num j de 1 12 (fun j => -Spr.ev spr 12 j + 1 * Spr.ev sh 12 j) h3 (by omega) (.inl rfl) (fun j => by have := b1 j; have := b2 j; omega) (by omega)
  rw [show ((12 : Nat) : Int) = 12 from rfl] at e3
  rw [e3, Option.bind_some, if_neg c6]
  congr 6
  exact Spr.ext (fun j _ => by omega)
theorem trivetref16_Of.j1_num (k : Nat) (y p c s lo : Int) (bal : List Int) (t : Int) (cur : Bool) (h : Spr.may p s t ∨ (¬ (Spr.su s t ≤ 10000000000000 ∧ Spr.sho s t ≤ 10000000000000 ∧ Spr.de s t ≤ 10000000000000) ∧ ¬ Spr.may p s t)) (hk : 200 ≤ k) :
  trivetref16_Of.j1 k cur y p c s lo bal (Spr.su s t) (Spr.sho s t) (Spr.de s t) 0 = some (if Spr.may p s t then (Spr.su s t, Spr.sho s t, Spr.de s t, Spr.re s t cur, Spr.mk (Spr.mo p s t cur), true) else (0, 0, 0, 0, [], false)) := by
 obtain ⟨j, rfl⟩ : ∃ j, k = j + 3 := ⟨k - 3, by omega⟩
 have nn := Spr.nn s t
 simp only [trivetref16_Of.j1]
 rw [trivetref16_money.num, Option.bind_some]
 by_cases c1 : -10000000000000 ≤ Spr.su s t ∧ Spr.su s t ≤ 10000000000000
 rotate_left
 ·have hn : ¬ Spr.may p s t := fun h => c1 ⟨by omega, h.2.2.2.1⟩
  rw [if_neg (by simpa using c1), trivetref16_Of.bad2 _ _ _ _ _ _ _ _ _ _ _ _ (by omega), if_neg hn]
 rw [if_pos (by simpa using c1), trivetref16_money.num, Option.bind_some]
 by_cases c2 : -10000000000000 ≤ Spr.sho s t ∧ Spr.sho s t ≤ 10000000000000
 rotate_left
 ·have hn : ¬ Spr.may p s t := fun h => c2 ⟨by omega, h.2.2.2.2.1⟩
  rw [if_neg (by simpa using c2), trivetref16_Of.bad2 _ _ _ _ _ _ _ _ _ _ _ _ (by omega), if_neg hn]
 rw [if_pos (by simpa using c2), trivetref16_money.num, Option.bind_some]
 by_cases c3 : -10000000000000 ≤ Spr.de s t ∧ Spr.de s t ≤ 10000000000000
 rotate_left
 ·have hn : ¬ Spr.may p s t := fun h => c3 ⟨by omega, h.2.2.2.2.2⟩
  rw [decide_eq_false c3, Bool.not_false, trivetref16_Of.bad2 _ _ _ _ _ _ _ _ _ _ _ _ (by omega), if_neg hn]
 rw [decide_eq_true c3, Bool.not_true]
 have hm : Spr.may p s t := by
  rcases h with h | h
  ·exact h
  ·exact absurd ⟨c1.2, c2.2, c3.2⟩ h.1
 rw [if_pos hm]
 simp only [trivetref16_Of.j2]
 rw [if_neg (by decide), if_pos (by decide), Option.bind_some]
 have key : ∀ (spr r : Int), 0 ≤ spr ∧ spr ≤ 10000000000000 → spr = Spr.su s t - Spr.re s t cur → r = Spr.re s t cur →
   trivetref16_Of.j4 j y p c s lo bal (Spr.su s t) (Spr.sho s t) (Spr.de s t) r (Spr.mk fun j => -Spr.ev spr 12 j) = some (Spr.su s t, Spr.sho s t, Spr.de s t, Spr.re s t cur, Spr.mk (Spr.mo p s t cur), true) := by
  rintro spr r hspr rfl rfl
  rw [trivetref16_Of.j4_num j y p c s lo bal _ _ _ _ _ hspr ⟨nn.2.1, c2.2⟩ ⟨nn.2.2, c3.2⟩ (by omega)]
  rfl
 have ri := Spr.re_in s t cur
 have no : Spr.re s t cur = 0 → ((trivetref16_spread.f j (List.replicate 12 0) (Spr.su s t) 12 (-1)).bind fun t214 => trivetref16_Of.j4 j y p c s lo bal (Spr.su s t) (Spr.sho s t) (Spr.de s t) 0 t214) = some (Spr.su s t, Spr.sho s t, Spr.de s t, Spr.re s t cur, Spr.mk (Spr.mo p s t cur), true) := by
  intro e
  have e1 := trivetref16_spread.num j (Spr.su s t) (-1) 12 (fun _ => 0) ⟨nn.1, c1.2⟩ (by omega) (.inr rfl) (fun _ => by omega) (by omega)
  rw [show ((12 : Nat) : Int) = 12 from rfl] at e1
  rw [Spr.zero, e1, Option.bind_some, ← key (Spr.su s t) 0 ⟨nn.1, c1.2⟩ (by omega) e.symm]
  congr 1
  exact Spr.ext (fun j _ => by omega)
 by_cases c7 : Spr.su s t ≥ 5000
 ·rw [if_pos c7]
  simp only [trivetref16_Of.j3]
  by_cases c8 : cur = true
  ·rw [if_pos c8]
   have e : Spr.re s t cur = Spr.su s t := by unfold Spr.re; rw [if_pos ⟨c7, c8⟩]
   rw [Spr.zero, ← key 0 (Spr.su s t) (by omega) (by omega) e.symm]
   congr 1 <;> exact Spr.ext (fun j _ => by rw [Spr.ev_zero]; omega)
  ·rw [if_neg c8]
   exact no (by unfold Spr.re; rw [if_neg (fun h => c8 h.2)])
 ·rw [if_neg c7]
  simp only [trivetref16_Of.j3]
  rw [if_neg (by decide)]
  exact no (by unfold Spr.re; rw [if_neg (fun h => c7 h.1)])
theorem trivetref16_Of.num (k : Nat) (y p c s lo : Int) (bal : List Int) (t : Int) (cur : Bool) (hk : 300 ≤ k) :
  trivetref16_Of.f k y p c s lo bal t cur = some (if Spr.may p s t then (Spr.su s t, Spr.sho s t, Spr.de s t, Spr.re s t cur, Spr.mk (Spr.mo p s t cur), true) else (0, 0, 0, 0, [], false)) := by
 unfold trivetref16_Of.f
 by_cases c1 : p < 0
 ·rw [if_pos c1, trivetref16_Of.bad k _ _ _ _ _ _ _ _ (by omega), if_neg (fun h => by have := h.1.1; omega)]
 rw [if_neg c1, trivetref16_money.num, Option.bind_some]
 by_cases c2 : -10000000000000 ≤ p ∧ p ≤ 10000000000000
 rotate_left
 ·rw [if_neg (by simpa using c2), trivetref16_Of.bad k _ _ _ _ _ _ _ _ (by omega), if_neg (fun h => c2 (by have := h.1; omega))]
 rw [if_pos (by simpa using c2), trivetref16_money.num, Option.bind_some]
 by_cases c3 : -10000000000000 ≤ s ∧ s ≤ 10000000000000
 rotate_left
 ·rw [if_neg (by simpa using c3), trivetref16_Of.bad k _ _ _ _ _ _ _ _ (by omega), if_neg (fun h => c3 h.2.1)]
 rw [if_pos (by simpa using c3), trivetref16_money.num, Option.bind_some]
 by_cases c4 : -10000000000000 ≤ t ∧ t ≤ 10000000000000
 rotate_left
 ·rw [decide_eq_false c4, Bool.not_false, trivetref16_Of.bad k _ _ _ _ _ _ _ _ (by omega), if_neg (fun h => c4 h.2.2.1)]
 rw [decide_eq_true c4, Bool.not_true]
 obtain ⟨j, rfl⟩ : ∃ j, k = j + 1 := ⟨k - 1, by omega⟩
 have H : Spr.may p s t ∨ (¬ (Spr.su s t ≤ 10000000000000 ∧ Spr.sho s t ≤ 10000000000000 ∧ Spr.de s t ≤ 10000000000000) ∧ ¬ Spr.may p s t) := by
  by_cases c5 : Spr.su s t ≤ 10000000000000 ∧ Spr.sho s t ≤ 10000000000000 ∧ Spr.de s t ≤ 10000000000000
  ·exact .inl ⟨by omega, c3, c4, c5⟩
  ·exact .inr ⟨c5, fun h => c5 h.2.2.2⟩
 have J := trivetref16_Of.j1_num j y p c s lo bal t cur H (by omega)
 simp only [trivetref16_Of.j0]
 rw [if_neg (by decide), ← J]
 unfold Spr.su Spr.sho Spr.de
 by_cases d1 : t ≥ s
 ·simp only [if_pos d1]; rw [M.w64_id (by omega) (by omega)]
 ·simp only [if_neg d1]
  by_cases d2 : t ≥ 0
  ·simp only [if_pos d2]; rw [M.w64_id (by omega) (by omega)]
  ·simp only [if_neg d2]
   by_cases d3 : s > 0
   ·simp only [if_pos d3]; rw [M.w64_id (by omega) (by omega)]
   ·simp only [if_neg d3]; rw [M.w64_id (by omega) (by omega)]

/-! ### trivetlaw14_Same: function 12 -/
def trivetlaw14_Same.l0 : Nat → List Int → List Int → Int → Option (Bool)
 | 0, _, _, _ => none
 | k + 1, x0, x1, x5 => if x5 < (x0.length : Int) then (if 0 ≤ x5 then (if x5 < (x1.length : Int) then (if (rd x0 x5) = (rd x1 x5) then (trivetlaw14_Same.l0 k x0 x1 (wrap64 (x5 + 1))) else (some false)) else (none)) else (none)) else (some true)
def trivetlaw14_Same.f (k : Nat) (l0 : List Int) (l1 : List Int) : Option (Bool) := if (l0.length : Int) = (l1.length : Int) then (trivetlaw14_Same.l0 k l0 l1 0) else (some false)
theorem trivetlaw14_Same.mono_l : ∀ k, (∀ y0 y1 y2, LeO (trivetlaw14_Same.l0 k y0 y1 y2) (trivetlaw14_Same.l0 (k + 1) y0 y1 y2))
 | 0 => fun _ _ _ r h => by simp [trivetlaw14_Same.l0] at h
 | k + 1 => by
  have ih0 := trivetlaw14_Same.mono_l k
  ·intro y0 y1 y2
   unfold trivetlaw14_Same.l0
   repeat' first
   | (with_reducible exact ih0 _ _ _)
   | (with_reducible exact LeO.refl _)
   | (with_reducible exact LeO.none _)
   | (with_reducible refine LeO.ite ?_ ?_)
   | (with_reducible refine LeO.bind ?_ (fun _ => ?_))
   | exact ih0 _ _ _
   | exact LeO.none _
   | refine LeO.ite ?_ ?_
   | refine LeO.bind ?_ (fun _ => ?_)
theorem trivetlaw14_Same.mono : ∀ a0 a1 k, LeO (trivetlaw14_Same.f k a0 a1) (trivetlaw14_Same.f (k + 1) a0 a1) := by
 intro a0 a1 k
 have ih0 := trivetlaw14_Same.mono_l k
 unfold trivetlaw14_Same.f
 repeat' first
   | (with_reducible exact ih0 _ _ _)
   | (with_reducible exact LeO.refl _)
   | (with_reducible exact LeO.none _)
   | (with_reducible refine LeO.ite ?_ ?_)
   | (with_reducible refine LeO.bind ?_ (fun _ => ?_))
   | exact ih0 _ _ _
   | exact LeO.none _
   | refine LeO.ite ?_ ?_
   | refine LeO.bind ?_ (fun _ => ?_)
set_option maxHeartbeats 8000000 in
set_option maxRecDepth 100000 in
theorem trivetlaw14_Same.calls (k : Nat) (A0 : Option Addr) (c0 : Nat) (l0 : List Int) (A1 : Option Addr) (c1 : Nat) (l1 : List Int) (r : Bool) (w : World) (hr0 : Kd.C (Kd.int .i64) w A0 l0.length l0) (hc0 : l0.length ≤ c0) (hr1 : Kd.C (Kd.int .i64) w A1 l1.length l1) (hc1 : l1.length ≤ c1) (h : trivetlaw14_Same.f k l0 l1 = some r) :
  Calls Try.prog 12 #[.slice A0 l0.length c0, .slice A1 l1.length c1] w fun e w' => e = .returned (.bool r) ∧ Drawn0 w w' := by
 have HR0 := ka hr0
 have HC0 := ka hc0
 clear hr0 hc0
 have HR1 := ka hr1
 have HC1 := ka hc1
 clear hr1 hc1
 have H : (if (l0.length : Int) = (l1.length : Int) then (trivetlaw14_Same.l0 k l0 l1 0) else (some false)) = some r := h
 clear h
 by_cases c3 : (l0.length : Int) = (l1.length : Int)
 ·rw [if_pos c3] at H
  have c3b0 : ((l0.length : Int) == (l1.length : Int)) = true := beq_iff_eq.mpr c3
  have c3b1 : ((l0.length : Int) != (l1.length : Int)) = false := bne_eq_false_iff_eq.mpr c3
  have c3b2 : (l0.length == l1.length) = true := by first | simpa using c3 | (simp at c3 ⊢; omega)
  clear c3
  have H' := ka H
  clear H
  go_enter Try.func12, Try.ntmps12
  go_wp2
  repeat (go_quiet (fail); try go_wp2)
  (try simp only [Act.put, List.setIfInBounds_toArray, List.set_cons_zero, List.set_cons_succ])
  go_loopg [5] k (fun kq v5 w' => ∃ (x5_1 : Int), v5 = .int .i64 x5_1 ∧ Aside0 (trivetlaw14_Same.l0 kq l0 l1 x5_1 = some r) ∧ Aside0 (kq ≤ k) ∧ Drawn0 w w')
  case atStart => exact ⟨(0), (by first | rfl | (simp; done) | (simp [*]; done)), H', ⟨Nat.le_refl _⟩, by repeat (first | exact Drawn0.refl _ | apply Drawn0.step)⟩
  case round =>
   clear H'
   try clear c1
   try clear p2
   try clear c3
   try clear c3b0
   try clear c3b1
   try clear c3b2
   obtain ⟨x5_1, rfl, HA, HK1, ⟨m1, rfl⟩⟩ := hrel
   cases gk with
   | zero => exact absurd HA.out (by simp [trivetlaw14_Same.l0])
   | succ k1 =>
    have H := HA.out
    clear HA
    simp only [trivetlaw14_Same.l0] at H
    by_cases c4 : x5_1 < (l0.length : Int)
    ·rw [if_pos c4] at H
     have c4b0 : decide (x5_1 < (l0.length : Int)) = true := decide_eq_true c4
     clear c4
     by_cases c5 : 0 ≤ x5_1
     ·rw [if_pos c5] at H
      have c5b0 : decide (0 ≤ x5_1) = true := decide_eq_true c5
      clear c5
      by_cases c6 : x5_1 < (l1.length : Int)
      ·rw [if_pos c6] at H
       have c6b0 : decide (x5_1 < (l1.length : Int)) = true := decide_eq_true c6
       clear c6
       by_cases c7 : (rd l0 x5_1) = (rd l1 x5_1)
       ·rw [if_pos c7] at H
        have c7b0 : ((rd l0 x5_1) == (rd l1 x5_1)) = true := beq_iff_eq.mpr c7
        have c7b1 : ((rd l0 x5_1) != (rd l1 x5_1)) = false := bne_eq_false_iff_eq.mpr c7
        clear c7
        have H' := ka H
        clear H
        have p518 : 0 ≤ (x5_1 : Int) := of_decide_eq_true (by first | (with_reducible assumption) | assumption)
        have q518 : x5_1 < (l0.length : Int) := of_decide_eq_true (by first | (with_reducible assumption) | assumption)
        obtain ⟨ad518, e518, hx518_0⟩ := Kd.at_int HR0.out x5_1 p518 q518
        cases e518
        replace p518 := eq_true p518
        replace q518 := eq_true q518
        have p519 : 0 ≤ (x5_1 : Int) := of_decide_eq_true (by first | (with_reducible assumption) | assumption)
        have q519 : x5_1 < (l1.length : Int) := of_decide_eq_true (by first | (with_reducible assumption) | assumption)
        obtain ⟨ad519, e519, hx519_0⟩ := Kd.at_int HR1.out x5_1 p519 q519
        cases e519
        replace p519 := eq_true p519
        replace q519 := eq_true q519
        go_wp2
        repeat (go_quiet (fail); try go_wp2)
        go_roundg k1
        case measure => have := HK1.out; omega
        case rel => exact ⟨(wrap64 (x5_1 + 1)), (by first | rfl | (simp; done) | (simp [*]; done)), H', ⟨by have := HK1.out; omega⟩, by repeat (first | exact Drawn0.refl _ | apply Drawn0.step)⟩
       ·rw [if_neg c7] at H
        have c7b0 : ((rd l0 x5_1) == (rd l1 x5_1)) = false := beq_eq_false_iff_ne.mpr c7
        have c7b1 : ((rd l0 x5_1) != (rd l1 x5_1)) = true := bne_iff_ne.mpr c7
        obtain rfl := Option.some.inj H
        have p518 : 0 ≤ (x5_1 : Int) := of_decide_eq_true (by first | (with_reducible assumption) | assumption)
        have q518 : x5_1 < (l0.length : Int) := of_decide_eq_true (by first | (with_reducible assumption) | assumption)
        obtain ⟨ad518, e518, hx518_0⟩ := Kd.at_int HR0.out x5_1 p518 q518
        cases e518
        replace p518 := eq_true p518
        replace q518 := eq_true q518
        have p519 : 0 ≤ (x5_1 : Int) := of_decide_eq_true (by first | (with_reducible assumption) | assumption)
        have q519 : x5_1 < (l1.length : Int) := of_decide_eq_true (by first | (with_reducible assumption) | assumption)
        obtain ⟨ad519, e519, hx519_0⟩ := Kd.at_int HR1.out x5_1 p519 q519
        cases e519
        replace p519 := eq_true p519
        replace q519 := eq_true q519
        go_wp2
        repeat (go_quiet (fail); try go_wp2)
        go_ret
        exact ⟨by first | rfl | (simp; done) | (simp [*]; done), by repeat (first | exact Drawn0.refl _ | apply Drawn0.step)⟩
      ·rw [if_neg c6] at H
       exact absurd H (by simp)
     ·rw [if_neg c5] at H
      exact absurd H (by simp)
    ·rw [if_neg c4] at H
     have c4b0 : decide (x5_1 < (l0.length : Int)) = false := decide_eq_false c4
     clear c4
     obtain rfl := Option.some.inj H
     go_wp2
     repeat (go_quiet (fail); try go_wp2)
     go_ret
     exact ⟨by first | rfl | (simp; done) | (simp [*]; done), by repeat (first | exact Drawn0.refl _ | apply Drawn0.step)⟩
 ·rw [if_neg c3] at H
  have c3b0 : ((l0.length : Int) == (l1.length : Int)) = false := beq_eq_false_iff_ne.mpr c3
  have c3b1 : ((l0.length : Int) != (l1.length : Int)) = true := bne_iff_ne.mpr c3
  have c3b2 : (l0.length == l1.length) = false := by first | simpa using c3 | (simp at c3 ⊢; omega)
  obtain rfl := Option.some.inj H
  go_enter Try.func12, Try.ntmps12
  go_wp2
  repeat (go_quiet (fail); try go_wp2)
  go_ret
  exact ⟨by first | rfl | (simp; done) | (simp [*]; done), by repeat (first | exact Drawn0.refl _ | apply Drawn0.step)⟩

/-! ### trivetlaw14_Same: function 12, its laws -/
theorem trivetlaw14_Same.loop (n : Nat) : ∀ (k i : Nat) (a : List Int), a.length = i + n → a.length ≤ 1000000000000000 → n < k → trivetlaw14_Same.l0 k a a i = some true := by
 induction n with
 | zero =>
  intro k i a hl hm hk
  obtain ⟨j, rfl⟩ : ∃ j, k = j + 1 := ⟨k - 1, by omega⟩
  simp only [trivetlaw14_Same.l0]
  rw [if_neg (by omega)]
 | succ n ih =>
  intro k i a hl hm hk
  obtain ⟨j, rfl⟩ : ∃ j, k = j + 1 := ⟨k - 1, by omega⟩
  simp only [trivetlaw14_Same.l0]
  rw [if_pos (by omega), if_pos (by omega), if_pos (by omega), if_pos trivial, M.w64_id (n := (i : Int) + 1) (by omega) (by omega)]
  exact ih j (i + 1) a (by omega) hm (by omega)
theorem trivetlaw14_Same.num (k : Nat) (a : List Int) (hm : a.length ≤ 1000) (hk : 1001 ≤ k) : trivetlaw14_Same.f k a a = some true := by
 unfold trivetlaw14_Same.f
 rw [if_pos rfl]
 exact trivetlaw14_Same.loop a.length k 0 a (by omega) (by omega) (by omega)
theorem trivetlaw14_Same.any (k : Nat) (a : List Int) (hm : a.length ≤ 1000000000000000) (hk : a.length < k) : trivetlaw14_Same.f k a a = some true := by
 unfold trivetlaw14_Same.f
 rw [if_pos rfl]
 exact trivetlaw14_Same.loop a.length k 0 a (by omega) hm (by omega)

/-! ### trivetlaw16_Same: function 11 -/
def trivetlaw16_Same.f (k : Nat) (a0_0 : Int) (a0_1 : Int) (a0_2 : Int) (a0_3 : Int) (l0_4 : List Int) (a1_0 : Int) (a1_1 : Int) (a1_2 : Int) (a1_3 : Int) (l1_4 : List Int) : Option (Bool) := if a0_0 = a1_0 then (if a0_1 = a1_1 then (if a0_2 = a1_2 then (if a0_3 = a1_3 then ((trivetlaw14_Same.f k l0_4 l1_4).bind fun t522 => (some t522)) else (some false)) else (some false)) else (some false)) else (some false)
theorem trivetlaw16_Same.mono : ∀ a0 a1 a2 a3 a4 a5 a6 a7 a8 a9 k, LeO (trivetlaw16_Same.f k a0 a1 a2 a3 a4 a5 a6 a7 a8 a9) (trivetlaw16_Same.f (k + 1) a0 a1 a2 a3 a4 a5 a6 a7 a8 a9) := by
 intro a0 a1 a2 a3 a4 a5 a6 a7 a8 a9 k
 unfold trivetlaw16_Same.f
 repeat' first
   | (with_reducible exact trivetlaw14_Same.mono _ _ _)
   | (with_reducible exact LeO.refl _)
   | (with_reducible exact LeO.none _)
   | (with_reducible refine LeO.ite ?_ ?_)
   | (with_reducible refine LeO.bind ?_ (fun _ => ?_))
   | exact trivetlaw14_Same.mono _ _ _
   | exact LeO.none _
   | refine LeO.ite ?_ ?_
   | refine LeO.bind ?_ (fun _ => ?_)
set_option maxHeartbeats 8000000 in
set_option maxRecDepth 100000 in
theorem trivetlaw16_Same.calls (k : Nat) (a0_0 : Int) (a0_1 : Int) (a0_2 : Int) (a0_3 : Int) (A0_4 : Option Addr) (c0_4 : Nat) (l0_4 : List Int) (a1_0 : Int) (a1_1 : Int) (a1_2 : Int) (a1_3 : Int) (A1_4 : Option Addr) (c1_4 : Nat) (l1_4 : List Int) (r : Bool) (w : World) (hr0_4 : Kd.C (Kd.int .i64) w A0_4 l0_4.length l0_4) (hc0_4 : l0_4.length ≤ c0_4) (hr1_4 : Kd.C (Kd.int .i64) w A1_4 l1_4.length l1_4) (hc1_4 : l1_4.length ≤ c1_4) (h : trivetlaw16_Same.f k a0_0 a0_1 a0_2 a0_3 l0_4 a1_0 a1_1 a1_2 a1_3 l1_4 = some r) :
  Calls Try.prog 11 #[.agg #[.int .i64 a0_0, .int .i64 a0_1, .int .i64 a0_2, .int .i64 a0_3, .slice A0_4 l0_4.length c0_4], .agg #[.int .i64 a1_0, .int .i64 a1_1, .int .i64 a1_2, .int .i64 a1_3, .slice A1_4 l1_4.length c1_4]] w fun e w' => e = .returned (.bool r) ∧ Below w.heap.size w w' := by
 have hu27 := Try.underlying27
 have HR0_4 := ka hr0_4
 have HC0_4 := ka hc0_4
 clear hr0_4 hc0_4
 have HR1_4 := ka hr1_4
 have HC1_4 := ka hc1_4
 clear hr1_4 hc1_4
 have HB := ka (Below.refl w.heap.size w)
 have H : (if a0_0 = a1_0 then (if a0_1 = a1_1 then (if a0_2 = a1_2 then (if a0_3 = a1_3 then ((trivetlaw14_Same.f k l0_4 l1_4).bind fun t522 => (some t522)) else (some false)) else (some false)) else (some false)) else (some false)) = some r := h
 clear h
 by_cases c3 : a0_0 = a1_0
 ·rw [if_pos c3] at H
  have c3b0 : (a0_0 == a1_0) = true := beq_iff_eq.mpr c3
  have c3b1 : (a0_0 != a1_0) = false := bne_eq_false_iff_eq.mpr c3
  clear c3
  by_cases c4 : a0_1 = a1_1
  ·rw [if_pos c4] at H
   have c4b0 : (a0_1 == a1_1) = true := beq_iff_eq.mpr c4
   have c4b1 : (a0_1 != a1_1) = false := bne_eq_false_iff_eq.mpr c4
   clear c4
   by_cases c5 : a0_2 = a1_2
   ·rw [if_pos c5] at H
    have c5b0 : (a0_2 == a1_2) = true := beq_iff_eq.mpr c5
    have c5b1 : (a0_2 != a1_2) = false := bne_eq_false_iff_eq.mpr c5
    clear c5
    by_cases c6 : a0_3 = a1_3
    ·rw [if_pos c6] at H
     have c6b0 : (a0_3 == a1_3) = true := beq_iff_eq.mpr c6
     have c6b1 : (a0_3 != a1_3) = false := bne_eq_false_iff_eq.mpr c6
     clear c6
     replace H := Option.bind_eq_some_iff.mp H
     obtain ⟨t522, A70, H⟩ := H
     replace H : (some t522) = some r := H
     have A7 := ka A70
     clear A70
     obtain rfl := Option.some.inj H
     go_enter Try.func11, Try.ntmps11
     go_wp2_with (first | ((with_reducible refine gate_dst (N := 2) rfl ?_); refine kx (N := 2) (cs := #[.int .i64 a0_0, .int .i64 a0_1, .int .i64 a0_2, .int .i64 a0_3, .slice A0_4 l0_4.length c0_4]) (t := 27) ?_; intro gb520 hg w8 hbox hb; have n0_ := ka (below_step (kw HB.out) hb); have n1_ := ka (hbox); have n2_ := ka ((by rw [hg]; exact (below_size (kw HB.out)) : w.heap.size ≤ gb520)); have n3_ := n2_; clear HB; have HB := n0_; have BK520 := n1_; have GW520 := n2_; have GE520 := n3_; clear n0_ n1_ n2_ n3_; clear hb hbox hg) | ((with_reducible refine gate_dst (N := 3) rfl ?_); refine kx (N := 3) (cs := #[.int .i64 a1_0, .int .i64 a1_1, .int .i64 a1_2, .int .i64 a1_3, .slice A1_4 l1_4.length c1_4]) (t := 27) ?_; intro gb521 hg w9 hbox hb; have n0_ := ka (blk_below (g := gb520) (kz BK520.out) hb); have n1_ := ka (below_step (kw HB.out) hb); have n2_ := ka (hbox); have n3_ := ka ((by rw [hg]; exact (below_size (kw HB.out)) : w.heap.size ≤ gb521)); have n4_ := n3_; have n5_ := ka ((by rw [hg]; exact Nat.ne_of_lt (blk_lt (g := gb520) (kz BK520.out)) : gb520 ≠ gb521)); have n6_ := ka n5_.out.symm; clear BK520; clear HB; have BK520 := n0_; have HB := n1_; have BK521 := n2_; have GW521 := n3_; have GE521 := n4_; have NB520_521 := n5_; have NB521_520 := n6_; clear n0_ n1_ n2_ n3_ n4_ n5_ n6_; clear hb hbox hg; have hnb10 := NB520_521.out; have hnc10 := NB521_520.out; have hcz11 := blkAll5 BK520.out; have hcz12 := blkAll5 BK521.out) | (go_at_call 12; (with_reducible refine (trivetlaw14_Same.calls k _ _ l0_4 _ _ l1_4 t522 _ ?side1 ?side2 ?side3 ?side4 A7.out).mono ?_); (case side1 => repeat (first | exact (Kd.C_below HR0_4.out HB.out) | (with_reducible refine Kd.C_alloc ?_ _) | (with_reducible refine Kd.C_drewN ?_ _) | (with_reducible refine Kd.C_drew ?_))); (case side2 => exact HC0_4.out); (case side3 => repeat (first | exact (Kd.C_below HR1_4.out HB.out) | (with_reducible refine Kd.C_alloc ?_ _) | (with_reducible refine Kd.C_drewN ?_ _) | (with_reducible refine Kd.C_drew ?_))); (case side4 => exact HC1_4.out); rintro e w' ⟨rfl, ⟨nd, rfl⟩⟩))
     go_ret
     exact ⟨by first | rfl | (simp [errW_none, errW_some] <;> rfl) | (simp [*, errW_none, errW_some] <;> rfl), by repeat (first | (with_reducible first | exact HB.out | apply kc1 | apply kc2 | apply kc3 | refine kc4 ?_ GE520.out | refine kc4 ?_ GE521.out) | exact HB.out)⟩
    ·rw [if_neg c6] at H
     have c6b0 : (a0_3 == a1_3) = false := beq_eq_false_iff_ne.mpr c6
     have c6b1 : (a0_3 != a1_3) = true := bne_iff_ne.mpr c6
     obtain rfl := Option.some.inj H
     go_enter Try.func11, Try.ntmps11
     go_wp2_with (first | ((with_reducible refine gate_dst (N := 2) rfl ?_); refine kx (N := 2) (cs := #[.int .i64 a0_0, .int .i64 a0_1, .int .i64 a0_2, .int .i64 a0_3, .slice A0_4 l0_4.length c0_4]) (t := 27) ?_; intro gb520 hg w13 hbox hb; have n0_ := ka (below_step (kw HB.out) hb); have n1_ := ka (hbox); have n2_ := ka ((by rw [hg]; exact (below_size (kw HB.out)) : w.heap.size ≤ gb520)); have n3_ := n2_; clear HB; have HB := n0_; have BK520 := n1_; have GW520 := n2_; have GE520 := n3_; clear n0_ n1_ n2_ n3_; clear hb hbox hg) | ((with_reducible refine gate_dst (N := 3) rfl ?_); refine kx (N := 3) (cs := #[.int .i64 a1_0, .int .i64 a1_1, .int .i64 a1_2, .int .i64 a1_3, .slice A1_4 l1_4.length c1_4]) (t := 27) ?_; intro gb521 hg w14 hbox hb; have n0_ := ka (blk_below (g := gb520) (kz BK520.out) hb); have n1_ := ka (below_step (kw HB.out) hb); have n2_ := ka (hbox); have n3_ := ka ((by rw [hg]; exact (below_size (kw HB.out)) : w.heap.size ≤ gb521)); have n4_ := n3_; have n5_ := ka ((by rw [hg]; exact Nat.ne_of_lt (blk_lt (g := gb520) (kz BK520.out)) : gb520 ≠ gb521)); have n6_ := ka n5_.out.symm; clear BK520; clear HB; have BK520 := n0_; have HB := n1_; have BK521 := n2_; have GW521 := n3_; have GE521 := n4_; have NB520_521 := n5_; have NB521_520 := n6_; clear n0_ n1_ n2_ n3_ n4_ n5_ n6_; clear hb hbox hg; have hnb15 := NB520_521.out; have hnc15 := NB521_520.out; have hcz16 := blkAll5 BK520.out; have hcz17 := blkAll5 BK521.out))
     go_ret
     exact ⟨by first | rfl | (simp [errW_none, errW_some] <;> rfl) | (simp [*, errW_none, errW_some] <;> rfl), by repeat (first | (with_reducible first | exact HB.out | apply kc1 | apply kc2 | apply kc3 | refine kc4 ?_ GE520.out | refine kc4 ?_ GE521.out) | exact HB.out)⟩
   ·rw [if_neg c5] at H
    have c5b0 : (a0_2 == a1_2) = false := beq_eq_false_iff_ne.mpr c5
    have c5b1 : (a0_2 != a1_2) = true := bne_iff_ne.mpr c5
    obtain rfl := Option.some.inj H
    go_enter Try.func11, Try.ntmps11
    go_wp2_with (first | ((with_reducible refine gate_dst (N := 2) rfl ?_); refine kx (N := 2) (cs := #[.int .i64 a0_0, .int .i64 a0_1, .int .i64 a0_2, .int .i64 a0_3, .slice A0_4 l0_4.length c0_4]) (t := 27) ?_; intro gb520 hg w18 hbox hb; have n0_ := ka (below_step (kw HB.out) hb); have n1_ := ka (hbox); have n2_ := ka ((by rw [hg]; exact (below_size (kw HB.out)) : w.heap.size ≤ gb520)); have n3_ := n2_; clear HB; have HB := n0_; have BK520 := n1_; have GW520 := n2_; have GE520 := n3_; clear n0_ n1_ n2_ n3_; clear hb hbox hg) | ((with_reducible refine gate_dst (N := 3) rfl ?_); refine kx (N := 3) (cs := #[.int .i64 a1_0, .int .i64 a1_1, .int .i64 a1_2, .int .i64 a1_3, .slice A1_4 l1_4.length c1_4]) (t := 27) ?_; intro gb521 hg w19 hbox hb; have n0_ := ka (blk_below (g := gb520) (kz BK520.out) hb); have n1_ := ka (below_step (kw HB.out) hb); have n2_ := ka (hbox); have n3_ := ka ((by rw [hg]; exact (below_size (kw HB.out)) : w.heap.size ≤ gb521)); have n4_ := n3_; have n5_ := ka ((by rw [hg]; exact Nat.ne_of_lt (blk_lt (g := gb520) (kz BK520.out)) : gb520 ≠ gb521)); have n6_ := ka n5_.out.symm; clear BK520; clear HB; have BK520 := n0_; have HB := n1_; have BK521 := n2_; have GW521 := n3_; have GE521 := n4_; have NB520_521 := n5_; have NB521_520 := n6_; clear n0_ n1_ n2_ n3_ n4_ n5_ n6_; clear hb hbox hg; have hnb20 := NB520_521.out; have hnc20 := NB521_520.out; have hcz21 := blkAll5 BK520.out; have hcz22 := blkAll5 BK521.out))
    go_ret
    exact ⟨by first | rfl | (simp [errW_none, errW_some] <;> rfl) | (simp [*, errW_none, errW_some] <;> rfl), by repeat (first | (with_reducible first | exact HB.out | apply kc1 | apply kc2 | apply kc3 | refine kc4 ?_ GE520.out | refine kc4 ?_ GE521.out) | exact HB.out)⟩
  ·rw [if_neg c4] at H
   have c4b0 : (a0_1 == a1_1) = false := beq_eq_false_iff_ne.mpr c4
   have c4b1 : (a0_1 != a1_1) = true := bne_iff_ne.mpr c4
   obtain rfl := Option.some.inj H
   go_enter Try.func11, Try.ntmps11
   go_wp2_with (first | ((with_reducible refine gate_dst (N := 2) rfl ?_); refine kx (N := 2) (cs := #[.int .i64 a0_0, .int .i64 a0_1, .int .i64 a0_2, .int .i64 a0_3, .slice A0_4 l0_4.length c0_4]) (t := 27) ?_; intro gb520 hg w23 hbox hb; have n0_ := ka (below_step (kw HB.out) hb); have n1_ := ka (hbox); have n2_ := ka ((by rw [hg]; exact (below_size (kw HB.out)) : w.heap.size ≤ gb520)); have n3_ := n2_; clear HB; have HB := n0_; have BK520 := n1_; have GW520 := n2_; have GE520 := n3_; clear n0_ n1_ n2_ n3_; clear hb hbox hg) | ((with_reducible refine gate_dst (N := 3) rfl ?_); refine kx (N := 3) (cs := #[.int .i64 a1_0, .int .i64 a1_1, .int .i64 a1_2, .int .i64 a1_3, .slice A1_4 l1_4.length c1_4]) (t := 27) ?_; intro gb521 hg w24 hbox hb; have n0_ := ka (blk_below (g := gb520) (kz BK520.out) hb); have n1_ := ka (below_step (kw HB.out) hb); have n2_ := ka (hbox); have n3_ := ka ((by rw [hg]; exact (below_size (kw HB.out)) : w.heap.size ≤ gb521)); have n4_ := n3_; have n5_ := ka ((by rw [hg]; exact Nat.ne_of_lt (blk_lt (g := gb520) (kz BK520.out)) : gb520 ≠ gb521)); have n6_ := ka n5_.out.symm; clear BK520; clear HB; have BK520 := n0_; have HB := n1_; have BK521 := n2_; have GW521 := n3_; have GE521 := n4_; have NB520_521 := n5_; have NB521_520 := n6_; clear n0_ n1_ n2_ n3_ n4_ n5_ n6_; clear hb hbox hg; have hnb25 := NB520_521.out; have hnc25 := NB521_520.out; have hcz26 := blkAll5 BK520.out; have hcz27 := blkAll5 BK521.out))
   go_ret
   exact ⟨by first | rfl | (simp [errW_none, errW_some] <;> rfl) | (simp [*, errW_none, errW_some] <;> rfl), by repeat (first | (with_reducible first | exact HB.out | apply kc1 | apply kc2 | apply kc3 | refine kc4 ?_ GE520.out | refine kc4 ?_ GE521.out) | exact HB.out)⟩
 ·rw [if_neg c3] at H
  have c3b0 : (a0_0 == a1_0) = false := beq_eq_false_iff_ne.mpr c3
  have c3b1 : (a0_0 != a1_0) = true := bne_iff_ne.mpr c3
  obtain rfl := Option.some.inj H
  go_enter Try.func11, Try.ntmps11
  go_wp2_with (first | ((with_reducible refine gate_dst (N := 2) rfl ?_); refine kx (N := 2) (cs := #[.int .i64 a0_0, .int .i64 a0_1, .int .i64 a0_2, .int .i64 a0_3, .slice A0_4 l0_4.length c0_4]) (t := 27) ?_; intro gb520 hg w28 hbox hb; have n0_ := ka (below_step (kw HB.out) hb); have n1_ := ka (hbox); have n2_ := ka ((by rw [hg]; exact (below_size (kw HB.out)) : w.heap.size ≤ gb520)); have n3_ := n2_; clear HB; have HB := n0_; have BK520 := n1_; have GW520 := n2_; have GE520 := n3_; clear n0_ n1_ n2_ n3_; clear hb hbox hg) | ((with_reducible refine gate_dst (N := 3) rfl ?_); refine kx (N := 3) (cs := #[.int .i64 a1_0, .int .i64 a1_1, .int .i64 a1_2, .int .i64 a1_3, .slice A1_4 l1_4.length c1_4]) (t := 27) ?_; intro gb521 hg w29 hbox hb; have n0_ := ka (blk_below (g := gb520) (kz BK520.out) hb); have n1_ := ka (below_step (kw HB.out) hb); have n2_ := ka (hbox); have n3_ := ka ((by rw [hg]; exact (below_size (kw HB.out)) : w.heap.size ≤ gb521)); have n4_ := n3_; have n5_ := ka ((by rw [hg]; exact Nat.ne_of_lt (blk_lt (g := gb520) (kz BK520.out)) : gb520 ≠ gb521)); have n6_ := ka n5_.out.symm; clear BK520; clear HB; have BK520 := n0_; have HB := n1_; have BK521 := n2_; have GW521 := n3_; have GE521 := n4_; have NB520_521 := n5_; have NB521_520 := n6_; clear n0_ n1_ n2_ n3_ n4_ n5_ n6_; clear hb hbox hg; have hnb30 := NB520_521.out; have hnc30 := NB521_520.out; have hcz31 := blkAll5 BK520.out; have hcz32 := blkAll5 BK521.out))
  go_ret
  exact ⟨by first | rfl | (simp [errW_none, errW_some] <;> rfl) | (simp [*, errW_none, errW_some] <;> rfl), by repeat (first | (with_reducible first | exact HB.out | apply kc1 | apply kc2 | apply kc3 | refine kc4 ?_ GE520.out | refine kc4 ?_ GE521.out) | exact HB.out)⟩

/-! ### trivetlaw16_SpreadTells: function 3 -/
def trivetlaw16_SpreadTells.f (k : Nat) (a0_0 : Int) (a0_1 : Int) (a0_2 : Int) (a0_3 : Int) (a0_4 : Int) (l0_5 : List Int) (a1 : Int) (a2 : Bool) : Option (Bool) := (trivetlaw16_up.f k).bind fun t524 => ((spread_Of.f k a0_0 a0_1 a0_2 a0_3 a0_4 l0_5 a1 a2).bind fun bt525 => ((trivetref16_Of.f k a0_0 a0_1 a0_2 a0_3 a0_4 l0_5 a1 a2).bind fun bt534 => (if bt534.2.2.2.2.2 = true then (if t524 = true then (if bt525.2.2.2.2.2.isNone = true then ((trivetlaw16_Same.f k bt525.1 bt525.2.1 bt525.2.2.1 bt525.2.2.2.1 bt525.2.2.2.2.1 bt534.1 bt534.2.1 bt534.2.2.1 bt534.2.2.2.1 bt534.2.2.2.2.1).bind fun t544 => (some t544)) else (none)) else (none)) else (if t524 = true then (if bt525.2.2.2.2.2.isNone = true then (none) else (if (bt525.2.2.2.2.2.getD 0) = 1 then ((trivetlaw16_Same.f k bt525.1 bt525.2.1 bt525.2.2.1 bt525.2.2.2.1 bt525.2.2.2.2.1 0 0 0 0 ([] : List Int)).bind fun t546 => (some t546)) else (none))) else (none)))))
theorem trivetlaw16_SpreadTells.mono : ∀ a0 a1 a2 a3 a4 a5 a6 a7 k, LeO (trivetlaw16_SpreadTells.f k a0 a1 a2 a3 a4 a5 a6 a7) (trivetlaw16_SpreadTells.f (k + 1) a0 a1 a2 a3 a4 a5 a6 a7) := by
 intro a0 a1 a2 a3 a4 a5 a6 a7 k
 unfold trivetlaw16_SpreadTells.f
 repeat' first
   | (with_reducible exact spread_Of.mono _ _ _ _ _ _ _ _ _)
   | (with_reducible exact trivetlaw16_Same.mono _ _ _ _ _ _ _ _ _ _ _)
   | (with_reducible exact trivetlaw16_up.mono _)
   | (with_reducible exact trivetref16_Of.mono _ _ _ _ _ _ _ _ _)
   | (with_reducible exact LeO.refl _)
   | (with_reducible exact LeO.none _)
   | (with_reducible refine LeO.ite ?_ ?_)
   | (with_reducible refine LeO.bind ?_ (fun _ => ?_))
   | exact spread_Of.mono _ _ _ _ _ _ _ _ _
   | exact trivetlaw16_Same.mono _ _ _ _ _ _ _ _ _ _ _
   | exact trivetlaw16_up.mono _
   | exact trivetref16_Of.mono _ _ _ _ _ _ _ _ _
   | exact LeO.none _
   | refine LeO.ite ?_ ?_
   | refine LeO.bind ?_ (fun _ => ?_)
set_option maxHeartbeats 8000000 in
set_option maxRecDepth 100000 in
theorem trivetlaw16_SpreadTells.calls (k : Nat) (a0_0 : Int) (a0_1 : Int) (a0_2 : Int) (a0_3 : Int) (a0_4 : Int) (A0_5 : Option Addr) (c0_5 : Nat) (l0_5 : List Int) (a1 : Int) (a2 : Bool) (r : Bool) (w : World) (hr0_5 : Kd.C (Kd.int .i64) w A0_5 l0_5.length l0_5) (hc0_5 : l0_5.length ≤ c0_5) (h : trivetlaw16_SpreadTells.f k a0_0 a0_1 a0_2 a0_3 a0_4 l0_5 a1 a2 = some r) :
  Calls Try.prog 3 #[.agg #[.int .i64 a0_0, .int .i64 a0_1, .int .i64 a0_2, .int .i64 a0_3, .int .i64 a0_4, .slice A0_5 l0_5.length c0_5], .int .i64 a1, .bool a2] w fun e w' => e = .returned (.bool r) ∧ Below w.heap.size w w' := by
 have hu24 := Try.underlying24
 have hu27 := Try.underlying27
 have hu29 := Try.underlying29
 have hu34 := Try.underlying34
 have HR0_5 := ka hr0_5
 have HC0_5 := ka hc0_5
 clear hr0_5 hc0_5
 have HB := ka (Below.refl w.heap.size w)
 have H : ((trivetlaw16_up.f k).bind fun t524 => ((spread_Of.f k a0_0 a0_1 a0_2 a0_3 a0_4 l0_5 a1 a2).bind fun bt525 => ((trivetref16_Of.f k a0_0 a0_1 a0_2 a0_3 a0_4 l0_5 a1 a2).bind fun bt534 => (if bt534.2.2.2.2.2 = true then (if t524 = true then (if bt525.2.2.2.2.2.isNone = true then ((trivetlaw16_Same.f k bt525.1 bt525.2.1 bt525.2.2.1 bt525.2.2.2.1 bt525.2.2.2.2.1 bt534.1 bt534.2.1 bt534.2.2.1 bt534.2.2.2.1 bt534.2.2.2.2.1).bind fun t544 => (some t544)) else (none)) else (none)) else (if t524 = true then (if bt525.2.2.2.2.2.isNone = true then (none) else (if (bt525.2.2.2.2.2.getD 0) = 1 then ((trivetlaw16_Same.f k bt525.1 bt525.2.1 bt525.2.2.1 bt525.2.2.2.1 bt525.2.2.2.2.1 0 0 0 0 ([] : List Int)).bind fun t546 => (some t546)) else (none))) else (none)))))) = some r := h
 clear h
 replace H := Option.bind_eq_some_iff.mp H
 obtain ⟨t524, A40, H⟩ := H
 replace H : ((spread_Of.f k a0_0 a0_1 a0_2 a0_3 a0_4 l0_5 a1 a2).bind fun bt525 => ((trivetref16_Of.f k a0_0 a0_1 a0_2 a0_3 a0_4 l0_5 a1 a2).bind fun bt534 => (if bt534.2.2.2.2.2 = true then (if t524 = true then (if bt525.2.2.2.2.2.isNone = true then ((trivetlaw16_Same.f k bt525.1 bt525.2.1 bt525.2.2.1 bt525.2.2.2.1 bt525.2.2.2.2.1 bt534.1 bt534.2.1 bt534.2.2.1 bt534.2.2.2.1 bt534.2.2.2.2.1).bind fun t544 => (some t544)) else (none)) else (none)) else (if t524 = true then (if bt525.2.2.2.2.2.isNone = true then (none) else (if (bt525.2.2.2.2.2.getD 0) = 1 then ((trivetlaw16_Same.f k bt525.1 bt525.2.1 bt525.2.2.1 bt525.2.2.2.1 bt525.2.2.2.2.1 0 0 0 0 ([] : List Int)).bind fun t546 => (some t546)) else (none))) else (none))))) = some r := H
 have A4 := ka A40
 clear A40
 replace H := Option.bind_eq_some_iff.mp H
 obtain ⟨⟨t525, t526, t527, t528, t529, t532⟩, A50, H⟩ := H
 replace H : ((trivetref16_Of.f k a0_0 a0_1 a0_2 a0_3 a0_4 l0_5 a1 a2).bind fun bt534 => (if bt534.2.2.2.2.2 = true then (if t524 = true then (if t532.isNone = true then ((trivetlaw16_Same.f k t525 t526 t527 t528 t529 bt534.1 bt534.2.1 bt534.2.2.1 bt534.2.2.2.1 bt534.2.2.2.2.1).bind fun t544 => (some t544)) else (none)) else (none)) else (if t524 = true then (if t532.isNone = true then (none) else (if (t532.getD 0) = 1 then ((trivetlaw16_Same.f k t525 t526 t527 t528 t529 0 0 0 0 ([] : List Int)).bind fun t546 => (some t546)) else (none))) else (none)))) = some r := H
 have A5 := ka A50
 clear A50
 replace H := Option.bind_eq_some_iff.mp H
 obtain ⟨⟨t534, t535, t536, t537, t538, t541⟩, A60, H⟩ := H
 replace H : (if t541 = true then (if t524 = true then (if t532.isNone = true then ((trivetlaw16_Same.f k t525 t526 t527 t528 t529 t534 t535 t536 t537 t538).bind fun t544 => (some t544)) else (none)) else (none)) else (if t524 = true then (if t532.isNone = true then (none) else (if (t532.getD 0) = 1 then ((trivetlaw16_Same.f k t525 t526 t527 t528 t529 0 0 0 0 ([] : List Int)).bind fun t546 => (some t546)) else (none))) else (none))) = some r := H
 have A6 := ka A60
 clear A60
 by_cases c7 : t541 = true
 ·subst c7
  have H1 : (if t524 = true then (if t532.isNone = true then ((trivetlaw16_Same.f k t525 t526 t527 t528 t529 t534 t535 t536 t537 t538).bind fun t544 => (some t544)) else (none)) else (none)) = some r := by rw [if_pos rfl] at H; exact H
  clear H
  have H := H1
  clear H1
  by_cases c8 : t524 = true
  ·subst c8
   have H1 : (if t532.isNone = true then ((trivetlaw16_Same.f k t525 t526 t527 t528 t529 t534 t535 t536 t537 t538).bind fun t544 => (some t544)) else (none)) = some r := by rw [if_pos rfl] at H; exact H
   clear H
   have H := H1
   clear H1
   rcases t532 with _ | q543
   ·have H1 : ((trivetlaw16_Same.f k t525 t526 t527 t528 t529 t534 t535 t536 t537 t538).bind fun t544 => (some t544)) = some r := by rw [if_pos (show (none : Option Int).isNone = true by rfl)] at H; exact H
    clear H
    have H := H1
    clear H1
    try simp only [errW_none, errW_some]
    replace H := Option.bind_eq_some_iff.mp H
    obtain ⟨t544, A90, H⟩ := H
    replace H : (some t544) = some r := H
    have A9 := ka A90
    clear A90
    obtain rfl := Option.some.inj H
    go_enter Try.func3, Try.ntmps3
    go_wp2_with (first | ((with_reducible refine gate_dst (N := 3) rfl ?_); refine kx (N := 3) (cs := #[.int .i64 a0_0, .int .i64 a0_1, .int .i64 a0_2, .int .i64 a0_3, .int .i64 a0_4, .slice A0_5 l0_5.length c0_5]) (t := 24) ?_; intro gb523 hg w10 hbox hb; have n0_ := ka (below_step (kw HB.out) hb); have n1_ := ka (hbox); have n2_ := ka ((by rw [hg]; exact (below_size (kw HB.out)) : w.heap.size ≤ gb523)); have n3_ := n2_; clear HB; have HB := n0_; have BK523 := n1_; have GW523 := n2_; have GE523 := n3_; clear n0_ n1_ n2_ n3_; clear hb hbox hg) | ((with_reducible refine gate_callee (f := 8) rfl ?_); refine kg (some 12) rfl rfl Try.func8 (by kernel_rfl) rfl #[] rfl ?_; (with_reducible refine (trivetlaw16_up.calls k  true _ A4.out).mono ?_); rintro e w11 ⟨rfl, hb⟩; refine ⟨_, rfl, ?_⟩; replace BK523 := kbb BK523 hb; replace HB := ka (below_step (kw HB.out) hb); (try clear hb); (try clear hb2); (try clear hk); (try clear hi); have hcz12 := blkAll6 BK523.out) | ((with_reducible refine gate_callee (f := 9) rfl ?_); refine kg (some 17) rfl rfl Try.func9 (by kernel_rfl) rfl #[.agg #[.int .i64 a0_0, .int .i64 a0_1, .int .i64 a0_2, .int .i64 a0_3, .int .i64 a0_4, .slice A0_5 l0_5.length c0_5], .int .i64 a1, .bool a2] rfl ?_; (with_reducible refine (spread_Of.calls k a0_0 a0_1 a0_2 a0_3 a0_4 _ _ l0_5 a1 a2 t525 t526 t527 t528 t529 none _ ?side1 ?side2 A5.out).mono ?_); (case side1 => repeat (first | exact (Kd.C_below HR0_5.out HB.out) | (with_reducible refine Kd.C_alloc ?_ _) | (with_reducible refine Kd.C_drewN ?_ _) | (with_reducible refine Kd.C_drew ?_))); (case side2 => exact HC0_5.out); rintro e w13 ⟨v530, rfl, ho0, hb⟩; refine ⟨_, rfl, ?_⟩; have HO531 := ka (Kd.R_lower ho0 (below_size (kw HB.out))); replace BK523 := kbb BK523 hb; replace HB := ka (below_step (kw HB.out) hb); (try clear hb); (try clear hb2); (try clear hk); (try clear hi); (try clear ho0); (try simp only [errW_none, errW_some])) | ((with_reducible refine gate_dst (N := 8) rfl ?_); refine kx (N := 8) (cs := #[.int .i64 0, .int .i64 0, .int .i64 0, .int .i64 0, .slice none 0 0]) (t := 27) ?_; intro gb533 hg w14 hbox hb; have n0_ := ka (Kd.R_below (kr HO531.out) hb); have n1_ := ka (blk_below (g := gb523) (kz BK523.out) hb); have n2_ := ka (below_step (kw HB.out) hb); have n3_ := ka (hbox); have n4_ := ka ((by rw [hg]; exact (below_size (kw HB.out)) : w.heap.size ≤ gb533)); have n5_ := n4_; have n6_ := ka ((by rw [hg]; exact Nat.ne_of_lt (blk_lt (g := gb523) (kz BK523.out)) : gb523 ≠ gb533)); have n7_ := ka n6_.out.symm; clear HO531; clear BK523; clear HB; have HO531 := n0_; have BK523 := n1_; have HB := n2_; have BK533 := n3_; have GW533 := n4_; have GE533 := n5_; have NB523_533 := n6_; have NB533_523 := n7_; clear n0_ n1_ n2_ n3_ n4_ n5_ n6_ n7_; clear hb hbox hg; have hnb15 := NB533_523.out; have hnc15 := NB523_533.out; have hcz16 := blkAll5 BK533.out; obtain ⟨Ao17, co17, eo17⟩ := Kd.R_slice HO531.out; subst eo17; have hcz18 := blkAll6 BK523.out) | ((with_reducible refine gate_callee (f := 10) rfl ?_); refine kg (some 24) rfl rfl Try.func10 (by kernel_rfl) rfl #[.agg #[.int .i64 a0_0, .int .i64 a0_1, .int .i64 a0_2, .int .i64 a0_3, .int .i64 a0_4, .slice A0_5 l0_5.length c0_5], .int .i64 a1, .bool a2] rfl ?_; (with_reducible refine (trivetref16_Of.calls k a0_0 a0_1 a0_2 a0_3 a0_4 _ _ l0_5 a1 a2 t534 t535 t536 t537 t538 true _ ?side1 ?side2 A6.out).mono ?_); (case side1 => exact Kd.C_below HR0_5.out (kw HB.out)); (case side2 => exact HC0_5.out); rintro e w19 ⟨v539, rfl, ho0, hb⟩; refine ⟨_, rfl, ?_⟩; have HO540 := ka (Kd.R_lower (Kd.R_new' ho0 (Kd.R_lt (kr ((Kd.R_mono (Kd.R_far (p := ⟨gb533, 4, none⟩) (Kd.R_far (p := ⟨gb533, 3, none⟩) (Kd.R_far (p := ⟨gb533, 2, none⟩) (Kd.R_far (p := ⟨gb533, 1, none⟩) (Kd.R_far (p := ⟨gb533, 0, none⟩) (Kd.R_types HO531.out BK533.out (by decide)) (fun _ hk => hk.2) (.int .i64 t525)) (fun _ hk => hk.2) (.int .i64 t526)) (fun _ hk => hk.2) (.int .i64 t527)) (fun _ hk => hk.2) (.int .i64 t528)) (fun _ hk => hk.2) (.slice Ao17 t529.length co17)) (fun _ h_ => h_.1)))))) (below_size (kw HB.out))); replace HO531 := ka (Kd.R_elder' (kr ((Kd.R_mono (Kd.R_far (p := ⟨gb533, 4, none⟩) (Kd.R_far (p := ⟨gb533, 3, none⟩) (Kd.R_far (p := ⟨gb533, 2, none⟩) (Kd.R_far (p := ⟨gb533, 1, none⟩) (Kd.R_far (p := ⟨gb533, 0, none⟩) (Kd.R_types HO531.out BK533.out (by decide)) (fun _ hk => hk.2) (.int .i64 t525)) (fun _ hk => hk.2) (.int .i64 t526)) (fun _ hk => hk.2) (.int .i64 t527)) (fun _ hk => hk.2) (.int .i64 t528)) (fun _ hk => hk.2) (.slice Ao17 t529.length co17)) (fun _ h_ => h_.1)))) (Kd.R_base ho0) hb); replace BK523 := ka (blk_below (g := gb523) (o := .cells #[.int .i64 a0_0, .int .i64 a0_1, .int .i64 a0_2, .int .i64 a0_3, .int .i64 a0_4, .slice A0_5 l0_5.length c0_5] 24 (0, 0)) (by (with_reducible repeat (first | apply kb1 | apply kb2 | apply kb3 | refine kb4 ?_ NB523_533.out _)); exact BK523.out) hb); replace BK533 := ka (blk_below (g := gb533) (o := .cells #[.int .i64 t525, .int .i64 t526, .int .i64 t527, .int .i64 t528, .slice Ao17 t529.length co17] 27 (0, 0)) (by (with_reducible repeat (first | apply kb1 | apply kb2 | apply kb3 | apply blkPut5_4 | apply blkPut5_3 | apply blkPut5_2 | apply blkPut5_1 | apply blkPut5_0)); exact BK533.out) hb); replace HB := ka (below_step (kw HB.out) hb); (try clear hb); (try clear hb2); (try clear hk); (try clear hi); (try clear ho0)) | ((with_reducible refine gate_dst (N := 10) rfl ?_); refine kx (N := 10) (cs := #[.int .i64 0, .int .i64 0, .int .i64 0, .int .i64 0, .slice none 0 0]) (t := 27) ?_; intro gb542 hg w20 hbox hb; have n0_ := ka (Kd.R_below (kr HO531.out) hb); have n1_ := ka (Kd.R_below (kr HO540.out) hb); have n2_ := ka (blk_below (g := gb523) (kz BK523.out) hb); have n3_ := ka (blk_below (g := gb533) (kz BK533.out) hb); have n4_ := ka (below_step (kw HB.out) hb); have n5_ := ka (hbox); have n6_ := ka ((by rw [hg]; exact (below_size (kw HB.out)) : w.heap.size ≤ gb542)); have n7_ := n6_; have n8_ := ka ((by rw [hg]; exact Nat.ne_of_lt (blk_lt (g := gb523) (kz BK523.out)) : gb523 ≠ gb542)); have n9_ := ka n8_.out.symm; have n10_ := ka ((by rw [hg]; exact Nat.ne_of_lt (blk_lt (g := gb533) (kz BK533.out)) : gb533 ≠ gb542)); have n11_ := ka n10_.out.symm; clear HO531; clear HO540; clear BK523; clear BK533; clear HB; have HO531 := n0_; have HO540 := n1_; have BK523 := n2_; have BK533 := n3_; have HB := n4_; have BK542 := n5_; have GW542 := n6_; have GE542 := n7_; have NB523_542 := n8_; have NB542_523 := n9_; have NB533_542 := n10_; have NB542_533 := n11_; clear n0_ n1_ n2_ n3_ n4_ n5_ n6_ n7_ n8_ n9_ n10_ n11_; clear hb hbox hg; have hnb21 := NB542_523.out; have hnc21 := NB523_542.out; have hnb22 := NB542_533.out; have hnc22 := NB533_542.out; have hcz23 := blkAll5 BK542.out; obtain ⟨Ao24, co24, eo24⟩ := Kd.R_slice HO540.out; subst eo24; have hcz25 := blkAll5 BK533.out) | (go_at_call 11; (with_reducible refine (trivetlaw16_Same.calls k t525 t526 t527 t528 _ _ t529 t534 t535 t536 t537 _ _ t538 t544 _ ?side1 ?side2 ?side3 ?side4 A9.out).mono ?_); (case side1 => refine (Kd.R_reads' (e := 2) (base := w.heap.size) (ok := fun k_ => (True ∧ some k_ ≠ (.slice Ao24 t538.length co24 : Value).ownBlock)) (n := t529.length) (c := co17) ?_).2.2; exact (kr ((Kd.R_mono (Kd.R_far (p := ⟨gb542, 4, none⟩) (Kd.R_far (p := ⟨gb542, 3, none⟩) (Kd.R_far (p := ⟨gb542, 2, none⟩) (Kd.R_far (p := ⟨gb542, 1, none⟩) (Kd.R_far (p := ⟨gb542, 0, none⟩) (Kd.R_types HO531.out BK542.out (by decide)) (fun _ hk => hk.2) (.int .i64 t534)) (fun _ hk => hk.2) (.int .i64 t535)) (fun _ hk => hk.2) (.int .i64 t536)) (fun _ hk => hk.2) (.int .i64 t537)) (fun _ hk => hk.2) (.slice Ao24 t538.length co24)) (fun _ h_ => h_.1))))); (case side2 => exact (Kd.R_reads' HO531.out).2.1); (case side3 => refine (Kd.R_reads' (e := 2) (base := w.heap.size) (ok := fun k_ => (True ∧ some k_ ≠ (.slice Ao17 t529.length co17 : Value).ownBlock)) (n := t538.length) (c := co24) ?_).2.2; exact (kr ((Kd.R_mono (Kd.R_far (p := ⟨gb542, 4, none⟩) (Kd.R_far (p := ⟨gb542, 3, none⟩) (Kd.R_far (p := ⟨gb542, 2, none⟩) (Kd.R_far (p := ⟨gb542, 1, none⟩) (Kd.R_far (p := ⟨gb542, 0, none⟩) (Kd.R_types HO540.out BK542.out (by decide)) (fun _ hk => hk.2) (.int .i64 t534)) (fun _ hk => hk.2) (.int .i64 t535)) (fun _ hk => hk.2) (.int .i64 t536)) (fun _ hk => hk.2) (.int .i64 t537)) (fun _ hk => hk.2) (.slice Ao24 t538.length co24)) (fun _ h_ => h_.1))))); (case side4 => exact (Kd.R_reads' HO540.out).2.1); rintro e w26 ⟨rfl, hb⟩; replace HO531 := ka (Kd.R_below (kr ((Kd.R_mono (Kd.R_far (p := ⟨gb542, 4, none⟩) (Kd.R_far (p := ⟨gb542, 3, none⟩) (Kd.R_far (p := ⟨gb542, 2, none⟩) (Kd.R_far (p := ⟨gb542, 1, none⟩) (Kd.R_far (p := ⟨gb542, 0, none⟩) (Kd.R_types HO531.out BK542.out (by decide)) (fun _ hk => hk.2) (.int .i64 t534)) (fun _ hk => hk.2) (.int .i64 t535)) (fun _ hk => hk.2) (.int .i64 t536)) (fun _ hk => hk.2) (.int .i64 t537)) (fun _ hk => hk.2) (.slice Ao24 t538.length co24)) (fun _ h_ => h_.1)))) hb); replace HO540 := ka (Kd.R_below (kr ((Kd.R_mono (Kd.R_far (p := ⟨gb542, 4, none⟩) (Kd.R_far (p := ⟨gb542, 3, none⟩) (Kd.R_far (p := ⟨gb542, 2, none⟩) (Kd.R_far (p := ⟨gb542, 1, none⟩) (Kd.R_far (p := ⟨gb542, 0, none⟩) (Kd.R_types HO540.out BK542.out (by decide)) (fun _ hk => hk.2) (.int .i64 t534)) (fun _ hk => hk.2) (.int .i64 t535)) (fun _ hk => hk.2) (.int .i64 t536)) (fun _ hk => hk.2) (.int .i64 t537)) (fun _ hk => hk.2) (.slice Ao24 t538.length co24)) (fun _ h_ => h_.1)))) hb); replace BK523 := ka (blk_below (g := gb523) (o := .cells #[.int .i64 a0_0, .int .i64 a0_1, .int .i64 a0_2, .int .i64 a0_3, .int .i64 a0_4, .slice A0_5 l0_5.length c0_5] 24 (0, 0)) (by (with_reducible repeat (first | apply kb1 | apply kb2 | apply kb3 | refine kb4 ?_ NB523_542.out _)); exact BK523.out) hb); replace BK533 := ka (blk_below (g := gb533) (o := .cells #[.int .i64 t525, .int .i64 t526, .int .i64 t527, .int .i64 t528, .slice Ao17 t529.length co17] 27 (0, 0)) (by (with_reducible repeat (first | apply kb1 | apply kb2 | apply kb3 | refine kb4 ?_ NB533_542.out _)); exact BK533.out) hb); replace BK542 := ka (blk_below (g := gb542) (o := .cells #[.int .i64 t534, .int .i64 t535, .int .i64 t536, .int .i64 t537, .slice Ao24 t538.length co24] 27 (0, 0)) (by (with_reducible repeat (first | apply kb1 | apply kb2 | apply kb3 | apply blkPut5_4 | apply blkPut5_3 | apply blkPut5_2 | apply blkPut5_1 | apply blkPut5_0)); exact BK542.out) hb); replace HB := ka (below_step (kw HB.out) hb); (try clear hb); (try clear hb2); (try clear hk); (try clear hi)))
    go_ret
    exact ⟨by first | rfl | (simp [errW_none, errW_some] <;> rfl) | (simp [*, errW_none, errW_some] <;> rfl), by repeat (first | (with_reducible first | exact HB.out | apply kc1 | apply kc2 | apply kc3 | refine kc4 ?_ GE523.out | refine kc4 ?_ GE533.out | refine kc4 ?_ GE542.out) | exact HB.out)⟩
   ·have H1 : (none) = some r := by rw [if_neg (show ¬ (some q543).isNone = true by simp)] at H; exact H
    clear H
    have H := H1
    clear H1
    try simp only [errW_none, errW_some]
    exact absurd H (by simp)
  ·replace c8 := Bool.eq_false_iff.mpr c8
   subst c8
   have H1 : (none) = some r := by rw [if_neg (show ¬ (false = true) by decide)] at H; exact H
   clear H
   have H := H1
   clear H1
   exact absurd H (by simp)
 ·replace c7 := Bool.eq_false_iff.mpr c7
  subst c7
  have H1 : (if t524 = true then (if t532.isNone = true then (none) else (if (t532.getD 0) = 1 then ((trivetlaw16_Same.f k t525 t526 t527 t528 t529 0 0 0 0 ([] : List Int)).bind fun t546 => (some t546)) else (none))) else (none)) = some r := by rw [if_neg (show ¬ (false = true) by decide)] at H; exact H
  clear H
  have H := H1
  clear H1
  by_cases c27 : t524 = true
  ·subst c27
   have H1 : (if t532.isNone = true then (none) else (if (t532.getD 0) = 1 then ((trivetlaw16_Same.f k t525 t526 t527 t528 t529 0 0 0 0 ([] : List Int)).bind fun t546 => (some t546)) else (none))) = some r := by rw [if_pos rfl] at H; exact H
   clear H
   have H := H1
   clear H1
   rcases t532 with _ | q545
   ·have H1 : (none) = some r := by rw [if_pos (show (none : Option Int).isNone = true by rfl)] at H; exact H
    clear H
    have H := H1
    clear H1
    try simp only [errW_none, errW_some]
    exact absurd H (by simp)
   ·have H1 : (if q545 = 1 then ((trivetlaw16_Same.f k t525 t526 t527 t528 t529 0 0 0 0 ([] : List Int)).bind fun t546 => (some t546)) else (none)) = some r := by rw [if_neg (show ¬ (some q545).isNone = true by simp)] at H; exact H
    clear H
    have H := H1
    clear H1
    try simp only [errW_none, errW_some]
    by_cases c28 : q545 = 1
    ·rw [if_pos c28] at H
     have c28b0 : (q545 == 1) = true := beq_iff_eq.mpr c28
     have c28b1 : (q545 != 1) = false := bne_eq_false_iff_eq.mpr c28
     clear c28
     replace H := Option.bind_eq_some_iff.mp H
     obtain ⟨t546, A290, H⟩ := H
     replace H : (some t546) = some r := H
     have A29 := ka A290
     clear A290
     obtain rfl := Option.some.inj H
     go_enter Try.func3, Try.ntmps3
     go_wp2_with (first | ((with_reducible refine gate_dst (N := 3) rfl ?_); refine kx (N := 3) (cs := #[.int .i64 a0_0, .int .i64 a0_1, .int .i64 a0_2, .int .i64 a0_3, .int .i64 a0_4, .slice A0_5 l0_5.length c0_5]) (t := 24) ?_; intro gb523 hg w30 hbox hb; have n0_ := ka (below_step (kw HB.out) hb); have n1_ := ka (hbox); have n2_ := ka ((by rw [hg]; exact (below_size (kw HB.out)) : w.heap.size ≤ gb523)); have n3_ := n2_; clear HB; have HB := n0_; have BK523 := n1_; have GW523 := n2_; have GE523 := n3_; clear n0_ n1_ n2_ n3_; clear hb hbox hg) | ((with_reducible refine gate_callee (f := 8) rfl ?_); refine kg (some 12) rfl rfl Try.func8 (by kernel_rfl) rfl #[] rfl ?_; (with_reducible refine (trivetlaw16_up.calls k  true _ A4.out).mono ?_); rintro e w31 ⟨rfl, hb⟩; refine ⟨_, rfl, ?_⟩; replace BK523 := kbb BK523 hb; replace HB := ka (below_step (kw HB.out) hb); (try clear hb); (try clear hb2); (try clear hk); (try clear hi); have hcz32 := blkAll6 BK523.out) | ((with_reducible refine gate_callee (f := 9) rfl ?_); refine kg (some 17) rfl rfl Try.func9 (by kernel_rfl) rfl #[.agg #[.int .i64 a0_0, .int .i64 a0_1, .int .i64 a0_2, .int .i64 a0_3, .int .i64 a0_4, .slice A0_5 l0_5.length c0_5], .int .i64 a1, .bool a2] rfl ?_; (with_reducible refine (spread_Of.calls k a0_0 a0_1 a0_2 a0_3 a0_4 _ _ l0_5 a1 a2 t525 t526 t527 t528 t529 (some q545) _ ?side1 ?side2 A5.out).mono ?_); (case side1 => repeat (first | exact (Kd.C_below HR0_5.out HB.out) | (with_reducible refine Kd.C_alloc ?_ _) | (with_reducible refine Kd.C_drewN ?_ _) | (with_reducible refine Kd.C_drew ?_))); (case side2 => exact HC0_5.out); rintro e w33 ⟨v530, rfl, ho0, hb⟩; refine ⟨_, rfl, ?_⟩; have HO531 := ka (Kd.R_lower ho0 (below_size (kw HB.out))); replace BK523 := kbb BK523 hb; replace HB := ka (below_step (kw HB.out) hb); (try clear hb); (try clear hb2); (try clear hk); (try clear hi); (try clear ho0); (try simp only [errW_none, errW_some])) | ((with_reducible refine gate_dst (N := 8) rfl ?_); refine kx (N := 8) (cs := #[.int .i64 0, .int .i64 0, .int .i64 0, .int .i64 0, .slice none 0 0]) (t := 27) ?_; intro gb533 hg w34 hbox hb; have n0_ := ka (Kd.R_below (kr HO531.out) hb); have n1_ := ka (blk_below (g := gb523) (kz BK523.out) hb); have n2_ := ka (below_step (kw HB.out) hb); have n3_ := ka (hbox); have n4_ := ka ((by rw [hg]; exact (below_size (kw HB.out)) : w.heap.size ≤ gb533)); have n5_ := n4_; have n6_ := ka ((by rw [hg]; exact Nat.ne_of_lt (blk_lt (g := gb523) (kz BK523.out)) : gb523 ≠ gb533)); have n7_ := ka n6_.out.symm; clear HO531; clear BK523; clear HB; have HO531 := n0_; have BK523 := n1_; have HB := n2_; have BK533 := n3_; have GW533 := n4_; have GE533 := n5_; have NB523_533 := n6_; have NB533_523 := n7_; clear n0_ n1_ n2_ n3_ n4_ n5_ n6_ n7_; clear hb hbox hg; have hnb35 := NB533_523.out; have hnc35 := NB523_533.out; have hcz36 := blkAll5 BK533.out; obtain ⟨Ao37, co37, eo37⟩ := Kd.R_slice HO531.out; subst eo37; have hcz38 := blkAll6 BK523.out) | ((with_reducible refine gate_callee (f := 10) rfl ?_); refine kg (some 24) rfl rfl Try.func10 (by kernel_rfl) rfl #[.agg #[.int .i64 a0_0, .int .i64 a0_1, .int .i64 a0_2, .int .i64 a0_3, .int .i64 a0_4, .slice A0_5 l0_5.length c0_5], .int .i64 a1, .bool a2] rfl ?_; (with_reducible refine (trivetref16_Of.calls k a0_0 a0_1 a0_2 a0_3 a0_4 _ _ l0_5 a1 a2 t534 t535 t536 t537 t538 false _ ?side1 ?side2 A6.out).mono ?_); (case side1 => exact Kd.C_below HR0_5.out (kw HB.out)); (case side2 => exact HC0_5.out); rintro e w39 ⟨v539, rfl, ho0, hb⟩; refine ⟨_, rfl, ?_⟩; have HO540 := ka (Kd.R_lower (Kd.R_new' ho0 (Kd.R_lt (kr ((Kd.R_mono (Kd.R_far (p := ⟨gb533, 4, none⟩) (Kd.R_far (p := ⟨gb533, 3, none⟩) (Kd.R_far (p := ⟨gb533, 2, none⟩) (Kd.R_far (p := ⟨gb533, 1, none⟩) (Kd.R_far (p := ⟨gb533, 0, none⟩) (Kd.R_types HO531.out BK533.out (by decide)) (fun _ hk => hk.2) (.int .i64 t525)) (fun _ hk => hk.2) (.int .i64 t526)) (fun _ hk => hk.2) (.int .i64 t527)) (fun _ hk => hk.2) (.int .i64 t528)) (fun _ hk => hk.2) (.slice Ao37 t529.length co37)) (fun _ h_ => h_.1)))))) (below_size (kw HB.out))); replace HO531 := ka (Kd.R_elder' (kr ((Kd.R_mono (Kd.R_far (p := ⟨gb533, 4, none⟩) (Kd.R_far (p := ⟨gb533, 3, none⟩) (Kd.R_far (p := ⟨gb533, 2, none⟩) (Kd.R_far (p := ⟨gb533, 1, none⟩) (Kd.R_far (p := ⟨gb533, 0, none⟩) (Kd.R_types HO531.out BK533.out (by decide)) (fun _ hk => hk.2) (.int .i64 t525)) (fun _ hk => hk.2) (.int .i64 t526)) (fun _ hk => hk.2) (.int .i64 t527)) (fun _ hk => hk.2) (.int .i64 t528)) (fun _ hk => hk.2) (.slice Ao37 t529.length co37)) (fun _ h_ => h_.1)))) (Kd.R_base ho0) hb); replace BK523 := ka (blk_below (g := gb523) (o := .cells #[.int .i64 a0_0, .int .i64 a0_1, .int .i64 a0_2, .int .i64 a0_3, .int .i64 a0_4, .slice A0_5 l0_5.length c0_5] 24 (0, 0)) (by (with_reducible repeat (first | apply kb1 | apply kb2 | apply kb3 | refine kb4 ?_ NB523_533.out _)); exact BK523.out) hb); replace BK533 := ka (blk_below (g := gb533) (o := .cells #[.int .i64 t525, .int .i64 t526, .int .i64 t527, .int .i64 t528, .slice Ao37 t529.length co37] 27 (0, 0)) (by (with_reducible repeat (first | apply kb1 | apply kb2 | apply kb3 | apply blkPut5_4 | apply blkPut5_3 | apply blkPut5_2 | apply blkPut5_1 | apply blkPut5_0)); exact BK533.out) hb); replace HB := ka (below_step (kw HB.out) hb); (try clear hb); (try clear hb2); (try clear hk); (try clear hi); (try clear ho0)) | ((with_reducible refine gate_dst (N := 10) rfl ?_); refine kx (N := 10) (cs := #[.int .i64 0, .int .i64 0, .int .i64 0, .int .i64 0, .slice none 0 0]) (t := 27) ?_; intro gb542 hg w40 hbox hb; have n0_ := ka (Kd.R_below (kr HO531.out) hb); have n1_ := ka (Kd.R_below (kr HO540.out) hb); have n2_ := ka (blk_below (g := gb523) (kz BK523.out) hb); have n3_ := ka (blk_below (g := gb533) (kz BK533.out) hb); have n4_ := ka (below_step (kw HB.out) hb); have n5_ := ka (hbox); have n6_ := ka ((by rw [hg]; exact (below_size (kw HB.out)) : w.heap.size ≤ gb542)); have n7_ := n6_; have n8_ := ka ((by rw [hg]; exact Nat.ne_of_lt (blk_lt (g := gb523) (kz BK523.out)) : gb523 ≠ gb542)); have n9_ := ka n8_.out.symm; have n10_ := ka ((by rw [hg]; exact Nat.ne_of_lt (blk_lt (g := gb533) (kz BK533.out)) : gb533 ≠ gb542)); have n11_ := ka n10_.out.symm; clear HO531; clear HO540; clear BK523; clear BK533; clear HB; have HO531 := n0_; have HO540 := n1_; have BK523 := n2_; have BK533 := n3_; have HB := n4_; have BK542 := n5_; have GW542 := n6_; have GE542 := n7_; have NB523_542 := n8_; have NB542_523 := n9_; have NB533_542 := n10_; have NB542_533 := n11_; clear n0_ n1_ n2_ n3_ n4_ n5_ n6_ n7_ n8_ n9_ n10_ n11_; clear hb hbox hg; have hnb41 := NB542_523.out; have hnc41 := NB523_542.out; have hnb42 := NB542_533.out; have hnc42 := NB533_542.out; have hcz43 := blkAll5 BK542.out; obtain ⟨Ao44, co44, eo44⟩ := Kd.R_slice HO540.out; subst eo44; have hcz45 := blkAll5 BK533.out) | (go_at_call 11; (refine (trivetlaw16_Same.calls k t525 t526 t527 t528 _ _ t529 0 0 0 0 _ _ ([] : List Int) t546 _ ?side1 ?side2 ?side3 ?side4 A29.out).mono ?_); (case side1 => refine (Kd.R_reads' (e := 2) (base := w.heap.size) (ok := fun k_ => (True ∧ some k_ ≠ (.slice Ao44 t538.length co44 : Value).ownBlock)) (n := t529.length) (c := co37) ?_).2.2; exact (kr ((Kd.R_mono (Kd.R_far (p := ⟨gb542, 4, none⟩) (Kd.R_far (p := ⟨gb542, 3, none⟩) (Kd.R_far (p := ⟨gb542, 2, none⟩) (Kd.R_far (p := ⟨gb542, 1, none⟩) (Kd.R_far (p := ⟨gb542, 0, none⟩) (Kd.R_types HO531.out BK542.out (by decide)) (fun _ hk => hk.2) (.int .i64 t534)) (fun _ hk => hk.2) (.int .i64 t535)) (fun _ hk => hk.2) (.int .i64 t536)) (fun _ hk => hk.2) (.int .i64 t537)) (fun _ hk => hk.2) (.slice Ao44 t538.length co44)) (fun _ h_ => h_.1))))); (case side2 => exact (Kd.R_reads' HO531.out).2.1); (case side3 => exact Kd.C_nil _ _); (case side4 => exact Nat.le_refl _); rintro e w46 ⟨rfl, hb⟩; replace HO531 := ka (Kd.R_below (kr ((Kd.R_mono (Kd.R_far (p := ⟨gb542, 4, none⟩) (Kd.R_far (p := ⟨gb542, 3, none⟩) (Kd.R_far (p := ⟨gb542, 2, none⟩) (Kd.R_far (p := ⟨gb542, 1, none⟩) (Kd.R_far (p := ⟨gb542, 0, none⟩) (Kd.R_types HO531.out BK542.out (by decide)) (fun _ hk => hk.2) (.int .i64 t534)) (fun _ hk => hk.2) (.int .i64 t535)) (fun _ hk => hk.2) (.int .i64 t536)) (fun _ hk => hk.2) (.int .i64 t537)) (fun _ hk => hk.2) (.slice Ao44 t538.length co44)) (fun _ h_ => h_.1)))) hb); replace HO540 := ka (Kd.R_below (kr ((Kd.R_mono (Kd.R_far (p := ⟨gb542, 4, none⟩) (Kd.R_far (p := ⟨gb542, 3, none⟩) (Kd.R_far (p := ⟨gb542, 2, none⟩) (Kd.R_far (p := ⟨gb542, 1, none⟩) (Kd.R_far (p := ⟨gb542, 0, none⟩) (Kd.R_types HO540.out BK542.out (by decide)) (fun _ hk => hk.2) (.int .i64 t534)) (fun _ hk => hk.2) (.int .i64 t535)) (fun _ hk => hk.2) (.int .i64 t536)) (fun _ hk => hk.2) (.int .i64 t537)) (fun _ hk => hk.2) (.slice Ao44 t538.length co44)) (fun _ h_ => h_.1)))) hb); replace BK523 := ka (blk_below (g := gb523) (o := .cells #[.int .i64 a0_0, .int .i64 a0_1, .int .i64 a0_2, .int .i64 a0_3, .int .i64 a0_4, .slice A0_5 l0_5.length c0_5] 24 (0, 0)) (by (with_reducible repeat (first | apply kb1 | apply kb2 | apply kb3 | refine kb4 ?_ NB523_542.out _)); exact BK523.out) hb); replace BK533 := ka (blk_below (g := gb533) (o := .cells #[.int .i64 t525, .int .i64 t526, .int .i64 t527, .int .i64 t528, .slice Ao37 t529.length co37] 27 (0, 0)) (by (with_reducible repeat (first | apply kb1 | apply kb2 | apply kb3 | refine kb4 ?_ NB533_542.out _)); exact BK533.out) hb); replace BK542 := ka (blk_below (g := gb542) (o := .cells #[.int .i64 t534, .int .i64 t535, .int .i64 t536, .int .i64 t537, .slice Ao44 t538.length co44] 27 (0, 0)) (by (with_reducible repeat (first | apply kb1 | apply kb2 | apply kb3 | apply blkPut5_4 | apply blkPut5_3 | apply blkPut5_2 | apply blkPut5_1 | apply blkPut5_0)); exact BK542.out) hb); replace HB := ka (below_step (kw HB.out) hb); (try clear hb); (try clear hb2); (try clear hk); (try clear hi)))
     go_ret
     exact ⟨by first | rfl | (simp [errW_none, errW_some] <;> rfl) | (simp [*, errW_none, errW_some] <;> rfl), by repeat (first | (with_reducible first | exact HB.out | apply kc1 | apply kc2 | apply kc3 | refine kc4 ?_ GE523.out | refine kc4 ?_ GE533.out | refine kc4 ?_ GE542.out) | exact HB.out)⟩
    ·rw [if_neg c28] at H
     exact absurd H (by simp)
  ·replace c27 := Bool.eq_false_iff.mpr c27
   subst c27
   have H1 : (none) = some r := by rw [if_neg (show ¬ (false = true) by decide)] at H; exact H
   clear H
   have H := H1
   clear H1
   exact absurd H (by simp)

/-- THE ONE PURE STATEMENT of trivetlaw16_SpreadTells: yours. -/
def trivetlaw16_SpreadTells.Pure : Prop := ∀ (a0_0 : Int) (a0_1 : Int) (a0_2 : Int) (a0_3 : Int) (a0_4 : Int) (l0_5 : List Int) (a1 : Int) (a2 : Bool), (Lit.int .i64 a0_0).wf = true → (Lit.int .i64 a0_1).wf = true → (Lit.int .i64 a0_2).wf = true → (Lit.int .i64 a0_3).wf = true → (Lit.int .i64 a0_4).wf = true → l0_5.length ≤ maxLen → l0_5.length * 8 ≤ 140737488351232 → (∀ x ∈ l0_5, (Lit.int .i64 x).wf = true) → (Lit.int .i64 a1).wf = true → ∃ k, trivetlaw16_SpreadTells.f k a0_0 a0_1 a0_2 a0_3 a0_4 l0_5 a1 a2 = some true
theorem trivetlaw16_SpreadTells.walk (P : trivetlaw16_SpreadTells.Pure) (a0_0 : Int) (a0_1 : Int) (a0_2 : Int) (a0_3 : Int) (a0_4 : Int) (a0_5 : Option Addr) (len0_5 cap0_5 : Nat) (z0_5 : List Int) (a1 : Int) (a2 : Bool) (w : World) (w0_0 : (Lit.int .i64 a0_0).wf = true) (w0_1 : (Lit.int .i64 a0_1).wf = true) (w0_2 : (Lit.int .i64 a0_2).wf = true) (w0_3 : (Lit.int .i64 a0_3).wf = true) (w0_4 : (Lit.int .i64 a0_4).wf = true) (w0_5 : (a0_5 = none ∧ len0_5 = 0 ∧ cap0_5 = 0 ∧ z0_5 = []) ∨ ∃ x, a0_5 = some x ∧ len0_5 ≤ cap0_5 ∧ cap0_5 ≤ maxLen ∧ z0_5.length = cap0_5 ∧ (∀ i, i < z0_5.length → w.cell? (x.add i) = some (.int .i64 (z0_5.getD i 0))) ∧ ∀ n ∈ z0_5, (Lit.int .i64 n).wf = true) (y0_5 : len0_5 * 8 ≤ 140737488351232) (w1 : (Lit.int .i64 a1).wf = true) :
  Calls Try.prog 3 #[.agg #[.int .i64 a0_0, .int .i64 a0_1, .int .i64 a0_2, .int .i64 a0_3, .int .i64 a0_4, .slice a0_5 len0_5 cap0_5], .int .i64 a1, .bool a2] w fun e w' => e = .returned (.bool true) ∧ Below w.heap.size w w' := by
 obtain ⟨l0_5, rfl, hr0_5, hm0_5, hw0_5, hc0_5⟩ := ReadsInt.ofRowC w0_5
 obtain ⟨k, h⟩ := P a0_0 a0_1 a0_2 a0_3 a0_4 l0_5 a1 a2 w0_0 w0_1 w0_2 w0_3 w0_4 hm0_5 y0_5 hw0_5 w1
 refine (trivetlaw16_SpreadTells.calls k a0_0 a0_1 a0_2 a0_3 a0_4 _ _ l0_5 a1 a2 true w (Kd.C_of_reads (d := (0 : Int)) (h1 := fun _ => rfl) hr0_5) hc0_5 h).mono ?_
 rintro e w' ⟨rfl, hd⟩
 exact ⟨rfl, hd⟩

end Go.Proofs.Ytjeghhheenenbaa.P
