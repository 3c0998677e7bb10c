-- Written by a program of this session out of the translation of the seat: Lean functions and the proofs that the Go functions come to them.
import Derived.Test.YtjeghhheenenbaaPx0
import Derived.Test.YtjeghhheenenbaaPx1
import Derived.Test.YtjeghhheenenbaaPx5
import Derived.Test.YtjeghhheenenbaaPx6
namespace Go.Proofs.Ytjeghhheenenbaa.P
open Go.RowKit Go.Proofs.YtjeghhheenenbaaW.PrintWords Go.Proofs.YtjeghhheenenbaaW.PrintLast Go.Proofs.YtjeghhheenenbaaW.PrintMore
attribute [local go_sem] max2_int min2_int max_two min_two max_three min_three max_four min_four   -- for this text's walks alone
set_option linter.unusedVariables false
set_option linter.unusedSimpArgs false

/-! ### spread_Of: function 9, its laws -/
def Spr.su (s t : Int) : Int := if t ≥ s then t - s else 0
def Spr.sho (s t : Int) : Int := if t ≥ s then 0 else if t ≥ 0 then s - t else if s > 0 then s else 0
def Spr.de (s t : Int) : Int := if t ≥ s then 0 else if t ≥ 0 then 0 else if s > 0 then -t else s - t
def Spr.may (p s t : Int) : Prop := (0 ≤ p ∧ p ≤ 10000000000000) ∧ (-10000000000000 ≤ s ∧ s ≤ 10000000000000) ∧ (-10000000000000 ≤ t ∧ t ≤ 10000000000000) ∧ Spr.su s t ≤ 10000000000000 ∧ Spr.sho s t ≤ 10000000000000 ∧ Spr.de s t ≤ 10000000000000
instance (p s t : Int) : Decidable (Spr.may p s t) := inferInstanceAs (Decidable (_ ∧ _ ∧ _ ∧ _ ∧ _ ∧ _))
def Spr.re (s t : Int) (cur : Bool) : Int := if Spr.su s t ≥ 5000 ∧ cur = true then Spr.su s t else 0
/-- what is paid more in month j -/
def Spr.mo (p s t : Int) (cur : Bool) (j : Nat) : Int := -Spr.ev (Spr.su s t - Spr.re s t cur) 12 j + Spr.ev (Spr.sho s t) 12 j + Spr.ev (Spr.de s t) (if Spr.de s t < p then 2 else 12) j
theorem Spr.nn (s t : Int) : 0 ≤ Spr.su s t ∧ 0 ≤ Spr.sho s t ∧ (0 ≤ Spr.de s t) := by
 unfold Spr.su Spr.sho Spr.de
 refine ⟨?_, ?_, ?_⟩ <;> repeat' split
 all_goals omega
theorem Spr.re_in (s t : Int) (cur : Bool) : 0 ≤ Spr.su s t - Spr.re s t cur ∧ Spr.su s t - Spr.re s t cur ≤ Spr.su s t := by
 have := Spr.nn s t
 unfold Spr.re
 split <;> omega
theorem Spr.ev_zero (n : Int) (j : Nat) : Spr.ev 0 n j = 0 := by
 unfold Spr.ev
 split
 ·rw [Int.zero_ediv, Int.zero_emod, if_neg (by omega)]; rfl
 ·rfl
theorem spread_within.num (a : Int) : spread_within.f a = some (decide (-10000000000000 ≤ a ∧ a ≤ 10000000000000)) := by
 unfold spread_within.f
 by_cases c : a ≥ -10000000000000
 ·rw [if_pos c]; simp; omega
 ·rw [if_neg c]; simp; omega
theorem spread_differs.num (s t : Int) (hs : -10000000000000 ≤ s ∧ s ≤ 10000000000000) (ht : -10000000000000 ≤ t ∧ t ≤ 10000000000000) : spread_differs.f s t = some (Spr.su s t, Spr.sho s t, Spr.de s t, 0, []) := by
 unfold spread_differs.f Spr.su Spr.sho Spr.de
 by_cases c1 : t ≥ s
 ·simp only [if_pos c1]; rw [M.w64_id (by omega) (by omega)]
 ·simp only [if_neg c1]
  by_cases c2 : t ≥ 0
  ·simp only [if_pos c2]; rw [M.w64_id (by omega) (by omega)]
  ·simp only [if_neg c2]
   by_cases c3 : s > 0
   ·simp only [if_pos c3]; rw [M.w64_id (by omega) (by omega)]
   ·simp only [if_neg c3]; rw [M.w64_id (by omega) (by omega)]
theorem spread_Of.bad (k : Nat) (y p c s lo : Int) (bal : List Int) (t : Int) (cur : Bool) (hk : 1 ≤ k) : spread_Of.j0 k t cur true y p c s lo bal = some (0, 0, 0, 0, [], some 1) := by
 obtain ⟨j, rfl⟩ : ∃ j, k = j + 1 := ⟨k - 1, by omega⟩
 simp [spread_Of.j0]
theorem spread_Of.j3_num (k : Nat) (spr r su sh de : Int) (m : Nat) (h1 : 0 ≤ spr ∧ spr ≤ 10000000000000) (h2 : 0 ≤ sh ∧ sh ≤ 10000000000000) (h3 : 0 ≤ de ∧ de ≤ 10000000000000) (hm : m = 2 ∨ m = 12) (hk : 2002 ≤ k) :
  spread_Of.j3 k spr (m : Int) su sh de r (List.replicate 12 0) = some (su, sh, de, r, Spr.mk (fun j => -Spr.ev spr 12 j + Spr.ev sh 12 j + Spr.ev de (m : Int) j), none) := by
 obtain ⟨j, rfl⟩ : ∃ j, k = j + 1 := ⟨k - 1, by omega⟩
 have b1 := fun j => Spr.ev_in h1 (show (1 : Int) ≤ 12 by omega) j
 have b2 := fun j => Spr.ev_in h2 (show (1 : Int) ≤ 12 by omega) j
 simp only [spread_Of.j3]
 rw [Spr.zero]
 have e1 := spread_add.num j spr (-1) 12 (fun _ => 0) h1 (by omega) (.inr rfl) (fun _ => by omega) (by omega)
 rw [show ((12 : Nat) : Int) = 12 from rfl] at e1
 rw [e1, Option.bind_some]
 dsimp only
 rw [if_pos (by rfl)]
 have e2 := spread_add.num j sh 1 12 (fun j => 0 + -1 * Spr.ev spr 12 j) h2 (by omega) (.inl rfl) (fun j => by have := b1 j; omega) (by omega)
 rw [show ((12 : Nat) : Int) = 12 from rfl] at e2
 rw [e2, Option.bind_some]
 dsimp only
 rw [if_pos (by rfl), spread_add.num j de 1 m _ h3 (by omega) (.inl rfl) (fun j => by have := b1 j; have := b2 j; omega) (by omega), Option.bind_some]
 dsimp only
 rw [if_pos (by rfl)]
 congr 6
 exact Spr.ext (fun j _ => by omega)
theorem spread_Of.num (k : Nat) (y p c s lo : Int) (bal : List Int) (t : Int) (cur : Bool) (hk : 2010 ≤ k) :
  spread_Of.f k y p c s lo bal t cur = some (if Spr.may p s t then (Spr.su s t, Spr.sho s t, Spr.de s t, Spr.re s t cur, Spr.mk (Spr.mo p s t cur), none) else (0, 0, 0, 0, [], some 1)) := by
 unfold spread_Of.f
 by_cases c1 : p < 0
 ·rw [if_pos c1, spread_Of.bad k _ _ _ _ _ _ _ _ (by omega), if_neg (fun h => by have := h.1.1; omega)]
 rw [if_neg c1, spread_within.num, Option.bind_some]
 by_cases c2 : -10000000000000 ≤ p ∧ p ≤ 10000000000000
 rotate_left
 ·rw [if_neg (by simpa using c2), spread_Of.bad k _ _ _ _ _ _ _ _ (by omega), if_neg (fun h => c2 (by have := h.1; omega))]
 rw [if_pos (by simpa using c2), spread_within.num, Option.bind_some]
 by_cases c3 : -10000000000000 ≤ s ∧ s ≤ 10000000000000
 rotate_left
 ·rw [if_neg (by simpa using c3), spread_Of.bad k _ _ _ _ _ _ _ _ (by omega), if_neg (fun h => c3 h.2.1)]
 rw [if_pos (by simpa using c3), spread_within.num, Option.bind_some]
 by_cases c4 : -10000000000000 ≤ t ∧ t ≤ 10000000000000
 rotate_left
 ·rw [decide_eq_false c4, Bool.not_false, spread_Of.bad k _ _ _ _ _ _ _ _ (by omega), if_neg (fun h => c4 h.2.2.1)]
 rw [decide_eq_true c4, Bool.not_true]
 obtain ⟨j, rfl⟩ : ∃ j, k = j + 3 := ⟨k - 3, by omega⟩
 have nn := Spr.nn s t
 simp only [spread_Of.j0]
 rw [if_neg (by decide), spread_differs.num s t c3 c4, Option.bind_some]
 dsimp only
 have hmx : mx (mx (Spr.su s t) (Spr.sho s t)) (Spr.de s t) > 10000000000000 ↔ ¬ (Spr.su s t ≤ 10000000000000 ∧ Spr.sho s t ≤ 10000000000000 ∧ Spr.de s t ≤ 10000000000000) := by
  unfold mx
  split <;> split <;> omega
 by_cases c5 : Spr.su s t ≤ 10000000000000 ∧ Spr.sho s t ≤ 10000000000000 ∧ Spr.de s t ≤ 10000000000000
 rotate_left
 ·rw [if_pos (hmx.mpr c5), if_neg (fun h => c5 h.2.2.2)]
 rw [if_neg (fun h => hmx.mp h c5), if_pos (by decide), Option.bind_some, if_pos (show Spr.may p s t from ⟨by omega, c3, c4, c5⟩)]
 have key : ∀ (spr r : Int), 0 ≤ spr ∧ spr ≤ 10000000000000 → spr = Spr.su s t - Spr.re s t cur → r = Spr.re s t cur →
   spread_Of.j2 (j + 1) spr y p c s lo bal (Spr.su s t) (Spr.sho s t) (Spr.de s t) r (List.replicate 12 0) = some (Spr.su s t, Spr.sho s t, Spr.de s t, Spr.re s t cur, Spr.mk (Spr.mo p s t cur), none) := by
  rintro spr r hspr rfl rfl
  simp only [spread_Of.j2]
  by_cases c6 : Spr.de s t < p
  ·rw [if_pos c6]
   have := spread_Of.j3_num j (Spr.su s t - Spr.re s t cur) (Spr.re s t cur) (Spr.su s t) (Spr.sho s t) (Spr.de s t) 2 hspr ⟨nn.2.1, c5.2.1⟩ ⟨nn.2.2, c5.2.2⟩ (.inl rfl) (by omega)
   rw [show ((2 : Nat) : Int) = 2 from rfl] at this
   rw [this]
   congr 6
   exact Spr.ext (fun j _ => by unfold Spr.mo; rw [if_pos c6])
  ·rw [if_neg c6]
   have := spread_Of.j3_num j (Spr.su s t - Spr.re s t cur) (Spr.re s t cur) (Spr.su s t) (Spr.sho s t) (Spr.de s t) 12 hspr ⟨nn.2.1, c5.2.1⟩ ⟨nn.2.2, c5.2.2⟩ (.inr rfl) (by omega)
   rw [show ((12 : Nat) : Int) = 12 from rfl] at this
   rw [this]
   congr 6
   exact Spr.ext (fun j _ => by unfold Spr.mo; rw [if_neg c6])
 have ri := Spr.re_in s t cur
 by_cases c7 : Spr.su s t ≥ 5000
 ·rw [if_pos c7]
  simp only [spread_Of.j1]
  by_cases c8 : cur = true
  ·rw [if_pos c8]
   have e : Spr.re s t cur = Spr.su s t := by unfold Spr.re; rw [if_pos ⟨c7, c8⟩]
   exact key 0 _ (by omega) (by omega) e.symm
  ·rw [if_neg c8]
   have e : Spr.re s t cur = 0 := by unfold Spr.re; rw [if_neg (fun h => c8 h.2)]
   exact key _ _ (by omega) (by omega) e.symm
 ·rw [if_neg c7]
  simp only [spread_Of.j1]
  rw [if_neg (by decide)]
  have e : Spr.re s t cur = 0 := by unfold Spr.re; rw [if_neg (fun h => c7 h.1)]
  exact key _ _ (by omega) (by omega) e.symm
/-- the sum of p months from month i on -/
def Spr.sm (g : Nat → Int) : Nat → Nat → Int
 | _, 0 => 0
 | i, p + 1 => g i + Spr.sm g (i + 1) p
theorem Spr.ev12 {a : Int} (ha : 0 ≤ a) : Spr.sm (fun j => Spr.ev a 12 j) 0 12 = a := by
 simp only [Spr.sm, Spr.ev]
 have h0 : 12 * (a / 12) + a % 12 = a := Int.mul_ediv_add_emod a 12
 have h1 : a % 12 = 0 ∨ a % 12 = 1 ∨ a % 12 = 2 ∨ a % 12 = 3 ∨ a % 12 = 4 ∨ a % 12 = 5 ∨ a % 12 = 6 ∨ a % 12 = 7 ∨ a % 12 = 8 ∨ a % 12 = 9 ∨ a % 12 = 10 ∨ a % 12 = 11 := by omega
 rcases h1 with h | h | h | h | h | h | h | h | h | h | h | h <;> rw [h] at h0 ⊢ <;> simp <;> omega
theorem Spr.ev2 {a : Int} (ha : 0 ≤ a) : Spr.sm (fun j => Spr.ev a 2 j) 0 12 = a := by
 simp only [Spr.sm, Spr.ev]
 have h0 : 2 * (a / 2) + a % 2 = a := Int.mul_ediv_add_emod a 2
 have h1 : a % 2 = 0 ∨ a % 2 = 1 := by omega
 rcases h1 with h | h <;> rw [h] at h0 ⊢ <;> simp <;> omega
theorem Spr.mo_sum (p s t : Int) (cur : Bool) : Spr.sm (Spr.mo p s t cur) 0 12 = Spr.sho s t + Spr.de s t - (Spr.su s t - Spr.re s t cur) := by
 have nn := Spr.nn s t
 have e1 := Spr.ev12 (Spr.re_in s t cur).1
 have e2 := Spr.ev12 nn.2.1
 by_cases c : Spr.de s t < p
 ·have e3 := Spr.ev2 nn.2.2
  simp only [Spr.sm, Spr.mo, if_pos c] at e1 e2 e3 ⊢
  omega
 ·have e3 := Spr.ev12 nn.2.2
  simp only [Spr.sm, Spr.mo, if_neg c] at e1 e2 e3 ⊢
  omega
theorem Spr.mo_in {p s t : Int} (cur : Bool) (h : Spr.may p s t) (j : Nat) : -100000000000000 ≤ Spr.mo p s t cur j ∧ Spr.mo p s t cur j ≤ 100000000000000 := by
 have nn := Spr.nn s t
 have ri := Spr.re_in s t cur
 obtain ⟨_, _, _, h1, h2, h3⟩ := h
 have b1 := Spr.ev_in (a := Spr.su s t - Spr.re s t cur) ⟨by omega, by omega⟩ (show (1 : Int) ≤ 12 by omega) j
 have b2 := Spr.ev_in (a := Spr.sho s t) ⟨by omega, by omega⟩ (show (1 : Int) ≤ 12 by omega) j
 have b3 := Spr.ev_in (a := Spr.de s t) (n := if Spr.de s t < p then 2 else 12) ⟨by omega, by omega⟩ (by split <;> omega) j
 unfold Spr.mo
 omega

/-! ### trivetlaw16_up: function 8 -/
def trivetlaw16_up.f (k : Nat)  : Option (Bool) := (spread_Of.f k 0 100 0 1100 0 ([] : List Int) 1220 true).bind fun bt477 => ((spread_Of.f k 0 (-1) 0 0 0 ([] : List Int) 0 true).bind fun bt486 => (if bt477.2.2.2.2.2.isNone = true then (if bt477.1 = 120 then (if (bt477.2.2.2.2.1.length : Int) = 12 then (if 11 < (bt477.2.2.2.2.1.length : Int) then (if (rd bt477.2.2.2.2.1 11) = (-10) then (if bt486.2.2.2.2.2.isNone = true then (some false) else (some ((bt486.2.2.2.2.2.getD 0) == 1))) else (some false)) else (none)) else (some false)) else (some false)) else (some false)))
theorem trivetlaw16_up.mono : ∀ k, LeO (trivetlaw16_up.f k ) (trivetlaw16_up.f (k + 1) ) := by
 intro  k
 unfold trivetlaw16_up.f
 repeat' first
   | (with_reducible exact spread_Of.mono _ _ _ _ _ _ _ _ _)
   | (with_reducible exact LeO.refl _)
   | (with_reducible exact LeO.none _)
   | (with_reducible refine LeO.ite ?_ ?_)
   | (with_reducible refine LeO.bind ?_ (fun _ => ?_))
   | exact spread_Of.mono _ _ _ _ _ _ _ _ _
   | exact LeO.none _
   | refine LeO.ite ?_ ?_
   | refine LeO.bind ?_ (fun _ => ?_)
set_option maxHeartbeats 8000000 in
set_option maxRecDepth 100000 in
theorem trivetlaw16_up.calls (k : Nat)  (r : Bool) (w : World) (h : trivetlaw16_up.f k  = some r) :
  Calls Try.prog 8 #[] w fun e w' => e = .returned (.bool r) ∧ Below w.heap.size w w' := by
 have hu24 := Try.underlying24
 have hu27 := Try.underlying27
 have hu29 := Try.underlying29
 have hu34 := Try.underlying34
 have HB := ka (Below.refl w.heap.size w)
 have H : ((spread_Of.f k 0 100 0 1100 0 ([] : List Int) 1220 true).bind fun bt477 => ((spread_Of.f k 0 (-1) 0 0 0 ([] : List Int) 0 true).bind fun bt486 => (if bt477.2.2.2.2.2.isNone = true then (if bt477.1 = 120 then (if (bt477.2.2.2.2.1.length : Int) = 12 then (if 11 < (bt477.2.2.2.2.1.length : Int) then (if (rd bt477.2.2.2.2.1 11) = (-10) then (if bt486.2.2.2.2.2.isNone = true then (some false) else (some ((bt486.2.2.2.2.2.getD 0) == 1))) else (some false)) else (none)) else (some false)) else (some false)) else (some false)))) = some r := h
 clear h
 replace H := Option.bind_eq_some_iff.mp H
 obtain ⟨⟨t477, t478, t479, t480, t481, t484⟩, A10, H⟩ := H
 replace H : ((spread_Of.f k 0 (-1) 0 0 0 ([] : List Int) 0 true).bind fun bt486 => (if t484.isNone = true then (if t477 = 120 then (if (t481.length : Int) = 12 then (if 11 < (t481.length : Int) then (if (rd t481 11) = (-10) then (if bt486.2.2.2.2.2.isNone = true then (some false) else (some ((bt486.2.2.2.2.2.getD 0) == 1))) else (some false)) else (none)) else (some false)) else (some false)) else (some false))) = some r := H
 have A1 := ka A10
 clear A10
 replace H := Option.bind_eq_some_iff.mp H
 obtain ⟨⟨t486, t487, t488, t489, t490, t493⟩, A20, H⟩ := H
 replace H : (if t484.isNone = true then (if t477 = 120 then (if (t481.length : Int) = 12 then (if 11 < (t481.length : Int) then (if (rd t481 11) = (-10) then (if t493.isNone = true then (some false) else (some ((t493.getD 0) == 1))) else (some false)) else (none)) else (some false)) else (some false)) else (some false)) = some r := H
 have A2 := ka A20
 clear A20
 rcases t484 with _ | q495
 ·have H1 : (if t477 = 120 then (if (t481.length : Int) = 12 then (if 11 < (t481.length : Int) then (if (rd t481 11) = (-10) then (if t493.isNone = true then (some false) else (some ((t493.getD 0) == 1))) else (some false)) else (none)) else (some false)) else (some false)) = some r := by rw [if_pos (show (none : Option Int).isNone = true by rfl)] at H; exact H
  clear H
  have H := H1
  clear H1
  try simp only [errW_none, errW_some]
  by_cases c3 : t477 = 120
  ·rw [if_pos c3] at H
   have c3b0 : (t477 == 120) = true := beq_iff_eq.mpr c3
   have c3b1 : (t477 != 120) = false := bne_eq_false_iff_eq.mpr c3
   clear c3
   by_cases c4 : (t481.length : Int) = 12
   ·rw [if_pos c4] at H
    have c4b0 : ((t481.length : Int) == 12) = true := beq_iff_eq.mpr c4
    have c4b1 : ((t481.length : Int) != 12) = false := bne_eq_false_iff_eq.mpr c4
    clear c4
    by_cases c5 : 11 < (t481.length : Int)
    ·rw [if_pos c5] at H
     have c5b0 : decide (11 < (t481.length : Int)) = true := decide_eq_true c5
     have c5b1 : decide (11 < t481.length) = true := decide_eq_true (by omega)
     clear c5
     by_cases c6 : (rd t481 11) = (-10)
     ·rw [if_pos c6] at H
      have c6b0 : ((rd t481 11) == (-10)) = true := beq_iff_eq.mpr c6
      have c6b1 : ((rd t481 11) != (-10)) = false := bne_eq_false_iff_eq.mpr c6
      clear c6
      rcases t493 with _ | q497
      ·have H1 : (some false) = some r := by rw [if_pos (show (none : Option Int).isNone = true by rfl)] at H; exact H
       clear H
       have H := H1
       clear H1
       try simp only [errW_none, errW_some]
       obtain rfl := Option.some.inj H
       go_enter Try.func8, Try.ntmps8
       go_wp2_with (first | ((with_reducible refine gate_callee (f := 9) rfl ?_); refine kg (some 7) rfl rfl Try.func9 (by kernel_rfl) rfl #[.agg #[.int .i64 0, .int .i64 100, .int .i64 0, .int .i64 1100, .int .i64 0, .slice none 0 0], .int .i64 1220, .bool true] rfl ?_; (refine (spread_Of.calls k 0 100 0 1100 0 _ _ ([] : List Int) 1220 true t477 t478 t479 t480 t481 none _ ?side1 ?side2 A1.out).mono ?_); (case side1 => exact Kd.C_nil _ _); (case side2 => exact Nat.le_refl _); rintro e w7 ⟨v482, rfl, ho0, hb⟩; refine ⟨_, rfl, ?_⟩; have HO483 := ka (Kd.R_lower ho0 (below_size (kw HB.out))); replace HB := ka (below_step (kw HB.out) hb); (try clear hb); (try clear hb2); (try clear hk); (try clear hi); (try clear ho0); (try simp only [errW_none, errW_some])) | ((with_reducible refine gate_dst (N := 1) rfl ?_); (try (refine gate_guard (by rfl) ?_; dsimp only)); refine kx (N := 1) (cs := #[.int .i64 0, .int .i64 0, .int .i64 0, .int .i64 0, .slice none 0 0]) (t := 27) ?_; intro gb485 hg w8 hbox hb; have n0_ := ka (Kd.R_below (kr HO483.out) hb); have n1_ := ka (below_step (kw HB.out) hb); have n2_ := ka (hbox); have n3_ := ka ((by rw [hg]; exact (below_size (kw HB.out)) : w.heap.size ≤ gb485)); have n4_ := n3_; clear HO483; clear HB; have HO483 := n0_; have HB := n1_; have BK485 := n2_; have GW485 := n3_; have GE485 := n4_; clear n0_ n1_ n2_ n3_ n4_; clear hb hbox hg; have hcz9 := blkAll5 BK485.out; obtain ⟨Ao10, co10, eo10⟩ := Kd.R_slice HO483.out; subst eo10) | ((with_reducible refine gate_callee (f := 9) rfl ?_); refine kg (some 12) rfl rfl Try.func9 (by kernel_rfl) rfl #[.agg #[.int .i64 0, .int .i64 (-1), .int .i64 0, .int .i64 0, .int .i64 0, .slice none 0 0], .int .i64 0, .bool true] rfl ?_; (refine (spread_Of.calls k 0 (-1) 0 0 0 _ _ ([] : List Int) 0 true t486 t487 t488 t489 t490 none _ ?side1 ?side2 A2.out).mono ?_); (case side1 => exact Kd.C_nil _ _); (case side2 => exact Nat.le_refl _); rintro e w11 ⟨v491, rfl, ho0, hb⟩; refine ⟨_, rfl, ?_⟩; have HO492 := ka (Kd.R_lower (Kd.R_new' ho0 (Kd.R_lt (kr ((Kd.R_mono (Kd.R_far (p := ⟨gb485, 4, none⟩) (Kd.R_far (p := ⟨gb485, 3, none⟩) (Kd.R_far (p := ⟨gb485, 2, none⟩) (Kd.R_far (p := ⟨gb485, 1, none⟩) (Kd.R_far (p := ⟨gb485, 0, none⟩) (Kd.R_types HO483.out BK485.out (by decide)) (fun _ hk => hk.2) (.int .i64 t477)) (fun _ hk => hk.2) (.int .i64 t478)) (fun _ hk => hk.2) (.int .i64 t479)) (fun _ hk => hk.2) (.int .i64 t480)) (fun _ hk => hk.2) (.slice Ao10 t481.length co10)) (fun _ h_ => h_.1)))))) (below_size (kw HB.out))); replace HO483 := ka (Kd.R_elder' (kr ((Kd.R_mono (Kd.R_far (p := ⟨gb485, 4, none⟩) (Kd.R_far (p := ⟨gb485, 3, none⟩) (Kd.R_far (p := ⟨gb485, 2, none⟩) (Kd.R_far (p := ⟨gb485, 1, none⟩) (Kd.R_far (p := ⟨gb485, 0, none⟩) (Kd.R_types HO483.out BK485.out (by decide)) (fun _ hk => hk.2) (.int .i64 t477)) (fun _ hk => hk.2) (.int .i64 t478)) (fun _ hk => hk.2) (.int .i64 t479)) (fun _ hk => hk.2) (.int .i64 t480)) (fun _ hk => hk.2) (.slice Ao10 t481.length co10)) (fun _ h_ => h_.1)))) (Kd.R_base ho0) hb); replace BK485 := ka (blk_below (g := gb485) (o := .cells #[.int .i64 t477, .int .i64 t478, .int .i64 t479, .int .i64 t480, .slice Ao10 t481.length co10] 27 (0, 0)) (by (with_reducible repeat (first | apply kb1 | apply kb2 | apply kb3 | apply blkPut5_4 | apply blkPut5_3 | apply blkPut5_2 | apply blkPut5_1 | apply blkPut5_0)); exact BK485.out) hb); replace HB := ka (below_step (kw HB.out) hb); (try clear hb); (try clear hb2); (try clear hk); (try clear hi); (try clear ho0); (try simp only [errW_none, errW_some])) | ((with_reducible refine gate_dst (N := 3) rfl ?_); (try (refine gate_guard (by rfl) ?_; dsimp only)); refine kx (N := 3) (cs := #[.int .i64 0, .int .i64 0, .int .i64 0, .int .i64 0, .slice none 0 0]) (t := 27) ?_; intro gb494 hg w12 hbox hb; have n0_ := ka (Kd.R_below (kr HO483.out) hb); have n1_ := ka (Kd.R_below (kr HO492.out) hb); have n2_ := ka (blk_below (g := gb485) (kz BK485.out) hb); have n3_ := ka (below_step (kw HB.out) hb); have n4_ := ka (hbox); have n5_ := ka ((by rw [hg]; exact (below_size (kw HB.out)) : w.heap.size ≤ gb494)); have n6_ := n5_; have n7_ := ka ((by rw [hg]; exact Nat.ne_of_lt (blk_lt (g := gb485) (kz BK485.out)) : gb485 ≠ gb494)); have n8_ := ka n7_.out.symm; clear HO483; clear HO492; clear BK485; clear HB; have HO483 := n0_; have HO492 := n1_; have BK485 := n2_; have HB := n3_; have BK494 := n4_; have GW494 := n5_; have GE494 := n6_; have NB485_494 := n7_; have NB494_485 := n8_; clear n0_ n1_ n2_ n3_ n4_ n5_ n6_ n7_ n8_; clear hb hbox hg; have hnb13 := NB494_485.out; have hnc13 := NB485_494.out; have hcz14 := blkAll5 BK494.out; obtain ⟨Ao15, co15, eo15⟩ := Kd.R_slice HO492.out; subst eo15; have hcz16 := blkAll5 BK485.out; have p496 : 0 ≤ (11 : Int) := (by omega); have q496 : 11 < (t481.length : Int) := of_decide_eq_true (by first | (with_reducible assumption) | assumption); obtain ⟨ad496, e496, hx496_0⟩ := Kd.at_int (Kd.R_reads' HO483.out).2.2 11 p496 q496; cases e496; (try simp only [show (11 : Int).toNat = 11 from rfl, Nat.reduceMul, Nat.reduceEqDiff, Go.Addr.add, ↓reduceIte] at hx496_0); have qi496 : (11 < t481.length) = True := eq_true (by omega); (try rw [show ((11 : Int)).toNat = 11 from rfl] at hx496_0); have hn496_0 : ad496.block ≠ gb494 := Kd.own_blk (Kd.R_ne HO483.out BK494.out (by decide)); have hn496_1 : ad496.block ≠ gb494 := Kd.own_blk (Kd.R_ne HO483.out BK494.out (by decide)); have hn496_2 : ad496.block ≠ gb494 := Kd.own_blk (Kd.R_ne HO483.out BK494.out (by decide)); have hn496_3 : ad496.block ≠ gb494 := Kd.own_blk (Kd.R_ne HO483.out BK494.out (by decide)); have hn496_4 : ad496.block ≠ gb494 := Kd.own_blk (Kd.R_ne HO483.out BK494.out (by decide)); replace hx496_0 := (cell_far (p := ⟨gb494, 0, none⟩) (by first | (rw [add_block]; exact hn496_0) | (show (Addr.add _ _).block ≠ _; rw [add_block]; exact hn496_0) | exact hn496_0) (.int .i64 t486)).trans hx496_0; replace hx496_0 := (cell_far (p := ⟨gb494, 1, none⟩) (by first | (rw [add_block]; exact hn496_1) | (show (Addr.add _ _).block ≠ _; rw [add_block]; exact hn496_1) | exact hn496_1) (.int .i64 t487)).trans hx496_0; replace hx496_0 := (cell_far (p := ⟨gb494, 2, none⟩) (by first | (rw [add_block]; exact hn496_2) | (show (Addr.add _ _).block ≠ _; rw [add_block]; exact hn496_2) | exact hn496_2) (.int .i64 t488)).trans hx496_0; replace hx496_0 := (cell_far (p := ⟨gb494, 3, none⟩) (by first | (rw [add_block]; exact hn496_3) | (show (Addr.add _ _).block ≠ _; rw [add_block]; exact hn496_3) | exact hn496_3) (.int .i64 t489)).trans hx496_0; replace hx496_0 := (cell_far (p := ⟨gb494, 4, none⟩) (by first | (rw [add_block]; exact hn496_4) | (show (Addr.add _ _).block ≠ _; rw [add_block]; exact hn496_4) | exact hn496_4) (.slice Ao15 t490.length co15)).trans hx496_0; clear hn496_0; clear hn496_1; clear hn496_2; clear hn496_3; clear hn496_4; replace p496 := eq_true p496; replace q496 := eq_true q496))
       go_ret
       exact ⟨by first | rfl | (simp [errW_none, errW_some] <;> rfl) | (simp [*, errW_none, errW_some] <;> rfl), by repeat (first | (with_reducible first | exact HB.out | apply kc1 | apply kc2 | apply kc3 | refine kc4 ?_ GE485.out | refine kc4 ?_ GE494.out) | exact HB.out)⟩
      ·have H1 : (some (q497 == 1)) = some r := by rw [if_neg (show ¬ (some q497).isNone = true by simp)] at H; exact H
       clear H
       have H := H1
       clear H1
       try simp only [errW_none, errW_some]
       obtain rfl := Option.some.inj H
       go_enter Try.func8, Try.ntmps8
       go_wp2_with (first | ((with_reducible refine gate_callee (f := 9) rfl ?_); refine kg (some 7) rfl rfl Try.func9 (by kernel_rfl) rfl #[.agg #[.int .i64 0, .int .i64 100, .int .i64 0, .int .i64 1100, .int .i64 0, .slice none 0 0], .int .i64 1220, .bool true] rfl ?_; (refine (spread_Of.calls k 0 100 0 1100 0 _ _ ([] : List Int) 1220 true t477 t478 t479 t480 t481 none _ ?side1 ?side2 A1.out).mono ?_); (case side1 => exact Kd.C_nil _ _); (case side2 => exact Nat.le_refl _); rintro e w17 ⟨v482, rfl, ho0, hb⟩; refine ⟨_, rfl, ?_⟩; have HO483 := ka (Kd.R_lower ho0 (below_size (kw HB.out))); replace HB := ka (below_step (kw HB.out) hb); (try clear hb); (try clear hb2); (try clear hk); (try clear hi); (try clear ho0); (try simp only [errW_none, errW_some])) | ((with_reducible refine gate_dst (N := 1) rfl ?_); (try (refine gate_guard (by rfl) ?_; dsimp only)); refine kx (N := 1) (cs := #[.int .i64 0, .int .i64 0, .int .i64 0, .int .i64 0, .slice none 0 0]) (t := 27) ?_; intro gb485 hg w18 hbox hb; have n0_ := ka (Kd.R_below (kr HO483.out) hb); have n1_ := ka (below_step (kw HB.out) hb); have n2_ := ka (hbox); have n3_ := ka ((by rw [hg]; exact (below_size (kw HB.out)) : w.heap.size ≤ gb485)); have n4_ := n3_; clear HO483; clear HB; have HO483 := n0_; have HB := n1_; have BK485 := n2_; have GW485 := n3_; have GE485 := n4_; clear n0_ n1_ n2_ n3_ n4_; clear hb hbox hg; have hcz19 := blkAll5 BK485.out; obtain ⟨Ao20, co20, eo20⟩ := Kd.R_slice HO483.out; subst eo20) | ((with_reducible refine gate_callee (f := 9) rfl ?_); refine kg (some 12) rfl rfl Try.func9 (by kernel_rfl) rfl #[.agg #[.int .i64 0, .int .i64 (-1), .int .i64 0, .int .i64 0, .int .i64 0, .slice none 0 0], .int .i64 0, .bool true] rfl ?_; (refine (spread_Of.calls k 0 (-1) 0 0 0 _ _ ([] : List Int) 0 true t486 t487 t488 t489 t490 (some q497) _ ?side1 ?side2 A2.out).mono ?_); (case side1 => exact Kd.C_nil _ _); (case side2 => exact Nat.le_refl _); rintro e w21 ⟨v491, rfl, ho0, hb⟩; refine ⟨_, rfl, ?_⟩; have HO492 := ka (Kd.R_lower (Kd.R_new' ho0 (Kd.R_lt (kr ((Kd.R_mono (Kd.R_far (p := ⟨gb485, 4, none⟩) (Kd.R_far (p := ⟨gb485, 3, none⟩) (Kd.R_far (p := ⟨gb485, 2, none⟩) (Kd.R_far (p := ⟨gb485, 1, none⟩) (Kd.R_far (p := ⟨gb485, 0, none⟩) (Kd.R_types HO483.out BK485.out (by decide)) (fun _ hk => hk.2) (.int .i64 t477)) (fun _ hk => hk.2) (.int .i64 t478)) (fun _ hk => hk.2) (.int .i64 t479)) (fun _ hk => hk.2) (.int .i64 t480)) (fun _ hk => hk.2) (.slice Ao20 t481.length co20)) (fun _ h_ => h_.1)))))) (below_size (kw HB.out))); replace HO483 := ka (Kd.R_elder' (kr ((Kd.R_mono (Kd.R_far (p := ⟨gb485, 4, none⟩) (Kd.R_far (p := ⟨gb485, 3, none⟩) (Kd.R_far (p := ⟨gb485, 2, none⟩) (Kd.R_far (p := ⟨gb485, 1, none⟩) (Kd.R_far (p := ⟨gb485, 0, none⟩) (Kd.R_types HO483.out BK485.out (by decide)) (fun _ hk => hk.2) (.int .i64 t477)) (fun _ hk => hk.2) (.int .i64 t478)) (fun _ hk => hk.2) (.int .i64 t479)) (fun _ hk => hk.2) (.int .i64 t480)) (fun _ hk => hk.2) (.slice Ao20 t481.length co20)) (fun _ h_ => h_.1)))) (Kd.R_base ho0) hb); replace BK485 := ka (blk_below (g := gb485) (o := .cells #[.int .i64 t477, .int .i64 t478, .int .i64 t479, .int .i64 t480, .slice Ao20 t481.length co20] 27 (0, 0)) (by (with_reducible repeat (first | apply kb1 | apply kb2 | apply kb3 | apply blkPut5_4 | apply blkPut5_3 | apply blkPut5_2 | apply blkPut5_1 | apply blkPut5_0)); exact BK485.out) hb); replace HB := ka (below_step (kw HB.out) hb); (try clear hb); (try clear hb2); (try clear hk); (try clear hi); (try clear ho0); (try simp only [errW_none, errW_some])) | ((with_reducible refine gate_dst (N := 3) rfl ?_); (try (refine gate_guard (by rfl) ?_; dsimp only)); refine kx (N := 3) (cs := #[.int .i64 0, .int .i64 0, .int .i64 0, .int .i64 0, .slice none 0 0]) (t := 27) ?_; intro gb494 hg w22 hbox hb; have n0_ := ka (Kd.R_below (kr HO483.out) hb); have n1_ := ka (Kd.R_below (kr HO492.out) hb); have n2_ := ka (blk_below (g := gb485) (kz BK485.out) hb); have n3_ := ka (below_step (kw HB.out) hb); have n4_ := ka (hbox); have n5_ := ka ((by rw [hg]; exact (below_size (kw HB.out)) : w.heap.size ≤ gb494)); have n6_ := n5_; have n7_ := ka ((by rw [hg]; exact Nat.ne_of_lt (blk_lt (g := gb485) (kz BK485.out)) : gb485 ≠ gb494)); have n8_ := ka n7_.out.symm; clear HO483; clear HO492; clear BK485; clear HB; have HO483 := n0_; have HO492 := n1_; have BK485 := n2_; have HB := n3_; have BK494 := n4_; have GW494 := n5_; have GE494 := n6_; have NB485_494 := n7_; have NB494_485 := n8_; clear n0_ n1_ n2_ n3_ n4_ n5_ n6_ n7_ n8_; clear hb hbox hg; have hnb23 := NB494_485.out; have hnc23 := NB485_494.out; have hcz24 := blkAll5 BK494.out; obtain ⟨Ao25, co25, eo25⟩ := Kd.R_slice HO492.out; subst eo25; have hcz26 := blkAll5 BK485.out; have p496 : 0 ≤ (11 : Int) := (by omega); have q496 : 11 < (t481.length : Int) := of_decide_eq_true (by first | (with_reducible assumption) | assumption); obtain ⟨ad496, e496, hx496_0⟩ := Kd.at_int (Kd.R_reads' HO483.out).2.2 11 p496 q496; cases e496; (try simp only [show (11 : Int).toNat = 11 from rfl, Nat.reduceMul, Nat.reduceEqDiff, Go.Addr.add, ↓reduceIte] at hx496_0); have qi496 : (11 < t481.length) = True := eq_true (by omega); (try rw [show ((11 : Int)).toNat = 11 from rfl] at hx496_0); have hn496_0 : ad496.block ≠ gb494 := Kd.own_blk (Kd.R_ne HO483.out BK494.out (by decide)); have hn496_1 : ad496.block ≠ gb494 := Kd.own_blk (Kd.R_ne HO483.out BK494.out (by decide)); have hn496_2 : ad496.block ≠ gb494 := Kd.own_blk (Kd.R_ne HO483.out BK494.out (by decide)); have hn496_3 : ad496.block ≠ gb494 := Kd.own_blk (Kd.R_ne HO483.out BK494.out (by decide)); have hn496_4 : ad496.block ≠ gb494 := Kd.own_blk (Kd.R_ne HO483.out BK494.out (by decide)); replace hx496_0 := (cell_far (p := ⟨gb494, 0, none⟩) (by first | (rw [add_block]; exact hn496_0) | (show (Addr.add _ _).block ≠ _; rw [add_block]; exact hn496_0) | exact hn496_0) (.int .i64 t486)).trans hx496_0; replace hx496_0 := (cell_far (p := ⟨gb494, 1, none⟩) (by first | (rw [add_block]; exact hn496_1) | (show (Addr.add _ _).block ≠ _; rw [add_block]; exact hn496_1) | exact hn496_1) (.int .i64 t487)).trans hx496_0; replace hx496_0 := (cell_far (p := ⟨gb494, 2, none⟩) (by first | (rw [add_block]; exact hn496_2) | (show (Addr.add _ _).block ≠ _; rw [add_block]; exact hn496_2) | exact hn496_2) (.int .i64 t488)).trans hx496_0; replace hx496_0 := (cell_far (p := ⟨gb494, 3, none⟩) (by first | (rw [add_block]; exact hn496_3) | (show (Addr.add _ _).block ≠ _; rw [add_block]; exact hn496_3) | exact hn496_3) (.int .i64 t489)).trans hx496_0; replace hx496_0 := (cell_far (p := ⟨gb494, 4, none⟩) (by first | (rw [add_block]; exact hn496_4) | (show (Addr.add _ _).block ≠ _; rw [add_block]; exact hn496_4) | exact hn496_4) (.slice Ao25 t490.length co25)).trans hx496_0; clear hn496_0; clear hn496_1; clear hn496_2; clear hn496_3; clear hn496_4; replace p496 := eq_true p496; replace q496 := eq_true q496))
       go_ret
       exact ⟨by first | rfl | (simp [errW_none, errW_some] <;> rfl) | (simp [*, errW_none, errW_some] <;> rfl), by repeat (first | (with_reducible first | exact HB.out | apply kc1 | apply kc2 | apply kc3 | refine kc4 ?_ GE485.out | refine kc4 ?_ GE494.out) | exact HB.out)⟩
     ·rw [if_neg c6] at H
      have c6b0 : ((rd t481 11) == (-10)) = false := beq_eq_false_iff_ne.mpr c6
      have c6b1 : ((rd t481 11) != (-10)) = true := bne_iff_ne.mpr c6
      obtain rfl := Option.some.inj H
      go_enter Try.func8, Try.ntmps8
      go_wp2_with (first | ((with_reducible refine gate_callee (f := 9) rfl ?_); refine kg (some 7) rfl rfl Try.func9 (by kernel_rfl) rfl #[.agg #[.int .i64 0, .int .i64 100, .int .i64 0, .int .i64 1100, .int .i64 0, .slice none 0 0], .int .i64 1220, .bool true] rfl ?_; (refine (spread_Of.calls k 0 100 0 1100 0 _ _ ([] : List Int) 1220 true t477 t478 t479 t480 t481 none _ ?side1 ?side2 A1.out).mono ?_); (case side1 => exact Kd.C_nil _ _); (case side2 => exact Nat.le_refl _); rintro e w27 ⟨v482, rfl, ho0, hb⟩; refine ⟨_, rfl, ?_⟩; have HO483 := ka (Kd.R_lower ho0 (below_size (kw HB.out))); replace HB := ka (below_step (kw HB.out) hb); (try clear hb); (try clear hb2); (try clear hk); (try clear hi); (try clear ho0); (try simp only [errW_none, errW_some])) | ((with_reducible refine gate_dst (N := 1) rfl ?_); (try (refine gate_guard (by rfl) ?_; dsimp only)); refine kx (N := 1) (cs := #[.int .i64 0, .int .i64 0, .int .i64 0, .int .i64 0, .slice none 0 0]) (t := 27) ?_; intro gb485 hg w28 hbox hb; have n0_ := ka (Kd.R_below (kr HO483.out) hb); have n1_ := ka (below_step (kw HB.out) hb); have n2_ := ka (hbox); have n3_ := ka ((by rw [hg]; exact (below_size (kw HB.out)) : w.heap.size ≤ gb485)); have n4_ := n3_; clear HO483; clear HB; have HO483 := n0_; have HB := n1_; have BK485 := n2_; have GW485 := n3_; have GE485 := n4_; clear n0_ n1_ n2_ n3_ n4_; clear hb hbox hg; have hcz29 := blkAll5 BK485.out; obtain ⟨Ao30, co30, eo30⟩ := Kd.R_slice HO483.out; subst eo30) | ((with_reducible refine gate_callee (f := 9) rfl ?_); refine kg (some 12) rfl rfl Try.func9 (by kernel_rfl) rfl #[.agg #[.int .i64 0, .int .i64 (-1), .int .i64 0, .int .i64 0, .int .i64 0, .slice none 0 0], .int .i64 0, .bool true] rfl ?_; (refine (spread_Of.calls k 0 (-1) 0 0 0 _ _ ([] : List Int) 0 true t486 t487 t488 t489 t490 t493 _ ?side1 ?side2 A2.out).mono ?_); (case side1 => exact Kd.C_nil _ _); (case side2 => exact Nat.le_refl _); rintro e w31 ⟨v491, rfl, ho0, hb⟩; refine ⟨_, rfl, ?_⟩; have HO492 := ka (Kd.R_lower (Kd.R_new' ho0 (Kd.R_lt (kr ((Kd.R_mono (Kd.R_far (p := ⟨gb485, 4, none⟩) (Kd.R_far (p := ⟨gb485, 3, none⟩) (Kd.R_far (p := ⟨gb485, 2, none⟩) (Kd.R_far (p := ⟨gb485, 1, none⟩) (Kd.R_far (p := ⟨gb485, 0, none⟩) (Kd.R_types HO483.out BK485.out (by decide)) (fun _ hk => hk.2) (.int .i64 t477)) (fun _ hk => hk.2) (.int .i64 t478)) (fun _ hk => hk.2) (.int .i64 t479)) (fun _ hk => hk.2) (.int .i64 t480)) (fun _ hk => hk.2) (.slice Ao30 t481.length co30)) (fun _ h_ => h_.1)))))) (below_size (kw HB.out))); replace HO483 := ka (Kd.R_elder' (kr ((Kd.R_mono (Kd.R_far (p := ⟨gb485, 4, none⟩) (Kd.R_far (p := ⟨gb485, 3, none⟩) (Kd.R_far (p := ⟨gb485, 2, none⟩) (Kd.R_far (p := ⟨gb485, 1, none⟩) (Kd.R_far (p := ⟨gb485, 0, none⟩) (Kd.R_types HO483.out BK485.out (by decide)) (fun _ hk => hk.2) (.int .i64 t477)) (fun _ hk => hk.2) (.int .i64 t478)) (fun _ hk => hk.2) (.int .i64 t479)) (fun _ hk => hk.2) (.int .i64 t480)) (fun _ hk => hk.2) (.slice Ao30 t481.length co30)) (fun _ h_ => h_.1)))) (Kd.R_base ho0) hb); replace BK485 := ka (blk_below (g := gb485) (o := .cells #[.int .i64 t477, .int .i64 t478, .int .i64 t479, .int .i64 t480, .slice Ao30 t481.length co30] 27 (0, 0)) (by (with_reducible repeat (first | apply kb1 | apply kb2 | apply kb3 | apply blkPut5_4 | apply blkPut5_3 | apply blkPut5_2 | apply blkPut5_1 | apply blkPut5_0)); exact BK485.out) hb); replace HB := ka (below_step (kw HB.out) hb); (try clear hb); (try clear hb2); (try clear hk); (try clear hi); (try clear ho0); (try simp only [errW_none, errW_some])) | ((with_reducible refine gate_dst (N := 3) rfl ?_); (try (refine gate_guard (by rfl) ?_; dsimp only)); refine kx (N := 3) (cs := #[.int .i64 0, .int .i64 0, .int .i64 0, .int .i64 0, .slice none 0 0]) (t := 27) ?_; intro gb494 hg w32 hbox hb; have n0_ := ka (Kd.R_below (kr HO483.out) hb); have n1_ := ka (Kd.R_below (kr HO492.out) hb); have n2_ := ka (blk_below (g := gb485) (kz BK485.out) hb); have n3_ := ka (below_step (kw HB.out) hb); have n4_ := ka (hbox); have n5_ := ka ((by rw [hg]; exact (below_size (kw HB.out)) : w.heap.size ≤ gb494)); have n6_ := n5_; have n7_ := ka ((by rw [hg]; exact Nat.ne_of_lt (blk_lt (g := gb485) (kz BK485.out)) : gb485 ≠ gb494)); have n8_ := ka n7_.out.symm; clear HO483; clear HO492; clear BK485; clear HB; have HO483 := n0_; have HO492 := n1_; have BK485 := n2_; have HB := n3_; have BK494 := n4_; have GW494 := n5_; have GE494 := n6_; have NB485_494 := n7_; have NB494_485 := n8_; clear n0_ n1_ n2_ n3_ n4_ n5_ n6_ n7_ n8_; clear hb hbox hg; have hnb33 := NB494_485.out; have hnc33 := NB485_494.out; have hcz34 := blkAll5 BK494.out; obtain ⟨Ao35, co35, eo35⟩ := Kd.R_slice HO492.out; subst eo35; have hcz36 := blkAll5 BK485.out; have p496 : 0 ≤ (11 : Int) := (by omega); have q496 : 11 < (t481.length : Int) := of_decide_eq_true (by first | (with_reducible assumption) | assumption); obtain ⟨ad496, e496, hx496_0⟩ := Kd.at_int (Kd.R_reads' HO483.out).2.2 11 p496 q496; cases e496; (try simp only [show (11 : Int).toNat = 11 from rfl, Nat.reduceMul, Nat.reduceEqDiff, Go.Addr.add, ↓reduceIte] at hx496_0); have qi496 : (11 < t481.length) = True := eq_true (by omega); (try rw [show ((11 : Int)).toNat = 11 from rfl] at hx496_0); have hn496_0 : ad496.block ≠ gb494 := Kd.own_blk (Kd.R_ne HO483.out BK494.out (by decide)); have hn496_1 : ad496.block ≠ gb494 := Kd.own_blk (Kd.R_ne HO483.out BK494.out (by decide)); have hn496_2 : ad496.block ≠ gb494 := Kd.own_blk (Kd.R_ne HO483.out BK494.out (by decide)); have hn496_3 : ad496.block ≠ gb494 := Kd.own_blk (Kd.R_ne HO483.out BK494.out (by decide)); have hn496_4 : ad496.block ≠ gb494 := Kd.own_blk (Kd.R_ne HO483.out BK494.out (by decide)); replace hx496_0 := (cell_far (p := ⟨gb494, 0, none⟩) (by first | (rw [add_block]; exact hn496_0) | (show (Addr.add _ _).block ≠ _; rw [add_block]; exact hn496_0) | exact hn496_0) (.int .i64 t486)).trans hx496_0; replace hx496_0 := (cell_far (p := ⟨gb494, 1, none⟩) (by first | (rw [add_block]; exact hn496_1) | (show (Addr.add _ _).block ≠ _; rw [add_block]; exact hn496_1) | exact hn496_1) (.int .i64 t487)).trans hx496_0; replace hx496_0 := (cell_far (p := ⟨gb494, 2, none⟩) (by first | (rw [add_block]; exact hn496_2) | (show (Addr.add _ _).block ≠ _; rw [add_block]; exact hn496_2) | exact hn496_2) (.int .i64 t488)).trans hx496_0; replace hx496_0 := (cell_far (p := ⟨gb494, 3, none⟩) (by first | (rw [add_block]; exact hn496_3) | (show (Addr.add _ _).block ≠ _; rw [add_block]; exact hn496_3) | exact hn496_3) (.int .i64 t489)).trans hx496_0; replace hx496_0 := (cell_far (p := ⟨gb494, 4, none⟩) (by first | (rw [add_block]; exact hn496_4) | (show (Addr.add _ _).block ≠ _; rw [add_block]; exact hn496_4) | exact hn496_4) (.slice Ao35 t490.length co35)).trans hx496_0; clear hn496_0; clear hn496_1; clear hn496_2; clear hn496_3; clear hn496_4; replace p496 := eq_true p496; replace q496 := eq_true q496))
      go_ret
      exact ⟨by first | rfl | (simp [errW_none, errW_some] <;> rfl) | (simp [*, errW_none, errW_some] <;> rfl), by repeat (first | (with_reducible first | exact HB.out | apply kc1 | apply kc2 | apply kc3 | refine kc4 ?_ GE485.out | refine kc4 ?_ GE494.out) | exact HB.out)⟩
    ·rw [if_neg c5] at H
     exact absurd H (by simp)
   ·rw [if_neg c4] at H
    have c4b0 : ((t481.length : Int) == 12) = false := beq_eq_false_iff_ne.mpr c4
    have c4b1 : ((t481.length : Int) != 12) = true := bne_iff_ne.mpr c4
    obtain rfl := Option.some.inj H
    go_enter Try.func8, Try.ntmps8
    go_wp2_with (first | ((with_reducible refine gate_callee (f := 9) rfl ?_); refine kg (some 7) rfl rfl Try.func9 (by kernel_rfl) rfl #[.agg #[.int .i64 0, .int .i64 100, .int .i64 0, .int .i64 1100, .int .i64 0, .slice none 0 0], .int .i64 1220, .bool true] rfl ?_; (refine (spread_Of.calls k 0 100 0 1100 0 _ _ ([] : List Int) 1220 true t477 t478 t479 t480 t481 none _ ?side1 ?side2 A1.out).mono ?_); (case side1 => exact Kd.C_nil _ _); (case side2 => exact Nat.le_refl _); rintro e w37 ⟨v482, rfl, ho0, hb⟩; refine ⟨_, rfl, ?_⟩; have HO483 := ka (Kd.R_lower ho0 (below_size (kw HB.out))); replace HB := ka (below_step (kw HB.out) hb); (try clear hb); (try clear hb2); (try clear hk); (try clear hi); (try clear ho0); (try simp only [errW_none, errW_some])) | ((with_reducible refine gate_dst (N := 1) rfl ?_); (try (refine gate_guard (by rfl) ?_; dsimp only)); refine kx (N := 1) (cs := #[.int .i64 0, .int .i64 0, .int .i64 0, .int .i64 0, .slice none 0 0]) (t := 27) ?_; intro gb485 hg w38 hbox hb; have n0_ := ka (Kd.R_below (kr HO483.out) hb); have n1_ := ka (below_step (kw HB.out) hb); have n2_ := ka (hbox); have n3_ := ka ((by rw [hg]; exact (below_size (kw HB.out)) : w.heap.size ≤ gb485)); have n4_ := n3_; clear HO483; clear HB; have HO483 := n0_; have HB := n1_; have BK485 := n2_; have GW485 := n3_; have GE485 := n4_; clear n0_ n1_ n2_ n3_ n4_; clear hb hbox hg; have hcz39 := blkAll5 BK485.out; obtain ⟨Ao40, co40, eo40⟩ := Kd.R_slice HO483.out; subst eo40) | ((with_reducible refine gate_callee (f := 9) rfl ?_); refine kg (some 12) rfl rfl Try.func9 (by kernel_rfl) rfl #[.agg #[.int .i64 0, .int .i64 (-1), .int .i64 0, .int .i64 0, .int .i64 0, .slice none 0 0], .int .i64 0, .bool true] rfl ?_; (refine (spread_Of.calls k 0 (-1) 0 0 0 _ _ ([] : List Int) 0 true t486 t487 t488 t489 t490 t493 _ ?side1 ?side2 A2.out).mono ?_); (case side1 => exact Kd.C_nil _ _); (case side2 => exact Nat.le_refl _); rintro e w41 ⟨v491, rfl, ho0, hb⟩; refine ⟨_, rfl, ?_⟩; have HO492 := ka (Kd.R_lower (Kd.R_new' ho0 (Kd.R_lt (kr ((Kd.R_mono (Kd.R_far (p := ⟨gb485, 4, none⟩) (Kd.R_far (p := ⟨gb485, 3, none⟩) (Kd.R_far (p := ⟨gb485, 2, none⟩) (Kd.R_far (p := ⟨gb485, 1, none⟩) (Kd.R_far (p := ⟨gb485, 0, none⟩) (Kd.R_types HO483.out BK485.out (by decide)) (fun _ hk => hk.2) (.int .i64 t477)) (fun _ hk => hk.2) (.int .i64 t478)) (fun _ hk => hk.2) (.int .i64 t479)) (fun _ hk => hk.2) (.int .i64 t480)) (fun _ hk => hk.2) (.slice Ao40 t481.length co40)) (fun _ h_ => h_.1)))))) (below_size (kw HB.out))); replace HO483 := ka (Kd.R_elder' (kr ((Kd.R_mono (Kd.R_far (p := ⟨gb485, 4, none⟩) (Kd.R_far (p := ⟨gb485, 3, none⟩) (Kd.R_far (p := ⟨gb485, 2, none⟩) (Kd.R_far (p := ⟨gb485, 1, none⟩) (Kd.R_far (p := ⟨gb485, 0, none⟩) (Kd.R_types HO483.out BK485.out (by decide)) (fun _ hk => hk.2) (.int .i64 t477)) (fun _ hk => hk.2) (.int .i64 t478)) (fun _ hk => hk.2) (.int .i64 t479)) (fun _ hk => hk.2) (.int .i64 t480)) (fun _ hk => hk.2) (.slice Ao40 t481.length co40)) (fun _ h_ => h_.1)))) (Kd.R_base ho0) hb); replace BK485 := ka (blk_below (g := gb485) (o := .cells #[.int .i64 t477, .int .i64 t478, .int .i64 t479, .int .i64 t480, .slice Ao40 t481.length co40] 27 (0, 0)) (by (with_reducible repeat (first | apply kb1 | apply kb2 | apply kb3 | apply blkPut5_4 | apply blkPut5_3 | apply blkPut5_2 | apply blkPut5_1 | apply blkPut5_0)); exact BK485.out) hb); replace HB := ka (below_step (kw HB.out) hb); (try clear hb); (try clear hb2); (try clear hk); (try clear hi); (try clear ho0); (try simp only [errW_none, errW_some])) | ((with_reducible refine gate_dst (N := 3) rfl ?_); (try (refine gate_guard (by rfl) ?_; dsimp only)); refine kx (N := 3) (cs := #[.int .i64 0, .int .i64 0, .int .i64 0, .int .i64 0, .slice none 0 0]) (t := 27) ?_; intro gb494 hg w42 hbox hb; have n0_ := ka (Kd.R_below (kr HO483.out) hb); have n1_ := ka (Kd.R_below (kr HO492.out) hb); have n2_ := ka (blk_below (g := gb485) (kz BK485.out) hb); have n3_ := ka (below_step (kw HB.out) hb); have n4_ := ka (hbox); have n5_ := ka ((by rw [hg]; exact (below_size (kw HB.out)) : w.heap.size ≤ gb494)); have n6_ := n5_; have n7_ := ka ((by rw [hg]; exact Nat.ne_of_lt (blk_lt (g := gb485) (kz BK485.out)) : gb485 ≠ gb494)); have n8_ := ka n7_.out.symm; clear HO483; clear HO492; clear BK485; clear HB; have HO483 := n0_; have HO492 := n1_; have BK485 := n2_; have HB := n3_; have BK494 := n4_; have GW494 := n5_; have GE494 := n6_; have NB485_494 := n7_; have NB494_485 := n8_; clear n0_ n1_ n2_ n3_ n4_ n5_ n6_ n7_ n8_; clear hb hbox hg; have hnb43 := NB494_485.out; have hnc43 := NB485_494.out; have hcz44 := blkAll5 BK494.out; obtain ⟨Ao45, co45, eo45⟩ := Kd.R_slice HO492.out; subst eo45; have hcz46 := blkAll5 BK485.out))
    go_ret
    exact ⟨by first | rfl | (simp [errW_none, errW_some] <;> rfl) | (simp [*, errW_none, errW_some] <;> rfl), by repeat (first | (with_reducible first | exact HB.out | apply kc1 | apply kc2 | apply kc3 | refine kc4 ?_ GE485.out | refine kc4 ?_ GE494.out) | exact HB.out)⟩
  ·rw [if_neg c3] at H
   have c3b0 : (t477 == 120) = false := beq_eq_false_iff_ne.mpr c3
   have c3b1 : (t477 != 120) = true := bne_iff_ne.mpr c3
   obtain rfl := Option.some.inj H
   go_enter Try.func8, Try.ntmps8
   go_wp2_with (first | ((with_reducible refine gate_callee (f := 9) rfl ?_); refine kg (some 7) rfl rfl Try.func9 (by kernel_rfl) rfl #[.agg #[.int .i64 0, .int .i64 100, .int .i64 0, .int .i64 1100, .int .i64 0, .slice none 0 0], .int .i64 1220, .bool true] rfl ?_; (refine (spread_Of.calls k 0 100 0 1100 0 _ _ ([] : List Int) 1220 true t477 t478 t479 t480 t481 none _ ?side1 ?side2 A1.out).mono ?_); (case side1 => exact Kd.C_nil _ _); (case side2 => exact Nat.le_refl _); rintro e w47 ⟨v482, rfl, ho0, hb⟩; refine ⟨_, rfl, ?_⟩; have HO483 := ka (Kd.R_lower ho0 (below_size (kw HB.out))); replace HB := ka (below_step (kw HB.out) hb); (try clear hb); (try clear hb2); (try clear hk); (try clear hi); (try clear ho0); (try simp only [errW_none, errW_some])) | ((with_reducible refine gate_dst (N := 1) rfl ?_); (try (refine gate_guard (by rfl) ?_; dsimp only)); refine kx (N := 1) (cs := #[.int .i64 0, .int .i64 0, .int .i64 0, .int .i64 0, .slice none 0 0]) (t := 27) ?_; intro gb485 hg w48 hbox hb; have n0_ := ka (Kd.R_below (kr HO483.out) hb); have n1_ := ka (below_step (kw HB.out) hb); have n2_ := ka (hbox); have n3_ := ka ((by rw [hg]; exact (below_size (kw HB.out)) : w.heap.size ≤ gb485)); have n4_ := n3_; clear HO483; clear HB; have HO483 := n0_; have HB := n1_; have BK485 := n2_; have GW485 := n3_; have GE485 := n4_; clear n0_ n1_ n2_ n3_ n4_; clear hb hbox hg; have hcz49 := blkAll5 BK485.out; obtain ⟨Ao50, co50, eo50⟩ := Kd.R_slice HO483.out; subst eo50) | ((with_reducible refine gate_callee (f := 9) rfl ?_); refine kg (some 12) rfl rfl Try.func9 (by kernel_rfl) rfl #[.agg #[.int .i64 0, .int .i64 (-1), .int .i64 0, .int .i64 0, .int .i64 0, .slice none 0 0], .int .i64 0, .bool true] rfl ?_; (refine (spread_Of.calls k 0 (-1) 0 0 0 _ _ ([] : List Int) 0 true t486 t487 t488 t489 t490 t493 _ ?side1 ?side2 A2.out).mono ?_); (case side1 => exact Kd.C_nil _ _); (case side2 => exact Nat.le_refl _); rintro e w51 ⟨v491, rfl, ho0, hb⟩; refine ⟨_, rfl, ?_⟩; have HO492 := ka (Kd.R_lower (Kd.R_new' ho0 (Kd.R_lt (kr ((Kd.R_mono (Kd.R_far (p := ⟨gb485, 4, none⟩) (Kd.R_far (p := ⟨gb485, 3, none⟩) (Kd.R_far (p := ⟨gb485, 2, none⟩) (Kd.R_far (p := ⟨gb485, 1, none⟩) (Kd.R_far (p := ⟨gb485, 0, none⟩) (Kd.R_types HO483.out BK485.out (by decide)) (fun _ hk => hk.2) (.int .i64 t477)) (fun _ hk => hk.2) (.int .i64 t478)) (fun _ hk => hk.2) (.int .i64 t479)) (fun _ hk => hk.2) (.int .i64 t480)) (fun _ hk => hk.2) (.slice Ao50 t481.length co50)) (fun _ h_ => h_.1)))))) (below_size (kw HB.out))); replace HO483 := ka (Kd.R_elder' (kr ((Kd.R_mono (Kd.R_far (p := ⟨gb485, 4, none⟩) (Kd.R_far (p := ⟨gb485, 3, none⟩) (Kd.R_far (p := ⟨gb485, 2, none⟩) (Kd.R_far (p := ⟨gb485, 1, none⟩) (Kd.R_far (p := ⟨gb485, 0, none⟩) (Kd.R_types HO483.out BK485.out (by decide)) (fun _ hk => hk.2) (.int .i64 t477)) (fun _ hk => hk.2) (.int .i64 t478)) (fun _ hk => hk.2) (.int .i64 t479)) (fun _ hk => hk.2) (.int .i64 t480)) (fun _ hk => hk.2) (.slice Ao50 t481.length co50)) (fun _ h_ => h_.1)))) (Kd.R_base ho0) hb); replace BK485 := ka (blk_below (g := gb485) (o := .cells #[.int .i64 t477, .int .i64 t478, .int .i64 t479, .int .i64 t480, .slice Ao50 t481.length co50] 27 (0, 0)) (by (with_reducible repeat (first | apply kb1 | apply kb2 | apply kb3 | apply blkPut5_4 | apply blkPut5_3 | apply blkPut5_2 | apply blkPut5_1 | apply blkPut5_0)); exact BK485.out) hb); replace HB := ka (below_step (kw HB.out) hb); (try clear hb); (try clear hb2); (try clear hk); (try clear hi); (try clear ho0); (try simp only [errW_none, errW_some])) | ((with_reducible refine gate_dst (N := 3) rfl ?_); (try (refine gate_guard (by rfl) ?_; dsimp only)); refine kx (N := 3) (cs := #[.int .i64 0, .int .i64 0, .int .i64 0, .int .i64 0, .slice none 0 0]) (t := 27) ?_; intro gb494 hg w52 hbox hb; have n0_ := ka (Kd.R_below (kr HO483.out) hb); have n1_ := ka (Kd.R_below (kr HO492.out) hb); have n2_ := ka (blk_below (g := gb485) (kz BK485.out) hb); have n3_ := ka (below_step (kw HB.out) hb); have n4_ := ka (hbox); have n5_ := ka ((by rw [hg]; exact (below_size (kw HB.out)) : w.heap.size ≤ gb494)); have n6_ := n5_; have n7_ := ka ((by rw [hg]; exact Nat.ne_of_lt (blk_lt (g := gb485) (kz BK485.out)) : gb485 ≠ gb494)); have n8_ := ka n7_.out.symm; clear HO483; clear HO492; clear BK485; clear HB; have HO483 := n0_; have HO492 := n1_; have BK485 := n2_; have HB := n3_; have BK494 := n4_; have GW494 := n5_; have GE494 := n6_; have NB485_494 := n7_; have NB494_485 := n8_; clear n0_ n1_ n2_ n3_ n4_ n5_ n6_ n7_ n8_; clear hb hbox hg; have hnb53 := NB494_485.out; have hnc53 := NB485_494.out; have hcz54 := blkAll5 BK494.out; obtain ⟨Ao55, co55, eo55⟩ := Kd.R_slice HO492.out; subst eo55; have hcz56 := blkAll5 BK485.out))
   go_ret
   exact ⟨by first | rfl | (simp [errW_none, errW_some] <;> rfl) | (simp [*, errW_none, errW_some] <;> rfl), by repeat (first | (with_reducible first | exact HB.out | apply kc1 | apply kc2 | apply kc3 | refine kc4 ?_ GE485.out | refine kc4 ?_ GE494.out) | exact HB.out)⟩
 ·have H1 : (some false) = some r := by rw [if_neg (show ¬ (some q495).isNone = true by simp)] at H; exact H
  clear H
  have H := H1
  clear H1
  try simp only [errW_none, errW_some]
  obtain rfl := Option.some.inj H
  go_enter Try.func8, Try.ntmps8
  go_wp2_with (first | ((with_reducible refine gate_callee (f := 9) rfl ?_); refine kg (some 7) rfl rfl Try.func9 (by kernel_rfl) rfl #[.agg #[.int .i64 0, .int .i64 100, .int .i64 0, .int .i64 1100, .int .i64 0, .slice none 0 0], .int .i64 1220, .bool true] rfl ?_; (refine (spread_Of.calls k 0 100 0 1100 0 _ _ ([] : List Int) 1220 true t477 t478 t479 t480 t481 (some q495) _ ?side1 ?side2 A1.out).mono ?_); (case side1 => exact Kd.C_nil _ _); (case side2 => exact Nat.le_refl _); rintro e w57 ⟨v482, rfl, ho0, hb⟩; refine ⟨_, rfl, ?_⟩; have HO483 := ka (Kd.R_lower ho0 (below_size (kw HB.out))); replace HB := ka (below_step (kw HB.out) hb); (try clear hb); (try clear hb2); (try clear hk); (try clear hi); (try clear ho0); (try simp only [errW_none, errW_some])) | ((with_reducible refine gate_dst (N := 1) rfl ?_); (try (refine gate_guard (by rfl) ?_; dsimp only)); refine kx (N := 1) (cs := #[.int .i64 0, .int .i64 0, .int .i64 0, .int .i64 0, .slice none 0 0]) (t := 27) ?_; intro gb485 hg w58 hbox hb; have n0_ := ka (Kd.R_below (kr HO483.out) hb); have n1_ := ka (below_step (kw HB.out) hb); have n2_ := ka (hbox); have n3_ := ka ((by rw [hg]; exact (below_size (kw HB.out)) : w.heap.size ≤ gb485)); have n4_ := n3_; clear HO483; clear HB; have HO483 := n0_; have HB := n1_; have BK485 := n2_; have GW485 := n3_; have GE485 := n4_; clear n0_ n1_ n2_ n3_ n4_; clear hb hbox hg; have hcz59 := blkAll5 BK485.out; obtain ⟨Ao60, co60, eo60⟩ := Kd.R_slice HO483.out; subst eo60) | ((with_reducible refine gate_callee (f := 9) rfl ?_); refine kg (some 12) rfl rfl Try.func9 (by kernel_rfl) rfl #[.agg #[.int .i64 0, .int .i64 (-1), .int .i64 0, .int .i64 0, .int .i64 0, .slice none 0 0], .int .i64 0, .bool true] rfl ?_; (refine (spread_Of.calls k 0 (-1) 0 0 0 _ _ ([] : List Int) 0 true t486 t487 t488 t489 t490 t493 _ ?side1 ?side2 A2.out).mono ?_); (case side1 => exact Kd.C_nil _ _); (case side2 => exact Nat.le_refl _); rintro e w61 ⟨v491, rfl, ho0, hb⟩; refine ⟨_, rfl, ?_⟩; have HO492 := ka (Kd.R_lower (Kd.R_new' ho0 (Kd.R_lt (kr ((Kd.R_mono (Kd.R_far (p := ⟨gb485, 4, none⟩) (Kd.R_far (p := ⟨gb485, 3, none⟩) (Kd.R_far (p := ⟨gb485, 2, none⟩) (Kd.R_far (p := ⟨gb485, 1, none⟩) (Kd.R_far (p := ⟨gb485, 0, none⟩) (Kd.R_types HO483.out BK485.out (by decide)) (fun _ hk => hk.2) (.int .i64 t477)) (fun _ hk => hk.2) (.int .i64 t478)) (fun _ hk => hk.2) (.int .i64 t479)) (fun _ hk => hk.2) (.int .i64 t480)) (fun _ hk => hk.2) (.slice Ao60 t481.length co60)) (fun _ h_ => h_.1)))))) (below_size (kw HB.out))); replace HO483 := ka (Kd.R_elder' (kr ((Kd.R_mono (Kd.R_far (p := ⟨gb485, 4, none⟩) (Kd.R_far (p := ⟨gb485, 3, none⟩) (Kd.R_far (p := ⟨gb485, 2, none⟩) (Kd.R_far (p := ⟨gb485, 1, none⟩) (Kd.R_far (p := ⟨gb485, 0, none⟩) (Kd.R_types HO483.out BK485.out (by decide)) (fun _ hk => hk.2) (.int .i64 t477)) (fun _ hk => hk.2) (.int .i64 t478)) (fun _ hk => hk.2) (.int .i64 t479)) (fun _ hk => hk.2) (.int .i64 t480)) (fun _ hk => hk.2) (.slice Ao60 t481.length co60)) (fun _ h_ => h_.1)))) (Kd.R_base ho0) hb); replace BK485 := ka (blk_below (g := gb485) (o := .cells #[.int .i64 t477, .int .i64 t478, .int .i64 t479, .int .i64 t480, .slice Ao60 t481.length co60] 27 (0, 0)) (by (with_reducible repeat (first | apply kb1 | apply kb2 | apply kb3 | apply blkPut5_4 | apply blkPut5_3 | apply blkPut5_2 | apply blkPut5_1 | apply blkPut5_0)); exact BK485.out) hb); replace HB := ka (below_step (kw HB.out) hb); (try clear hb); (try clear hb2); (try clear hk); (try clear hi); (try clear ho0); (try simp only [errW_none, errW_some])) | ((with_reducible refine gate_dst (N := 3) rfl ?_); (try (refine gate_guard (by rfl) ?_; dsimp only)); refine kx (N := 3) (cs := #[.int .i64 0, .int .i64 0, .int .i64 0, .int .i64 0, .slice none 0 0]) (t := 27) ?_; intro gb494 hg w62 hbox hb; have n0_ := ka (Kd.R_below (kr HO483.out) hb); have n1_ := ka (Kd.R_below (kr HO492.out) hb); have n2_ := ka (blk_below (g := gb485) (kz BK485.out) hb); have n3_ := ka (below_step (kw HB.out) hb); have n4_ := ka (hbox); have n5_ := ka ((by rw [hg]; exact (below_size (kw HB.out)) : w.heap.size ≤ gb494)); have n6_ := n5_; have n7_ := ka ((by rw [hg]; exact Nat.ne_of_lt (blk_lt (g := gb485) (kz BK485.out)) : gb485 ≠ gb494)); have n8_ := ka n7_.out.symm; clear HO483; clear HO492; clear BK485; clear HB; have HO483 := n0_; have HO492 := n1_; have BK485 := n2_; have HB := n3_; have BK494 := n4_; have GW494 := n5_; have GE494 := n6_; have NB485_494 := n7_; have NB494_485 := n8_; clear n0_ n1_ n2_ n3_ n4_ n5_ n6_ n7_ n8_; clear hb hbox hg; have hnb63 := NB494_485.out; have hnc63 := NB485_494.out; have hcz64 := blkAll5 BK494.out; obtain ⟨Ao65, co65, eo65⟩ := Kd.R_slice HO492.out; subst eo65))
  go_ret
  exact ⟨by first | rfl | (simp [errW_none, errW_some] <;> rfl) | (simp [*, errW_none, errW_some] <;> rfl), by repeat (first | (with_reducible first | exact HB.out | apply kc1 | apply kc2 | apply kc3 | refine kc4 ?_ GE485.out | refine kc4 ?_ GE494.out) | exact HB.out)⟩

/-! ### trivetlaw16_up: function 8, its laws -/
theorem trivetlaw16_up.num (k : Nat) (hk : 2010 ≤ k) : trivetlaw16_up.f k = some true := by
 unfold trivetlaw16_up.f
 rw [spread_Of.num k _ _ _ _ _ _ _ _ hk, Option.bind_some, spread_Of.num k _ _ _ _ _ _ _ _ hk, Option.bind_some, if_pos (show Spr.may 100 1100 1220 by decide), if_neg (show ¬ Spr.may (-1) 0 0 by decide)]
 decide +kernel

/-! ### trivetref16_money: function 16 -/
def trivetref16_money.f (a0 : Int) : Option (Bool) := if a0 ≥ (-10000000000000) then (some (decide (a0 ≤ 10000000000000))) else (some false)
set_option maxHeartbeats 8000000 in
set_option maxRecDepth 100000 in
theorem trivetref16_money.calls (a0 : Int) (r : Bool) (w : World) (h : trivetref16_money.f a0 = some r) :
  Calls Try.prog 16 #[.int .i64 a0] w fun e w' => e = .returned (.bool r) ∧ Drawn0 w w' := by
 have H : (if a0 ≥ (-10000000000000) then (some (decide (a0 ≤ 10000000000000))) else (some false)) = some r := h
 clear h
 by_cases c2 : a0 ≥ (-10000000000000)
 ·rw [if_pos c2] at H
  have c2b0 : decide ((-10000000000000) ≤ a0) = true := decide_eq_true c2
  clear c2
  obtain rfl := Option.some.inj H
  go_enter Try.func16, Try.ntmps16
  go_wp2
  go_ret
  exact ⟨by first | rfl | (simp; done) | (simp [*]; done), by repeat (first | exact Drawn0.refl _ | apply Drawn0.step)⟩
 ·rw [if_neg c2] at H
  have c2b0 : decide ((-10000000000000) ≤ a0) = false := decide_eq_false c2
  clear c2
  obtain rfl := Option.some.inj H
  go_enter Try.func16, Try.ntmps16
  go_wp2
  go_ret
  exact ⟨by first | rfl | (simp; done) | (simp [*]; done), by repeat (first | exact Drawn0.refl _ | apply Drawn0.step)⟩

/-! ### trivetref16_spread: function 17 -/
def trivetref16_spread.l0 : Nat → List Int → Int → Int → Int → Int → Option (List Int)
 | 0, _, _, _, _, _ => none
 | k + 1, x0, x1, x2, x3, x8 => if x8 < x2 then (if x2 = 0 then (none) else (if x8 < (Int.tmod x1 x2) then (if 0 ≤ x8 then (if x8 < (x0.length : Int) then (trivetref16_spread.l0 k (x0.set (x8 : Int).toNat (wrap64 ((rd x0 x8) + (wrap64 (x3 * (wrap64 ((wrap64 (Int.tdiv x1 x2)) + 1))))))) x1 x2 x3 (wrap64 (x8 + 1))) else (none)) else (none)) else (if 0 ≤ x8 then (if x8 < (x0.length : Int) then (trivetref16_spread.l0 k (x0.set (x8 : Int).toNat (wrap64 ((rd x0 x8) + (wrap64 (x3 * (wrap64 (Int.tdiv x1 x2))))))) x1 x2 x3 (wrap64 (x8 + 1))) else (none)) else (none)))) else (some x0)
def trivetref16_spread.f (k : Nat) (l0 : List Int) (a1 : Int) (a2 : Int) (a3 : Int) : Option (List Int) := trivetref16_spread.l0 k l0 a1 a2 a3 0
theorem trivetref16_spread.mono_l : ∀ k, (∀ y0 y1 y2 y3 y4, LeO (trivetref16_spread.l0 k y0 y1 y2 y3 y4) (trivetref16_spread.l0 (k + 1) y0 y1 y2 y3 y4))
 | 0 => fun _ _ _ _ _ r h => by simp [trivetref16_spread.l0] at h
 | k + 1 => by
  have ih0 := trivetref16_spread.mono_l k
  ·intro y0 y1 y2 y3 y4
   unfold trivetref16_spread.l0
   repeat' first
   | (with_reducible exact ih0 _ _ _ _ _)
   | (with_reducible exact LeO.refl _)
   | (with_reducible exact LeO.none _)
   | (with_reducible refine LeO.ite ?_ ?_)
   | (with_reducible refine LeO.bind ?_ (fun _ => ?_))
   | exact ih0 _ _ _ _ _
   | exact LeO.none _
   | refine LeO.ite ?_ ?_
   | refine LeO.bind ?_ (fun _ => ?_)
theorem trivetref16_spread.mono : ∀ a0 a1 a2 a3 k, LeO (trivetref16_spread.f k a0 a1 a2 a3) (trivetref16_spread.f (k + 1) a0 a1 a2 a3) := by
 intro a0 a1 a2 a3 k
 have ih0 := trivetref16_spread.mono_l k
 unfold trivetref16_spread.f
 repeat' first
   | (with_reducible exact ih0 _ _ _ _ _)
   | (with_reducible exact LeO.refl _)
   | (with_reducible exact LeO.none _)
   | (with_reducible refine LeO.ite ?_ ?_)
   | (with_reducible refine LeO.bind ?_ (fun _ => ?_))
   | exact ih0 _ _ _ _ _
   | exact LeO.none _
   | refine LeO.ite ?_ ?_
   | refine LeO.bind ?_ (fun _ => ?_)
set_option maxHeartbeats 8000000 in
set_option maxRecDepth 100000 in
theorem trivetref16_spread.calls (k : Nat) (P0_ : Nat → Prop) (u9000_ : Value) (l0 : List Int) (a1 : Int) (a2 : Int) (a3 : Int) (r : List Int) (w0 w : World) (hB : Below w0.heap.size w0 w) (ho0 : Kd.R (Kd.int .i64) 2 w w0.heap.size P0_ u9000_ l0) (h : trivetref16_spread.f k l0 a1 a2 a3 = some r) :
  Calls Try.prog 17 #[u9000_, .int .i64 a1, .int .i64 a2, .int .i64 a3] w fun e w' => e = .returned (.tuple #[]) ∧ Kd.R (Kd.int .i64) 2 w' w0.heap.size (fun k_ => (P0_ k_ ∨ w.heap.size ≤ k_)) u9000_ r ∧ Below w0.heap.size w0 w' ∧ Kept w w' (fun k_ => P0_ k_) := by
 have HO0 := ka (show Kd.R (Kd.int .i64) 2 w w0.heap.size (fun k_ => (P0_ k_ ∨ w.heap.size ≤ k_)) u9000_ l0 from Kd.R_mono ho0 (fun k_ hk => (.inl hk)))
 have HK := ka (Kept.refl w (fun k_ => P0_ k_))
 have HW0 := ka hB.size
 have HB := ka hB
 clear hB
 have H : (trivetref16_spread.l0 k l0 a1 a2 a3 0) = some r := h
 clear h
 have H' := ka H
 clear H
 go_enter Try.func17, Try.ntmps17
 go_wp2
 (try simp only [Act.put, List.setIfInBounds_toArray, List.set_cons_zero, List.set_cons_succ])
 go_loopg [8] k (fun kq v8 w' => ∃ (x0_1 : List Int) (x8_1 : Int), v8 = .int .i64 x8_1 ∧ Aside0 (trivetref16_spread.l0 kq x0_1 a1 a2 a3 x8_1 = some r) ∧ Aside0 (kq ≤ k) ∧ Aside0 (Kd.R (Kd.int .i64) 2 w' w0.heap.size (fun k_ => (P0_ k_ ∨ w.heap.size ≤ k_)) u9000_ x0_1) ∧ Aside0 (Kept w w' (fun k_ => P0_ k_)) ∧ Aside0 (Below w0.heap.size w0 w'))
 case atStart => exact ⟨(l0), (0), (by first | rfl | (simp; done) | (simp [*]; done)), H', ⟨Nat.le_refl _⟩, ⟨kr HO0.out⟩, ⟨by repeat (first | (with_reducible first | exact HK.out | apply Kept.alloc | apply Kept.drewN | apply Kept.drew) | exact HK.out)⟩, ⟨by repeat (first | (with_reducible first | exact HB.out | apply kc1 | apply kc2 | apply kc3) | exact HB.out)⟩⟩
 case round =>
  clear H'
  try clear c1
  try clear p2
  obtain ⟨x0_1, x8_1, rfl, HA, HK1, HO_0, HK, HB⟩ := hrel
  cases gk with
  | zero => exact absurd HA.out (by simp [trivetref16_spread.l0])
  | succ k1 =>
   have H := HA.out
   clear HA
   simp only [trivetref16_spread.l0] at H
   by_cases c5 : x8_1 < a2
   ·rw [if_pos c5] at H
    have c5b0 : decide (x8_1 < a2) = true := decide_eq_true c5
    clear c5
    by_cases c6 : a2 = 0
    ·rw [if_pos c6] at H
     exact absurd H (by simp)
    ·rw [if_neg c6] at H
     have c6b0 : (a2 == 0) = false := beq_eq_false_iff_ne.mpr c6
     have c6b1 : (a2 != 0) = true := bne_iff_ne.mpr c6
     by_cases c7 : x8_1 < (Int.tmod a1 a2)
     ·rw [if_pos c7] at H
      have c7b0 : decide (x8_1 < (Int.tmod a1 a2)) = true := decide_eq_true c7
      clear c7
      by_cases c8 : 0 ≤ x8_1
      ·rw [if_pos c8] at H
       have c8b0 : decide (0 ≤ x8_1) = true := decide_eq_true c8
       clear c8
       by_cases c9 : x8_1 < (x0_1.length : Int)
       ·rw [if_pos c9] at H
        have c9b0 : decide (x8_1 < (x0_1.length : Int)) = true := decide_eq_true c9
        clear c9
        obtain ⟨y499, hy499⟩ : ∃ y_ : List Int, y_ = (x0_1.set (x8_1 : Int).toNat (wrap64 ((rd x0_1 x8_1) + (wrap64 (a3 * (wrap64 ((wrap64 (Int.tdiv a1 a2)) + 1))))))) := ⟨_, rfl⟩
        replace H : (trivetref16_spread.l0 k1 y499 a1 a2 a3 (wrap64 (x8_1 + 1))) = some r := by first | (rw [hy499]; with_reducible exact H) | (have H2_ := (Option.bind_some _ _).symm.trans H; rw [hy499]; with_reducible exact H2_) | (have H2_ := (Option.bind_some _ _).symm.trans H; with_reducible exact H2_) | with_reducible exact H | (rw [hy499]; exact H) | exact H
        have Ny499 := ka hy499
        clear hy499
        have H' := ka H
        clear H
        obtain ⟨Ao11, co11, eo11⟩ := Kd.R_slice HO_0.out
        subst eo11
        have p498 : 0 ≤ (x8_1 : Int) := of_decide_eq_true (by first | (with_reducible assumption) | assumption)
        have q498 : x8_1 < (x0_1.length : Int) := of_decide_eq_true (by first | (with_reducible assumption) | assumption)
        obtain ⟨ad498, e498, hx498_0⟩ := Kd.at_int (Kd.R_reads' HO_0.out).2.2 x8_1 p498 q498
        cases e498
        replace p498 := eq_true p498
        replace q498 := eq_true q498
        have p10 : 0 ≤ (x8_1 : Int) := of_decide_eq_true (by first | (with_reducible assumption) | assumption)
        have q10 : (x8_1 : Int) < ((x0_1.length : Int) : Int) := of_decide_eq_true (by first | (with_reducible assumption) | assumption)
        obtain ⟨go10, co10, eo10, gb10, gl10, cl10, HG10⟩ := Kd.R_form HO_0.out (by omega)
        (first | cases eo10 | (injection eo10 with ea_ en_ ec_; (first | subst ea_ | (injection ea_ with ea_; subst ea_)); subst ec_; clear en_))
        have GB10 := ka gb10
        have GG10 := ka HG10
        clear gb10 gl10 HG10
        have HMgo10 := ka (show (P0_ go10 ∨ w.heap.size ≤ go10) from (HO_0.out.1 _ rfl))
        (first | simp only [add_plain] at hx498_0 | skip)
        obtain ⟨hx10_0, hf10_0⟩ := Kd.R_celln 0 HO_0.out (x8_1 : Int) p10 q10
        replace p10 := eq_true p10
        replace q10 := eq_true q10
        have HP12 := Kd.R_putg HO_0.out (x8_1 : Int) (wrap64 ((rd x0_1 x8_1) + (wrap64 (a3 * (wrap64 ((wrap64 (Int.tdiv a1 a2)) + 1))))))
        go_wp2_with (first | ((with_reducible refine gate_store (t := 2) (p := 35) rfl ?_); refine store_event (t := 2) (p := 35) (v := ?vo_w13) (w1 := (wr.setCell ⟨go10, (x8_1 : Int).toNat, none⟩ (.int .i64 (wrap64 ((rd x0_1 x8_1) + (wrap64 (a3 * (wrap64 ((wrap64 (Int.tdiv a1 a2)) + 1))))))))) ?hg ?ho ?hn ?hr ?_; (case ho => rfl); (case hg => rfl); (case hn => rfl); (case hr => first | (go_simp; done) | (go_simp; rfl)); intro w13 hw; have hg : wr.grownBy w13 (some go10) := (by rw [hw]; exact HP12.2); have hp_ : Kd.R (Kd.int .i64) 2 w13 w0.heap.size (fun k_ => (P0_ k_ ∨ w.heap.size ≤ k_)) (.slice (some ⟨go10, 0, none⟩) x0_1.length co11) y499 := (by rw [hw, Ny499.out]; exact HP12.1); clear HP12; replace HB := ka ((by rw [hw]; exact below_set (HB.out) GB10.out : Below w0.heap.size w0 w13)); replace HK := ka (Kept.of_grown (S := (fun k_ => P0_ k_)) hg (by repeat (first | (with_reducible first | exact HK.out | apply Kept.alloc | apply Kept.drewN | apply Kept.drew) | exact HK.out)) (fun k_ e_ => (HO_0.out.1 k_ e_))); replace HO_0 := ka (hp_); clear hg hw hp_))
        go_roundg k1
        case measure => have := HK1.out; omega
        case rel => exact ⟨(y499), (wrap64 (x8_1 + 1)), (by first | rfl | (simp; done) | (simp [*]; done)), H', ⟨by have := HK1.out; omega⟩, ⟨kr HO_0.out⟩, ⟨by repeat (first | (with_reducible first | exact HK.out | apply Kept.alloc | apply Kept.drewN | apply Kept.drew) | exact HK.out)⟩, ⟨by repeat (first | (with_reducible first | exact HB.out | apply kc1 | apply kc2 | apply kc3) | exact HB.out)⟩⟩
       ·rw [if_neg c9] at H
        exact absurd H (by simp)
      ·rw [if_neg c8] at H
       exact absurd H (by simp)
     ·rw [if_neg c7] at H
      have c7b0 : decide (x8_1 < (Int.tmod a1 a2)) = false := decide_eq_false c7
      clear c7
      by_cases c14 : 0 ≤ x8_1
      ·rw [if_pos c14] at H
       have c14b0 : decide (0 ≤ x8_1) = true := decide_eq_true c14
       clear c14
       by_cases c15 : x8_1 < (x0_1.length : Int)
       ·rw [if_pos c15] at H
        have c15b0 : decide (x8_1 < (x0_1.length : Int)) = true := decide_eq_true c15
        clear c15
        obtain ⟨y501, hy501⟩ : ∃ y_ : List Int, y_ = (x0_1.set (x8_1 : Int).toNat (wrap64 ((rd x0_1 x8_1) + (wrap64 (a3 * (wrap64 (Int.tdiv a1 a2))))))) := ⟨_, rfl⟩
        replace H : (trivetref16_spread.l0 k1 y501 a1 a2 a3 (wrap64 (x8_1 + 1))) = some r := by first | (rw [hy501]; with_reducible exact H) | (have H2_ := (Option.bind_some _ _).symm.trans H; rw [hy501]; with_reducible exact H2_) | (have H2_ := (Option.bind_some _ _).symm.trans H; with_reducible exact H2_) | with_reducible exact H | (rw [hy501]; exact H) | exact H
        have Ny501 := ka hy501
        clear hy501
        have H' := ka H
        clear H
        obtain ⟨Ao17, co17, eo17⟩ := Kd.R_slice HO_0.out
        subst eo17
        have p500 : 0 ≤ (x8_1 : Int) := of_decide_eq_true (by first | (with_reducible assumption) | assumption)
        have q500 : x8_1 < (x0_1.length : Int) := of_decide_eq_true (by first | (with_reducible assumption) | assumption)
        obtain ⟨ad500, e500, hx500_0⟩ := Kd.at_int (Kd.R_reads' HO_0.out).2.2 x8_1 p500 q500
        cases e500
        replace p500 := eq_true p500
        replace q500 := eq_true q500
        have p16 : 0 ≤ (x8_1 : Int) := of_decide_eq_true (by first | (with_reducible assumption) | assumption)
        have q16 : (x8_1 : Int) < ((x0_1.length : Int) : Int) := of_decide_eq_true (by first | (with_reducible assumption) | assumption)
        obtain ⟨go16, co16, eo16, gb16, gl16, cl16, HG16⟩ := Kd.R_form HO_0.out (by omega)
        (first | cases eo16 | (injection eo16 with ea_ en_ ec_; (first | subst ea_ | (injection ea_ with ea_; subst ea_)); subst ec_; clear en_))
        have GB16 := ka gb16
        have GG16 := ka HG16
        clear gb16 gl16 HG16
        have HMgo16 := ka (show (P0_ go16 ∨ w.heap.size ≤ go16) from (HO_0.out.1 _ rfl))
        (first | simp only [add_plain] at hx500_0 | skip)
        obtain ⟨hx16_0, hf16_0⟩ := Kd.R_celln 0 HO_0.out (x8_1 : Int) p16 q16
        replace p16 := eq_true p16
        replace q16 := eq_true q16
        have HP18 := Kd.R_putg HO_0.out (x8_1 : Int) (wrap64 ((rd x0_1 x8_1) + (wrap64 (a3 * (wrap64 (Int.tdiv a1 a2))))))
        go_wp2_with (first | ((with_reducible refine gate_store (t := 2) (p := 35) rfl ?_); refine store_event (t := 2) (p := 35) (v := ?vo_w19) (w1 := (wr.setCell ⟨go16, (x8_1 : Int).toNat, none⟩ (.int .i64 (wrap64 ((rd x0_1 x8_1) + (wrap64 (a3 * (wrap64 (Int.tdiv a1 a2))))))))) ?hg ?ho ?hn ?hr ?_; (case ho => rfl); (case hg => rfl); (case hn => rfl); (case hr => first | (go_simp; done) | (go_simp; rfl)); intro w19 hw; have hg : wr.grownBy w19 (some go16) := (by rw [hw]; exact HP18.2); have hp_ : Kd.R (Kd.int .i64) 2 w19 w0.heap.size (fun k_ => (P0_ k_ ∨ w.heap.size ≤ k_)) (.slice (some ⟨go16, 0, none⟩) x0_1.length co17) y501 := (by rw [hw, Ny501.out]; exact HP18.1); clear HP18; replace HB := ka ((by rw [hw]; exact below_set (HB.out) GB16.out : Below w0.heap.size w0 w19)); replace HK := ka (Kept.of_grown (S := (fun k_ => P0_ k_)) hg (by repeat (first | (with_reducible first | exact HK.out | apply Kept.alloc | apply Kept.drewN | apply Kept.drew) | exact HK.out)) (fun k_ e_ => (HO_0.out.1 k_ e_))); replace HO_0 := ka (hp_); clear hg hw hp_))
        go_roundg k1
        case measure => have := HK1.out; omega
        case rel => exact ⟨(y501), (wrap64 (x8_1 + 1)), (by first | rfl | (simp; done) | (simp [*]; done)), H', ⟨by have := HK1.out; omega⟩, ⟨kr HO_0.out⟩, ⟨by repeat (first | (with_reducible first | exact HK.out | apply Kept.alloc | apply Kept.drewN | apply Kept.drew) | exact HK.out)⟩, ⟨by repeat (first | (with_reducible first | exact HB.out | apply kc1 | apply kc2 | apply kc3) | exact HB.out)⟩⟩
       ·rw [if_neg c15] at H
        exact absurd H (by simp)
      ·rw [if_neg c14] at H
       exact absurd H (by simp)
   ·rw [if_neg c5] at H
    have c5b0 : decide (x8_1 < a2) = false := decide_eq_false c5
    clear c5
    obtain rfl := Option.some.inj H
    go_wp2
    first | go_end0 | ((try simp only [Exit.inBlock, Exit.then]); refine bodyPost_ret (results_none rfl _ _ _) rfl ?_)
    exact ⟨by first | rfl | (simp [errW_none, errW_some] <;> rfl) | (simp [*, errW_none, errW_some] <;> rfl), by (with_reducible repeat (first | apply Kd.R_alloc | apply Kd.R_drewN | apply Kd.R_drew)); exact HO_0.out, by repeat (first | (with_reducible first | exact HB.out | apply kc1 | apply kc2 | apply kc3) | exact HB.out), by repeat (first | (with_reducible first | exact HK.out | apply Kept.alloc | apply Kept.drewN | apply Kept.drew) | exact HK.out)⟩

/-! ### trivetref16_spread: function 17, its laws -/
theorem trivetref16_spread.loop (p : Nat) : ∀ (k i n : Nat) (g : Nat → Int) (a s : Int), n = i + p → 1 ≤ n ∧ n ≤ 12 → p < k → (∀ j, i ≤ j → -1000000000000000 ≤ g j ∧ g j ≤ 1000000000000000) → 0 ≤ a ∧ a ≤ 10000000000000 → s = 1 ∨ s = -1 →
  trivetref16_spread.l0 k (Spr.mk g) a (n : Int) s (i : Int) = some (Spr.mk fun j => if i ≤ j then g j + s * Spr.ev a n j else g j) := by
 induction p with
 | zero =>
  intro k i n g a s hn hn2 hk hg ha hs
  obtain ⟨j, rfl⟩ : ∃ j, k = j + 1 := ⟨k - 1, by omega⟩
  simp only [trivetref16_spread.l0]
  rw [if_neg (by omega)]
  congr 1
  refine Spr.ext (fun j hj => ?_)
  by_cases c : i ≤ j
  ·rw [if_pos c, show Spr.ev a n j = 0 by unfold Spr.ev; rw [if_neg (by omega)]]; omega
  ·rw [if_neg c]
 | succ p ih =>
  intro k i n g a s hn hn2 hk hg ha hs
  obtain ⟨j, rfl⟩ : ∃ j, k = j + 1 := ⟨k - 1, by omega⟩
  have gi := hg i (Nat.le_refl _)
  have hi := Spr.ev_in ha (show (1 : Int) ≤ n by omega) i
  have q0 : 0 ≤ a / (n : Int) := Int.ediv_nonneg ha.1 (by omega)
  have q1 : a / (n : Int) ≤ a := Int.ediv_le_self _ ha.1
  have hsv : -100000000000000 ≤ s * Spr.ev a n i ∧ s * Spr.ev a n i ≤ 100000000000000 := by rcases hs with rfl | rfl <;> omega
  have fin : trivetref16_spread.l0 j (Spr.mk fun j => if j = i then g i + s * Spr.ev a n i else g j) a (n : Int) s ((i : Int) + 1) = some (Spr.mk fun j => if i ≤ j then g j + s * Spr.ev a n j else g j) := by
   rw [show (i : Int) + 1 = ((i + 1 : Nat) : Int) by omega, ih j (i + 1) n _ a s (by omega) hn2 (by omega) (by
    intro j' hj'
    rw [if_neg (by omega)]
    exact hg j' (by omega)) ha hs]
   congr 1
   refine Spr.ext (fun j' hj' => ?_)
   by_cases c : j' = i
   ·subst c
    rw [if_neg (by omega), if_pos rfl, if_pos (by omega)]
   ·rw [if_neg c]
    by_cases d : i + 1 ≤ j'
    ·rw [if_pos d, if_pos (by omega)]
    ·rw [if_neg d, if_neg (by omega)]
  simp only [trivetref16_spread.l0]
  rw [if_pos (by omega), if_neg (by omega), M.tmodu ha.1, M.tdivu ha.1, M.w64_id (n := a / (n : Int)) (by omega) (by omega), M.w64_id (n := a / (n : Int) + 1) (by omega) (by omega), M.w64_id (n := (i : Int) + 1) (by omega) (by omega), Spr.at_ g i (by omega)]
  by_cases c : (i : Int) < a % (n : Int)
  ·have e : a / (n : Int) + 1 = Spr.ev a n i := by unfold Spr.ev; rw [if_pos (by omega), if_pos c]
   rw [if_pos c, if_pos (by omega), if_pos (by rw [Spr.len]; omega), e, M.w64_id (n := s * Spr.ev a n i) (by omega) (by omega), M.w64_id (n := g i + s * Spr.ev a n i) (by omega) (by omega), Spr.set_ g i _ (by omega)]
   exact fin
  ·have e : a / (n : Int) = Spr.ev a n i := by unfold Spr.ev; rw [if_pos (by omega), if_neg c]; omega
   rw [if_neg c, if_pos (by omega), if_pos (by rw [Spr.len]; omega), e, M.w64_id (n := s * Spr.ev a n i) (by omega) (by omega), M.w64_id (n := g i + s * Spr.ev a n i) (by omega) (by omega), Spr.set_ g i _ (by omega)]
   exact fin
theorem trivetref16_spread.num (k : Nat) (a s : Int) (n : Nat) (g : Nat → Int) (ha : 0 ≤ a ∧ a ≤ 10000000000000) (hn : 1 ≤ n ∧ n ≤ 12) (hs : s = 1 ∨ s = -1) (hg : ∀ j, -1000000000000000 ≤ g j ∧ g j ≤ 1000000000000000) (hk : 20 ≤ k) :
  trivetref16_spread.f k (Spr.mk g) a (n : Int) s = some (Spr.mk fun j => g j + s * Spr.ev a n j) := by
 unfold trivetref16_spread.f
 have := trivetref16_spread.loop n k 0 n g a s (by omega) hn (by omega) (fun j _ => hg j) ha hs
 rw [show ((0 : Nat) : Int) = 0 from rfl] at this
 rw [this]
 exact congrArg some (Spr.ext (fun j _ => if_pos (by omega)))

end Go.Proofs.Ytjeghhheenenbaa.P
