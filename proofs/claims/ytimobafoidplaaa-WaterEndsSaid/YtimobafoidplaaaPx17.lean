-- Written by a program of this session out of the translation of the seat: Lean functions and the proofs that the Go functions come to them.
import Derived.Test.YtimobafoidplaaaPx0
import Derived.Test.YtimobafoidplaaaPx5
import Derived.Test.YtimobafoidplaaaPx7
import Derived.Test.YtimobafoidplaaaPx8
import Derived.Test.YtimobafoidplaaaPx14
import Derived.Test.YtimobafoidplaaaPx15
import Derived.Test.YtimobafoidplaaaPx16
namespace Go.Proofs.Ytimobafoidplaaa.P
open Go.RowKit Go.Proofs.YtimobafoidplaaaW.PrintWords Go.Proofs.YtimobafoidplaaaW.PrintLast Go.Proofs.YtimobafoidplaaaW.PrintMore
attribute [local go_sem] max2_int min2_int max_two min_two max_three min_three max_four min_four   -- for this text's walks alone
set_option linter.unusedVariables false
set_option linter.unusedSimpArgs false

/-! ### trivetref11_May_s: function 29, told plainly -/
theorem trivetref11_May.tells (b r m f e i w fe g : Int) (h : M.In f ∧ M.In fe ∧ M.In g) (k : Nat) (hk : 4 ≤ k) : trivetref11_May.f k b r m f e i w fe g = some (decide (M.termsOk b r m f e i w fe g)) := by
 obtain ⟨k, rfl⟩ : ∃ m, k = m + 4 := ⟨k - 4, by omega⟩
 have out : ¬ M.termsOk b r m f e i w fe g → ∀ x y z, trivetref11_May.j0 (k + 4) true b r m f e i w fe g x y z = some (decide (M.termsOk b r m f e i w fe g)) := by
  intro hn x y z
  rw [decide_eq_false hn]
  simp [trivetref11_May.j0]
 unfold trivetref11_May.f
 by_cases h1 : -25567 ≤ f ∧ f ≤ 84005
 ·rw [trivetref04_Of_s.yes h1, Option.bind_some]
  simp only [if_true]
  by_cases h2 : M.dy f = 1
  ·have hf : M.firstOk f := ⟨h1.1, h1.2, h2⟩
   have fd := M.first_date hf
   rw [if_pos h2]
   by_cases h4 : m < 1
   ·rw [if_pos h4]; exact out (fun hh => by have := hh.2.2; omega) _ _ _
   rw [if_neg h4]
   by_cases h5 : m > 480
   ·rw [decide_eq_true h5]; exact out (fun hh => by have := hh.2.2; omega) _ _ _
   rw [decide_eq_false h5]
   simp only [trivetref11_May.j0]
   rw [if_neg (by decide), h2]
   have rest : ∀ x : Bool, (x = true ↔ M.inYears (M.m0 f + m)) → (if b ≥ 1 then (if b ≤ 10000000000000 then (if e ≥ 0 then trivetref11_May.j1 (k + 3) x (decide (e ≤ 10000000000000)) b r m f e i w fe g else trivetref11_May.j1 (k + 3) x false b r m f e i w fe g) else trivetref11_May.j1 (k + 3) x false b r m f e i w fe g) else trivetref11_May.j1 (k + 3) x false b r m f e i w fe g) = some (decide (M.termsOk b r m f e i w fe g)) := by
    intro x hx
    have j3 : ∀ z : Bool, trivetref11_May.j3 (k + 1) z = some z := fun z => by simp [trivetref11_May.j3]
    have j2 : ∀ p q : Bool, trivetref11_May.j2 (k + 2) x p q b r m f e i w fe g = some (decide (x = true ∧ p = true ∧ q = true ∧ i ≥ 1 ∧ i ≤ 64 ∧ w ≥ 1 ∧ w ≤ 3)) := by
     intro p q
     simp only [trivetref11_May.j2, j3, M.and_if]
    have j1 : ∀ p : Bool, trivetref11_May.j1 (k + 3) x p b r m f e i w fe g = some (decide (x = true ∧ p = true ∧ (r ≥ 0 ∧ r ≤ 300000 ∧ fe ≥ 0 ∧ g ≥ 0 ∧ fe ≤ 300000 ∧ g ≤ 300000 ∧ wrap64 (fe + g) ≤ r) ∧ i ≥ 1 ∧ i ≤ 64 ∧ w ≥ 1 ∧ w ≤ 3)) := by
     intro p
     simp only [trivetref11_May.j1, j2]
     by_cases c1 : r ≥ 0 <;> by_cases c2 : r ≤ 300000 <;> by_cases c3 : fe ≥ 0 <;> by_cases c4 : g ≥ 0 <;> simp only [c1, c2, c3, c4, if_true, if_false, true_and, false_and, and_false, Bool.false_eq_true, decide_eq_true_eq]
     by_cases c5 : fe ≤ 300000 <;> by_cases c6 : g ≤ 300000 <;> simp only [c5, c6, if_true, if_false, true_and, false_and, and_false, Bool.false_eq_true, decide_eq_true_eq]
    simp only [j1]
    have fin : ∀ p : Bool, (p = true ↔ (b ≥ 1 ∧ b ≤ 10000000000000 ∧ e ≥ 0 ∧ e ≤ 10000000000000)) → some (decide (x = true ∧ p = true ∧ (r ≥ 0 ∧ r ≤ 300000 ∧ fe ≥ 0 ∧ g ≥ 0 ∧ fe ≤ 300000 ∧ g ≤ 300000 ∧ wrap64 (fe + g) ≤ r) ∧ i ≥ 1 ∧ i ≤ 64 ∧ w ≥ 1 ∧ w ≤ 3)) = some (decide (M.termsOk b r m f e i w fe g)) := by
     intro p hp
     refine congrArg some (decide_eq_decide.mpr ?_)
     rw [hx, hp]
     unfold M.termsOk M.moneyOk
     constructor
     ·rintro ⟨a1, a2, a3, a4⟩
      have := a3.2.2.2.2.2.2
      rw [M.w64_id (by omega) (by omega)] at this
      exact ⟨hf, by omega, by omega, by omega, by omega, by omega, by omega, by omega, a1⟩
     ·rintro ⟨a1, a2, a3, a4, a5, a6, a7, a8, a9⟩
      rw [M.w64_id (by omega) (by omega)]
      exact ⟨a9, by omega, by omega, by omega⟩
    by_cases c1 : b ≥ 1
    ·rw [if_pos c1]
     by_cases c2 : b ≤ 10000000000000
     ·rw [if_pos c2]
      by_cases c3 : e ≥ 0
      ·rw [if_pos c3]; exact fin _ (by simp only [decide_eq_true_eq]; omega)
      ·rw [if_neg c3]; exact fin _ (by simp only [Bool.false_eq_true, false_iff]; omega)
     ·rw [if_neg c2]; exact fin _ (by simp only [Bool.false_eq_true, false_iff]; omega)
    ·rw [if_neg c1]; exact fin _ (by simp only [Bool.false_eq_true, false_iff]; omega)
   by_cases hy : M.inYears (M.m0 f + m)
   ·rw [trivetref04_Months_s.yes fd.1 ⟨by omega, by omega, hy⟩, Option.bind_some]
    exact rest true ⟨fun _ => hy, fun _ => rfl⟩
   ·rw [trivetref04_Months_s.no fd.1 (fun hh => hy hh.2.2), Option.bind_some]
    exact rest false ⟨fun hh => (by cases hh), fun hh => absurd hh hy⟩
  ·rw [if_neg h2]
   exact out (fun hh => h2 hh.1.2.2) _ _ _
 ·rw [trivetref04_Of_s.no h.1 h1, Option.bind_some]
  simp only [Bool.false_eq_true, if_false]
  exact out (fun hh => h1 ⟨hh.1.1, hh.1.2.1⟩) _ _ _
def trivetref11_May_s.f (b r m f e i w fe g : Int) : Option Bool := if M.In f ∧ M.In fe ∧ M.In g then some (decide (M.termsOk b r m f e i w fe g)) else none
theorem trivetref11_May_s.calls (a0_0 : Int) (a0_1 : Int) (a0_2 : Int) (a0_3 : Int) (a0_4 : Int) (a0_5 : Int) (a0_6 : Int) (a0_7 : Int) (a0_8 : Int) (r : Bool) (w : World) (h : trivetref11_May_s.f a0_0 a0_1 a0_2 a0_3 a0_4 a0_5 a0_6 a0_7 a0_8 = some r) :
  Calls Try.prog 29 #[.agg #[.int .i64 a0_0, .int .i64 a0_1, .int .i64 a0_2, .int .i64 a0_3, .int .i64 a0_4, .int .i64 a0_5, .int .i64 a0_6, .int .i64 a0_7, .int .i64 a0_8]] w fun e w' => e = .returned (.bool r) ∧ Below w.heap.size w w' := by
 unfold trivetref11_May_s.f at h
 split at h
 ·rename_i hr
  exact trivetref11_May.calls (4) a0_0 a0_1 a0_2 a0_3 a0_4 a0_5 a0_6 a0_7 a0_8 r w ((trivetref11_May.tells a0_0 a0_1 a0_2 a0_3 a0_4 a0_5 a0_6 a0_7 a0_8 hr (4) (Nat.le_refl _)).trans h)
 ·cases h
theorem trivetref11_May_s.at_ {b r m f e i w fe g : Int} (h : M.In f ∧ M.In fe ∧ M.In g) : trivetref11_May_s.f b r m f e i w fe g = some (decide (M.termsOk b r m f e i w fe g)) := by unfold trivetref11_May_s.f; rw [if_pos h]

/-! ### trivetref13_money: function 30 -/
def trivetref13_money.f (a0 : Int) : Option (Bool) := if a0 ≥ 0 then (some (decide (a0 ≤ 10000000000000))) else (some false)
set_option maxHeartbeats 8000000 in
set_option maxRecDepth 100000 in
theorem trivetref13_money.calls (a0 : Int) (r : Bool) (w : World) (h : trivetref13_money.f a0 = some r) :
  Calls Try.prog 30 #[.int .i64 a0] w fun e w' => e = .returned (.bool r) ∧ Drawn0 w w' := by
 have H : (if a0 ≥ 0 then (some (decide (a0 ≤ 10000000000000))) else (some false)) = some r := h
 clear h
 by_cases c2 : a0 ≥ 0
 ·rw [if_pos c2] at H
  have c2b0 : decide (0 ≤ a0) = true := decide_eq_true c2
  clear c2
  obtain rfl := Option.some.inj H
  go_enter Try.func30, Try.ntmps30
  go_wp2
  go_ret
  exact ⟨by first | rfl | (simp; done) | (simp [*]; done), by repeat (first | exact Drawn0.refl _ | apply Drawn0.step)⟩
 ·rw [if_neg c2] at H
  have c2b0 : decide (0 ≤ a0) = false := decide_eq_false c2
  clear c2
  obtain rfl := Option.some.inj H
  go_enter Try.func30, Try.ntmps30
  go_wp2
  go_ret
  exact ⟨by first | rfl | (simp; done) | (simp [*]; done), by repeat (first | exact Drawn0.refl _ | apply Drawn0.step)⟩

/-! ### trivetref13_money_s: function 30, told plainly -/
theorem trivetref13_money.tells (v : Int) : trivetref13_money.f v = some (decide (M.cent v)) := by
 unfold trivetref13_money.f M.cent
 exact M.and_if _ _
def trivetref13_money_s.f (v : Int) : Option Bool := some (decide (M.cent v))
theorem trivetref13_money_s.calls (a0 : Int) (r : Bool) (w : World) (h : trivetref13_money_s.f a0 = some r) :
  Calls Try.prog 30 #[.int .i64 a0] w fun e w' => e = .returned (.bool r) ∧ Drawn0 w w' := by
 exact trivetref13_money.calls a0 r w ((trivetref13_money.tells a0).trans h)
theorem trivetref13_money_s.at_ (v : Int) : trivetref13_money_s.f v = some (decide (M.cent v)) := rfl

/-! ### trivetref13_May: function 15 -/
def trivetref13_May.f (a0_0 : Int) (a0_1 : Int) (a0_2 : Int) (a0_3 : Int) (a0_4 : Int) (a0_5 : Int) (a0_6 : Int) (a0_7 : Int) (a0_8 : Int) (a0_9 : Int) (a0_10 : Int) (a0_11 : Int) (a0_12 : Int) (a0_13 : Int) (a0_14 : Int) : Option (Bool) := (trivetref04_Of_s.f a0_11).bind fun bt347 => ((trivetref11_May_s.f a0_0 a0_1 a0_2 a0_3 a0_4 a0_5 a0_6 a0_7 a0_8).bind fun t352 => (if bt347.2.2.2 = true then (if bt347.2.2.1 = 1 then (if t352 = true then ((trivetref13_money_s.f a0_9).bind fun t353 => (if t353 = true then (if a0_10 ≥ 1 then (if a0_10 ≤ 20000000000000 then (if a0_12 ≥ 0 then (if a0_12 ≤ 480 then ((trivetref13_money_s.f a0_13).bind fun t354 => (if t354 = true then ((trivetref13_money_s.f a0_14).bind fun t355 => (some t355)) else (some false))) else (some false)) else (some false)) else (some false)) else (some false)) else (some false))) else (some false)) else (some false)) else (some false)))
set_option maxHeartbeats 8000000 in
set_option maxRecDepth 100000 in
theorem trivetref13_May.calls (a0_0 : Int) (a0_1 : Int) (a0_2 : Int) (a0_3 : Int) (a0_4 : Int) (a0_5 : Int) (a0_6 : Int) (a0_7 : Int) (a0_8 : Int) (a0_9 : Int) (a0_10 : Int) (a0_11 : Int) (a0_12 : Int) (a0_13 : Int) (a0_14 : Int) (r : Bool) (w : World) (h : trivetref13_May.f a0_0 a0_1 a0_2 a0_3 a0_4 a0_5 a0_6 a0_7 a0_8 a0_9 a0_10 a0_11 a0_12 a0_13 a0_14 = some r) :
  Calls Try.prog 15 #[.agg #[.int .i64 a0_0, .int .i64 a0_1, .int .i64 a0_2, .int .i64 a0_3, .int .i64 a0_4, .int .i64 a0_5, .int .i64 a0_6, .int .i64 a0_7, .int .i64 a0_8, .int .i64 a0_9, .int .i64 a0_10, .int .i64 a0_11, .int .i64 a0_12, .int .i64 a0_13, .int .i64 a0_14]] w fun e w' => e = .returned (.bool r) ∧ Below w.heap.size w w' := by
 have hu25 := Try.underlying25
 have hu53 := Try.underlying53
 have hu23 := Try.underlying23
 have HB := ka (Below.refl w.heap.size w)
 have H : ((trivetref04_Of_s.f a0_11).bind fun bt347 => ((trivetref11_May_s.f a0_0 a0_1 a0_2 a0_3 a0_4 a0_5 a0_6 a0_7 a0_8).bind fun t352 => (if bt347.2.2.2 = true then (if bt347.2.2.1 = 1 then (if t352 = true then ((trivetref13_money_s.f a0_9).bind fun t353 => (if t353 = true then (if a0_10 ≥ 1 then (if a0_10 ≤ 20000000000000 then (if a0_12 ≥ 0 then (if a0_12 ≤ 480 then ((trivetref13_money_s.f a0_13).bind fun t354 => (if t354 = true then ((trivetref13_money_s.f a0_14).bind fun t355 => (some t355)) else (some false))) else (some false)) else (some false)) else (some false)) else (some false)) else (some false))) else (some false)) else (some false)) else (some false)))) = some r := h
 clear h
 replace H := Option.bind_eq_some_iff.mp H
 obtain ⟨⟨t347, t348, t349, t350⟩, A20, H⟩ := H
 replace H : ((trivetref11_May_s.f a0_0 a0_1 a0_2 a0_3 a0_4 a0_5 a0_6 a0_7 a0_8).bind fun t352 => (if t350 = true then (if t349 = 1 then (if t352 = true then ((trivetref13_money_s.f a0_9).bind fun t353 => (if t353 = true then (if a0_10 ≥ 1 then (if a0_10 ≤ 20000000000000 then (if a0_12 ≥ 0 then (if a0_12 ≤ 480 then ((trivetref13_money_s.f a0_13).bind fun t354 => (if t354 = true then ((trivetref13_money_s.f a0_14).bind fun t355 => (some t355)) else (some false))) else (some false)) else (some false)) else (some false)) else (some false)) else (some false))) else (some false)) else (some false)) else (some false))) = some r := H
 have A2 := ka A20
 clear A20
 replace H := Option.bind_eq_some_iff.mp H
 obtain ⟨t352, A30, H⟩ := H
 replace H : (if t350 = true then (if t349 = 1 then (if t352 = true then ((trivetref13_money_s.f a0_9).bind fun t353 => (if t353 = true then (if a0_10 ≥ 1 then (if a0_10 ≤ 20000000000000 then (if a0_12 ≥ 0 then (if a0_12 ≤ 480 then ((trivetref13_money_s.f a0_13).bind fun t354 => (if t354 = true then ((trivetref13_money_s.f a0_14).bind fun t355 => (some t355)) else (some false))) else (some false)) else (some false)) else (some false)) else (some false)) else (some false))) else (some false)) else (some false)) else (some false)) = some r := H
 have A3 := ka A30
 clear A30
 by_cases c4 : t350 = true
 ·subst c4
  have H1 : (if t349 = 1 then (if t352 = true then ((trivetref13_money_s.f a0_9).bind fun t353 => (if t353 = true then (if a0_10 ≥ 1 then (if a0_10 ≤ 20000000000000 then (if a0_12 ≥ 0 then (if a0_12 ≤ 480 then ((trivetref13_money_s.f a0_13).bind fun t354 => (if t354 = true then ((trivetref13_money_s.f a0_14).bind fun t355 => (some t355)) else (some false))) else (some false)) else (some false)) else (some false)) else (some false)) else (some false))) else (some false)) else (some false)) = some r := by rw [if_pos rfl] at H; exact H
  clear H
  have H := H1
  clear H1
  by_cases c5 : t349 = 1
  ·rw [if_pos c5] at H
   have c5b0 : (t349 == 1) = true := beq_iff_eq.mpr c5
   have c5b1 : (t349 != 1) = false := bne_eq_false_iff_eq.mpr c5
   clear c5
   by_cases c6 : t352 = true
   ·subst c6
    have H1 : ((trivetref13_money_s.f a0_9).bind fun t353 => (if t353 = true then (if a0_10 ≥ 1 then (if a0_10 ≤ 20000000000000 then (if a0_12 ≥ 0 then (if a0_12 ≤ 480 then ((trivetref13_money_s.f a0_13).bind fun t354 => (if t354 = true then ((trivetref13_money_s.f a0_14).bind fun t355 => (some t355)) else (some false))) else (some false)) else (some false)) else (some false)) else (some false)) else (some false))) = some r := by rw [if_pos rfl] at H; exact H
    clear H
    have H := H1
    clear H1
    replace H := Option.bind_eq_some_iff.mp H
    obtain ⟨t353, A70, H⟩ := H
    replace H : (if t353 = true then (if a0_10 ≥ 1 then (if a0_10 ≤ 20000000000000 then (if a0_12 ≥ 0 then (if a0_12 ≤ 480 then ((trivetref13_money_s.f a0_13).bind fun t354 => (if t354 = true then ((trivetref13_money_s.f a0_14).bind fun t355 => (some t355)) else (some false))) else (some false)) else (some false)) else (some false)) else (some false)) else (some false)) = some r := H
    have A7 := ka A70
    clear A70
    by_cases c8 : t353 = true
    ·subst c8
     have H1 : (if a0_10 ≥ 1 then (if a0_10 ≤ 20000000000000 then (if a0_12 ≥ 0 then (if a0_12 ≤ 480 then ((trivetref13_money_s.f a0_13).bind fun t354 => (if t354 = true then ((trivetref13_money_s.f a0_14).bind fun t355 => (some t355)) else (some false))) else (some false)) else (some false)) else (some false)) else (some false)) = some r := by rw [if_pos rfl] at H; exact H
     clear H
     have H := H1
     clear H1
     by_cases c9 : a0_10 ≥ 1
     ·rw [if_pos c9] at H
      have c9b0 : decide (1 ≤ a0_10) = true := decide_eq_true c9
      clear c9
      by_cases c10 : a0_10 ≤ 20000000000000
      ·rw [if_pos c10] at H
       have c10b0 : decide (a0_10 ≤ 20000000000000) = true := decide_eq_true c10
       clear c10
       by_cases c11 : a0_12 ≥ 0
       ·rw [if_pos c11] at H
        have c11b0 : decide (0 ≤ a0_12) = true := decide_eq_true c11
        clear c11
        by_cases c12 : a0_12 ≤ 480
        ·rw [if_pos c12] at H
         have c12b0 : decide (a0_12 ≤ 480) = true := decide_eq_true c12
         clear c12
         replace H := Option.bind_eq_some_iff.mp H
         obtain ⟨t354, A130, H⟩ := H
         replace H : (if t354 = true then ((trivetref13_money_s.f a0_14).bind fun t355 => (some t355)) else (some false)) = some r := H
         have A13 := ka A130
         clear A130
         by_cases c14 : t354 = true
         ·subst c14
          have H1 : ((trivetref13_money_s.f a0_14).bind fun t355 => (some t355)) = some r := by rw [if_pos rfl] at H; exact H
          clear H
          have H := H1
          clear H1
          replace H := Option.bind_eq_some_iff.mp H
          obtain ⟨t355, A150, H⟩ := H
          replace H : (some t355) = some r := H
          have A15 := ka A150
          clear A150
          obtain rfl := Option.some.inj H
          go_enter Try.func15, Try.ntmps15
          go_wp2_with (first | ((with_reducible refine gate_dst (N := 1) rfl ?_); refine kx (N := 1) (cs := #[.int .i64 a0_0, .int .i64 a0_1, .int .i64 a0_2, .int .i64 a0_3, .int .i64 a0_4, .int .i64 a0_5, .int .i64 a0_6, .int .i64 a0_7, .int .i64 a0_8, .int .i64 a0_9, .int .i64 a0_10, .int .i64 a0_11, .int .i64 a0_12, .int .i64 a0_13, .int .i64 a0_14]) (t := 25) ?_; intro gb346 hg w16 hbox hb; have n0_ := ka (below_step (kw HB.out) hb); have n1_ := ka (hbox); have n2_ := ka ((by rw [hg]; exact (below_size (kw HB.out)) : w.heap.size ≤ gb346)); have n3_ := n2_; clear HB; have HB := n0_; have BK346 := n1_; have GW346 := n2_; have GE346 := n3_; clear n0_ n1_ n2_ n3_; clear hb hbox hg; have hcz17 := blkAll15 BK346.out) | ((with_reducible refine gate_callee (f := 24) rfl ?_); refine kg (some 9) rfl rfl Try.func24 (by kernel_rfl) rfl #[.int .i64 a0_11] rfl ?_; (with_reducible refine (trivetref04_Of_s.calls a0_11 t347 t348 t349 true _ A2.out).mono ?_); rintro e w18 ⟨rfl, hb⟩; refine ⟨_, rfl, ?_⟩; have n0_ := ka (blk_below (g := gb346) (kz BK346.out) hb); have n1_ := ka (below_step (kw HB.out) hb); clear BK346; clear HB; have BK346 := n0_; have HB := n1_; clear n0_ n1_; (try clear hb); (try clear hb2); (try clear hk); (try clear hi)) | ((with_reducible refine gate_dst (N := 3) rfl ?_); refine kx (N := 3) (cs := #[.int .i64 0, .int .i64 0, .int .i64 0]) (t := 53) ?_; intro gb351 hg w19 hbox hb; have n0_ := ka (blk_below (g := gb346) (kz BK346.out) hb); have n1_ := ka (below_step (kw HB.out) hb); have n2_ := ka (hbox); have n3_ := ka ((by rw [hg]; exact (below_size (kw HB.out)) : w.heap.size ≤ gb351)); have n4_ := n3_; have n5_ := ka ((by rw [hg]; exact Nat.ne_of_lt (blk_lt (g := gb346) (kz BK346.out)) : gb346 ≠ gb351)); have n6_ := ka n5_.out.symm; clear BK346; clear HB; have BK346 := n0_; have HB := n1_; have BK351 := n2_; have GW351 := n3_; have GE351 := n4_; have NB346_351 := n5_; have NB351_346 := n6_; clear n0_ n1_ n2_ n3_ n4_ n5_ n6_; clear hb hbox hg; have hnb20 := NB351_346.out; have hnc20 := NB346_351.out; have hcz21 := blkAll3 BK351.out; have hcz22 := blkAll15 BK346.out) | ((with_reducible refine gate_callee (f := 29) rfl ?_); refine kg (some 14) rfl rfl Try.func29 (by kernel_rfl) rfl #[.agg #[.int .i64 a0_0, .int .i64 a0_1, .int .i64 a0_2, .int .i64 a0_3, .int .i64 a0_4, .int .i64 a0_5, .int .i64 a0_6, .int .i64 a0_7, .int .i64 a0_8]] rfl ?_; (with_reducible refine (trivetref11_May_s.calls a0_0 a0_1 a0_2 a0_3 a0_4 a0_5 a0_6 a0_7 a0_8 true _ A3.out).mono ?_); rintro e w23 ⟨rfl, hb⟩; refine ⟨_, rfl, ?_⟩; have n0_ := ka (blk_below (g := gb346) (o := .cells #[.int .i64 a0_0, .int .i64 a0_1, .int .i64 a0_2, .int .i64 a0_3, .int .i64 a0_4, .int .i64 a0_5, .int .i64 a0_6, .int .i64 a0_7, .int .i64 a0_8, .int .i64 a0_9, .int .i64 a0_10, .int .i64 a0_11, .int .i64 a0_12, .int .i64 a0_13, .int .i64 a0_14] 25 (0, 0)) (by (with_reducible repeat (first | apply kb1 | apply kb2 | apply kb3 | refine kb4 ?_ NB346_351.out _)); exact BK346.out) hb); have n1_ := ka (blk_below (g := gb351) (o := .cells #[.int .i64 t347, .int .i64 t348, .int .i64 t349] 53 (0, 0)) (by (with_reducible repeat (first | apply kb1 | apply kb2 | apply kb3 | apply blkPut3_2 | apply blkPut3_1 | apply blkPut3_0)); exact BK351.out) hb); have n2_ := ka (below_step (kw HB.out) hb); clear BK346; clear BK351; clear HB; have BK346 := n0_; have BK351 := n1_; have HB := n2_; clear n0_ n1_ n2_; (try clear hb); (try clear hb2); (try clear hk); (try clear hi); have hcz24 := blkAll3 BK351.out; have hcz25 := blkAll15 BK346.out) | (go_at_call 30; (with_reducible refine (trivetref13_money_s.calls a0_9 true _ A7.out).mono ?_); rintro e w' ⟨rfl, ⟨nd, rfl⟩⟩) | (go_at_call 30; (with_reducible refine (trivetref13_money_s.calls a0_13 true _ A13.out).mono ?_); rintro e w' ⟨rfl, ⟨nd, rfl⟩⟩) | (go_at_call 30; (with_reducible refine (trivetref13_money_s.calls a0_14 t355 _ A15.out).mono ?_); rintro e w' ⟨rfl, ⟨nd, rfl⟩⟩))
          go_ret
          exact ⟨by first | rfl | (simp [errW_none, errW_some] <;> rfl) | (simp [*, errW_none, errW_some] <;> rfl), by repeat (first | (with_reducible first | exact HB.out | apply kc1 | apply kc2 | apply kc3 | refine kc4 ?_ GE346.out | refine kc4 ?_ GE351.out) | exact HB.out)⟩
         ·replace c14 := Bool.eq_false_iff.mpr c14
          subst c14
          have H1 : (some false) = some r := by rw [if_neg (show ¬ (false = true) by decide)] at H; exact H
          clear H
          have H := H1
          clear H1
          obtain rfl := Option.some.inj H
          go_enter Try.func15, Try.ntmps15
          go_wp2_with (first | ((with_reducible refine gate_dst (N := 1) rfl ?_); refine kx (N := 1) (cs := #[.int .i64 a0_0, .int .i64 a0_1, .int .i64 a0_2, .int .i64 a0_3, .int .i64 a0_4, .int .i64 a0_5, .int .i64 a0_6, .int .i64 a0_7, .int .i64 a0_8, .int .i64 a0_9, .int .i64 a0_10, .int .i64 a0_11, .int .i64 a0_12, .int .i64 a0_13, .int .i64 a0_14]) (t := 25) ?_; intro gb346 hg w26 hbox hb; have n0_ := ka (below_step (kw HB.out) hb); have n1_ := ka (hbox); have n2_ := ka ((by rw [hg]; exact (below_size (kw HB.out)) : w.heap.size ≤ gb346)); have n3_ := n2_; clear HB; have HB := n0_; have BK346 := n1_; have GW346 := n2_; have GE346 := n3_; clear n0_ n1_ n2_ n3_; clear hb hbox hg; have hcz27 := blkAll15 BK346.out) | ((with_reducible refine gate_callee (f := 24) rfl ?_); refine kg (some 9) rfl rfl Try.func24 (by kernel_rfl) rfl #[.int .i64 a0_11] rfl ?_; (with_reducible refine (trivetref04_Of_s.calls a0_11 t347 t348 t349 true _ A2.out).mono ?_); rintro e w28 ⟨rfl, hb⟩; refine ⟨_, rfl, ?_⟩; have n0_ := ka (blk_below (g := gb346) (kz BK346.out) hb); have n1_ := ka (below_step (kw HB.out) hb); clear BK346; clear HB; have BK346 := n0_; have HB := n1_; clear n0_ n1_; (try clear hb); (try clear hb2); (try clear hk); (try clear hi)) | ((with_reducible refine gate_dst (N := 3) rfl ?_); refine kx (N := 3) (cs := #[.int .i64 0, .int .i64 0, .int .i64 0]) (t := 53) ?_; intro gb351 hg w29 hbox hb; have n0_ := ka (blk_below (g := gb346) (kz BK346.out) hb); have n1_ := ka (below_step (kw HB.out) hb); have n2_ := ka (hbox); have n3_ := ka ((by rw [hg]; exact (below_size (kw HB.out)) : w.heap.size ≤ gb351)); have n4_ := n3_; have n5_ := ka ((by rw [hg]; exact Nat.ne_of_lt (blk_lt (g := gb346) (kz BK346.out)) : gb346 ≠ gb351)); have n6_ := ka n5_.out.symm; clear BK346; clear HB; have BK346 := n0_; have HB := n1_; have BK351 := n2_; have GW351 := n3_; have GE351 := n4_; have NB346_351 := n5_; have NB351_346 := n6_; clear n0_ n1_ n2_ n3_ n4_ n5_ n6_; clear hb hbox hg; have hnb30 := NB351_346.out; have hnc30 := NB346_351.out; have hcz31 := blkAll3 BK351.out; have hcz32 := blkAll15 BK346.out) | ((with_reducible refine gate_callee (f := 29) rfl ?_); refine kg (some 14) rfl rfl Try.func29 (by kernel_rfl) rfl #[.agg #[.int .i64 a0_0, .int .i64 a0_1, .int .i64 a0_2, .int .i64 a0_3, .int .i64 a0_4, .int .i64 a0_5, .int .i64 a0_6, .int .i64 a0_7, .int .i64 a0_8]] rfl ?_; (with_reducible refine (trivetref11_May_s.calls a0_0 a0_1 a0_2 a0_3 a0_4 a0_5 a0_6 a0_7 a0_8 true _ A3.out).mono ?_); rintro e w33 ⟨rfl, hb⟩; refine ⟨_, rfl, ?_⟩; have n0_ := ka (blk_below (g := gb346) (o := .cells #[.int .i64 a0_0, .int .i64 a0_1, .int .i64 a0_2, .int .i64 a0_3, .int .i64 a0_4, .int .i64 a0_5, .int .i64 a0_6, .int .i64 a0_7, .int .i64 a0_8, .int .i64 a0_9, .int .i64 a0_10, .int .i64 a0_11, .int .i64 a0_12, .int .i64 a0_13, .int .i64 a0_14] 25 (0, 0)) (by (with_reducible repeat (first | apply kb1 | apply kb2 | apply kb3 | refine kb4 ?_ NB346_351.out _)); exact BK346.out) hb); have n1_ := ka (blk_below (g := gb351) (o := .cells #[.int .i64 t347, .int .i64 t348, .int .i64 t349] 53 (0, 0)) (by (with_reducible repeat (first | apply kb1 | apply kb2 | apply kb3 | apply blkPut3_2 | apply blkPut3_1 | apply blkPut3_0)); exact BK351.out) hb); have n2_ := ka (below_step (kw HB.out) hb); clear BK346; clear BK351; clear HB; have BK346 := n0_; have BK351 := n1_; have HB := n2_; clear n0_ n1_ n2_; (try clear hb); (try clear hb2); (try clear hk); (try clear hi); have hcz34 := blkAll3 BK351.out; have hcz35 := blkAll15 BK346.out) | (go_at_call 30; (with_reducible refine (trivetref13_money_s.calls a0_9 true _ A7.out).mono ?_); rintro e w' ⟨rfl, ⟨nd, rfl⟩⟩) | (go_at_call 30; (with_reducible refine (trivetref13_money_s.calls a0_13 false _ A13.out).mono ?_); rintro e w' ⟨rfl, ⟨nd, rfl⟩⟩))
          go_ret
          exact ⟨by first | rfl | (simp [errW_none, errW_some] <;> rfl) | (simp [*, errW_none, errW_some] <;> rfl), by repeat (first | (with_reducible first | exact HB.out | apply kc1 | apply kc2 | apply kc3 | refine kc4 ?_ GE346.out | refine kc4 ?_ GE351.out) | exact HB.out)⟩
        ·rw [if_neg c12] at H
         have c12b0 : decide (a0_12 ≤ 480) = false := decide_eq_false c12
         clear c12
         obtain rfl := Option.some.inj H
         go_enter Try.func15, Try.ntmps15
         go_wp2_with (first | ((with_reducible refine gate_dst (N := 1) rfl ?_); refine kx (N := 1) (cs := #[.int .i64 a0_0, .int .i64 a0_1, .int .i64 a0_2, .int .i64 a0_3, .int .i64 a0_4, .int .i64 a0_5, .int .i64 a0_6, .int .i64 a0_7, .int .i64 a0_8, .int .i64 a0_9, .int .i64 a0_10, .int .i64 a0_11, .int .i64 a0_12, .int .i64 a0_13, .int .i64 a0_14]) (t := 25) ?_; intro gb346 hg w36 hbox hb; have n0_ := ka (below_step (kw HB.out) hb); have n1_ := ka (hbox); have n2_ := ka ((by rw [hg]; exact (below_size (kw HB.out)) : w.heap.size ≤ gb346)); have n3_ := n2_; clear HB; have HB := n0_; have BK346 := n1_; have GW346 := n2_; have GE346 := n3_; clear n0_ n1_ n2_ n3_; clear hb hbox hg; have hcz37 := blkAll15 BK346.out) | ((with_reducible refine gate_callee (f := 24) rfl ?_); refine kg (some 9) rfl rfl Try.func24 (by kernel_rfl) rfl #[.int .i64 a0_11] rfl ?_; (with_reducible refine (trivetref04_Of_s.calls a0_11 t347 t348 t349 true _ A2.out).mono ?_); rintro e w38 ⟨rfl, hb⟩; refine ⟨_, rfl, ?_⟩; have n0_ := ka (blk_below (g := gb346) (kz BK346.out) hb); have n1_ := ka (below_step (kw HB.out) hb); clear BK346; clear HB; have BK346 := n0_; have HB := n1_; clear n0_ n1_; (try clear hb); (try clear hb2); (try clear hk); (try clear hi)) | ((with_reducible refine gate_dst (N := 3) rfl ?_); refine kx (N := 3) (cs := #[.int .i64 0, .int .i64 0, .int .i64 0]) (t := 53) ?_; intro gb351 hg w39 hbox hb; have n0_ := ka (blk_below (g := gb346) (kz BK346.out) hb); have n1_ := ka (below_step (kw HB.out) hb); have n2_ := ka (hbox); have n3_ := ka ((by rw [hg]; exact (below_size (kw HB.out)) : w.heap.size ≤ gb351)); have n4_ := n3_; have n5_ := ka ((by rw [hg]; exact Nat.ne_of_lt (blk_lt (g := gb346) (kz BK346.out)) : gb346 ≠ gb351)); have n6_ := ka n5_.out.symm; clear BK346; clear HB; have BK346 := n0_; have HB := n1_; have BK351 := n2_; have GW351 := n3_; have GE351 := n4_; have NB346_351 := n5_; have NB351_346 := n6_; clear n0_ n1_ n2_ n3_ n4_ n5_ n6_; clear hb hbox hg; have hnb40 := NB351_346.out; have hnc40 := NB346_351.out; have hcz41 := blkAll3 BK351.out; have hcz42 := blkAll15 BK346.out) | ((with_reducible refine gate_callee (f := 29) rfl ?_); refine kg (some 14) rfl rfl Try.func29 (by kernel_rfl) rfl #[.agg #[.int .i64 a0_0, .int .i64 a0_1, .int .i64 a0_2, .int .i64 a0_3, .int .i64 a0_4, .int .i64 a0_5, .int .i64 a0_6, .int .i64 a0_7, .int .i64 a0_8]] rfl ?_; (with_reducible refine (trivetref11_May_s.calls a0_0 a0_1 a0_2 a0_3 a0_4 a0_5 a0_6 a0_7 a0_8 true _ A3.out).mono ?_); rintro e w43 ⟨rfl, hb⟩; refine ⟨_, rfl, ?_⟩; have n0_ := ka (blk_below (g := gb346) (o := .cells #[.int .i64 a0_0, .int .i64 a0_1, .int .i64 a0_2, .int .i64 a0_3, .int .i64 a0_4, .int .i64 a0_5, .int .i64 a0_6, .int .i64 a0_7, .int .i64 a0_8, .int .i64 a0_9, .int .i64 a0_10, .int .i64 a0_11, .int .i64 a0_12, .int .i64 a0_13, .int .i64 a0_14] 25 (0, 0)) (by (with_reducible repeat (first | apply kb1 | apply kb2 | apply kb3 | refine kb4 ?_ NB346_351.out _)); exact BK346.out) hb); have n1_ := ka (blk_below (g := gb351) (o := .cells #[.int .i64 t347, .int .i64 t348, .int .i64 t349] 53 (0, 0)) (by (with_reducible repeat (first | apply kb1 | apply kb2 | apply kb3 | apply blkPut3_2 | apply blkPut3_1 | apply blkPut3_0)); exact BK351.out) hb); have n2_ := ka (below_step (kw HB.out) hb); clear BK346; clear BK351; clear HB; have BK346 := n0_; have BK351 := n1_; have HB := n2_; clear n0_ n1_ n2_; (try clear hb); (try clear hb2); (try clear hk); (try clear hi); have hcz44 := blkAll3 BK351.out; have hcz45 := blkAll15 BK346.out) | (go_at_call 30; (with_reducible refine (trivetref13_money_s.calls a0_9 true _ A7.out).mono ?_); rintro e w' ⟨rfl, ⟨nd, rfl⟩⟩))
         go_ret
         exact ⟨by first | rfl | (simp [errW_none, errW_some] <;> rfl) | (simp [*, errW_none, errW_some] <;> rfl), by repeat (first | (with_reducible first | exact HB.out | apply kc1 | apply kc2 | apply kc3 | refine kc4 ?_ GE346.out | refine kc4 ?_ GE351.out) | exact HB.out)⟩
       ·rw [if_neg c11] at H
        have c11b0 : decide (0 ≤ a0_12) = false := decide_eq_false c11
        clear c11
        obtain rfl := Option.some.inj H
        go_enter Try.func15, Try.ntmps15
        go_wp2_with (first | ((with_reducible refine gate_dst (N := 1) rfl ?_); refine kx (N := 1) (cs := #[.int .i64 a0_0, .int .i64 a0_1, .int .i64 a0_2, .int .i64 a0_3, .int .i64 a0_4, .int .i64 a0_5, .int .i64 a0_6, .int .i64 a0_7, .int .i64 a0_8, .int .i64 a0_9, .int .i64 a0_10, .int .i64 a0_11, .int .i64 a0_12, .int .i64 a0_13, .int .i64 a0_14]) (t := 25) ?_; intro gb346 hg w46 hbox hb; have n0_ := ka (below_step (kw HB.out) hb); have n1_ := ka (hbox); have n2_ := ka ((by rw [hg]; exact (below_size (kw HB.out)) : w.heap.size ≤ gb346)); have n3_ := n2_; clear HB; have HB := n0_; have BK346 := n1_; have GW346 := n2_; have GE346 := n3_; clear n0_ n1_ n2_ n3_; clear hb hbox hg; have hcz47 := blkAll15 BK346.out) | ((with_reducible refine gate_callee (f := 24) rfl ?_); refine kg (some 9) rfl rfl Try.func24 (by kernel_rfl) rfl #[.int .i64 a0_11] rfl ?_; (with_reducible refine (trivetref04_Of_s.calls a0_11 t347 t348 t349 true _ A2.out).mono ?_); rintro e w48 ⟨rfl, hb⟩; refine ⟨_, rfl, ?_⟩; have n0_ := ka (blk_below (g := gb346) (kz BK346.out) hb); have n1_ := ka (below_step (kw HB.out) hb); clear BK346; clear HB; have BK346 := n0_; have HB := n1_; clear n0_ n1_; (try clear hb); (try clear hb2); (try clear hk); (try clear hi)) | ((with_reducible refine gate_dst (N := 3) rfl ?_); refine kx (N := 3) (cs := #[.int .i64 0, .int .i64 0, .int .i64 0]) (t := 53) ?_; intro gb351 hg w49 hbox hb; have n0_ := ka (blk_below (g := gb346) (kz BK346.out) hb); have n1_ := ka (below_step (kw HB.out) hb); have n2_ := ka (hbox); have n3_ := ka ((by rw [hg]; exact (below_size (kw HB.out)) : w.heap.size ≤ gb351)); have n4_ := n3_; have n5_ := ka ((by rw [hg]; exact Nat.ne_of_lt (blk_lt (g := gb346) (kz BK346.out)) : gb346 ≠ gb351)); have n6_ := ka n5_.out.symm; clear BK346; clear HB; have BK346 := n0_; have HB := n1_; have BK351 := n2_; have GW351 := n3_; have GE351 := n4_; have NB346_351 := n5_; have NB351_346 := n6_; clear n0_ n1_ n2_ n3_ n4_ n5_ n6_; clear hb hbox hg; have hnb50 := NB351_346.out; have hnc50 := NB346_351.out; have hcz51 := blkAll3 BK351.out; have hcz52 := blkAll15 BK346.out) | ((with_reducible refine gate_callee (f := 29) rfl ?_); refine kg (some 14) rfl rfl Try.func29 (by kernel_rfl) rfl #[.agg #[.int .i64 a0_0, .int .i64 a0_1, .int .i64 a0_2, .int .i64 a0_3, .int .i64 a0_4, .int .i64 a0_5, .int .i64 a0_6, .int .i64 a0_7, .int .i64 a0_8]] rfl ?_; (with_reducible refine (trivetref11_May_s.calls a0_0 a0_1 a0_2 a0_3 a0_4 a0_5 a0_6 a0_7 a0_8 true _ A3.out).mono ?_); rintro e w53 ⟨rfl, hb⟩; refine ⟨_, rfl, ?_⟩; have n0_ := ka (blk_below (g := gb346) (o := .cells #[.int .i64 a0_0, .int .i64 a0_1, .int .i64 a0_2, .int .i64 a0_3, .int .i64 a0_4, .int .i64 a0_5, .int .i64 a0_6, .int .i64 a0_7, .int .i64 a0_8, .int .i64 a0_9, .int .i64 a0_10, .int .i64 a0_11, .int .i64 a0_12, .int .i64 a0_13, .int .i64 a0_14] 25 (0, 0)) (by (with_reducible repeat (first | apply kb1 | apply kb2 | apply kb3 | refine kb4 ?_ NB346_351.out _)); exact BK346.out) hb); have n1_ := ka (blk_below (g := gb351) (o := .cells #[.int .i64 t347, .int .i64 t348, .int .i64 t349] 53 (0, 0)) (by (with_reducible repeat (first | apply kb1 | apply kb2 | apply kb3 | apply blkPut3_2 | apply blkPut3_1 | apply blkPut3_0)); exact BK351.out) hb); have n2_ := ka (below_step (kw HB.out) hb); clear BK346; clear BK351; clear HB; have BK346 := n0_; have BK351 := n1_; have HB := n2_; clear n0_ n1_ n2_; (try clear hb); (try clear hb2); (try clear hk); (try clear hi); have hcz54 := blkAll3 BK351.out; have hcz55 := blkAll15 BK346.out) | (go_at_call 30; (with_reducible refine (trivetref13_money_s.calls a0_9 true _ A7.out).mono ?_); rintro e w' ⟨rfl, ⟨nd, rfl⟩⟩))
        go_ret
        exact ⟨by first | rfl | (simp [errW_none, errW_some] <;> rfl) | (simp [*, errW_none, errW_some] <;> rfl), by repeat (first | (with_reducible first | exact HB.out | apply kc1 | apply kc2 | apply kc3 | refine kc4 ?_ GE346.out | refine kc4 ?_ GE351.out) | exact HB.out)⟩
      ·rw [if_neg c10] at H
       have c10b0 : decide (a0_10 ≤ 20000000000000) = false := decide_eq_false c10
       clear c10
       obtain rfl := Option.some.inj H
       go_enter Try.func15, Try.ntmps15
       go_wp2_with (first | ((with_reducible refine gate_dst (N := 1) rfl ?_); refine kx (N := 1) (cs := #[.int .i64 a0_0, .int .i64 a0_1, .int .i64 a0_2, .int .i64 a0_3, .int .i64 a0_4, .int .i64 a0_5, .int .i64 a0_6, .int .i64 a0_7, .int .i64 a0_8, .int .i64 a0_9, .int .i64 a0_10, .int .i64 a0_11, .int .i64 a0_12, .int .i64 a0_13, .int .i64 a0_14]) (t := 25) ?_; intro gb346 hg w56 hbox hb; have n0_ := ka (below_step (kw HB.out) hb); have n1_ := ka (hbox); have n2_ := ka ((by rw [hg]; exact (below_size (kw HB.out)) : w.heap.size ≤ gb346)); have n3_ := n2_; clear HB; have HB := n0_; have BK346 := n1_; have GW346 := n2_; have GE346 := n3_; clear n0_ n1_ n2_ n3_; clear hb hbox hg; have hcz57 := blkAll15 BK346.out) | ((with_reducible refine gate_callee (f := 24) rfl ?_); refine kg (some 9) rfl rfl Try.func24 (by kernel_rfl) rfl #[.int .i64 a0_11] rfl ?_; (with_reducible refine (trivetref04_Of_s.calls a0_11 t347 t348 t349 true _ A2.out).mono ?_); rintro e w58 ⟨rfl, hb⟩; refine ⟨_, rfl, ?_⟩; have n0_ := ka (blk_below (g := gb346) (kz BK346.out) hb); have n1_ := ka (below_step (kw HB.out) hb); clear BK346; clear HB; have BK346 := n0_; have HB := n1_; clear n0_ n1_; (try clear hb); (try clear hb2); (try clear hk); (try clear hi)) | ((with_reducible refine gate_dst (N := 3) rfl ?_); refine kx (N := 3) (cs := #[.int .i64 0, .int .i64 0, .int .i64 0]) (t := 53) ?_; intro gb351 hg w59 hbox hb; have n0_ := ka (blk_below (g := gb346) (kz BK346.out) hb); have n1_ := ka (below_step (kw HB.out) hb); have n2_ := ka (hbox); have n3_ := ka ((by rw [hg]; exact (below_size (kw HB.out)) : w.heap.size ≤ gb351)); have n4_ := n3_; have n5_ := ka ((by rw [hg]; exact Nat.ne_of_lt (blk_lt (g := gb346) (kz BK346.out)) : gb346 ≠ gb351)); have n6_ := ka n5_.out.symm; clear BK346; clear HB; have BK346 := n0_; have HB := n1_; have BK351 := n2_; have GW351 := n3_; have GE351 := n4_; have NB346_351 := n5_; have NB351_346 := n6_; clear n0_ n1_ n2_ n3_ n4_ n5_ n6_; clear hb hbox hg; have hnb60 := NB351_346.out; have hnc60 := NB346_351.out; have hcz61 := blkAll3 BK351.out; have hcz62 := blkAll15 BK346.out) | ((with_reducible refine gate_callee (f := 29) rfl ?_); refine kg (some 14) rfl rfl Try.func29 (by kernel_rfl) rfl #[.agg #[.int .i64 a0_0, .int .i64 a0_1, .int .i64 a0_2, .int .i64 a0_3, .int .i64 a0_4, .int .i64 a0_5, .int .i64 a0_6, .int .i64 a0_7, .int .i64 a0_8]] rfl ?_; (with_reducible refine (trivetref11_May_s.calls a0_0 a0_1 a0_2 a0_3 a0_4 a0_5 a0_6 a0_7 a0_8 true _ A3.out).mono ?_); rintro e w63 ⟨rfl, hb⟩; refine ⟨_, rfl, ?_⟩; have n0_ := ka (blk_below (g := gb346) (o := .cells #[.int .i64 a0_0, .int .i64 a0_1, .int .i64 a0_2, .int .i64 a0_3, .int .i64 a0_4, .int .i64 a0_5, .int .i64 a0_6, .int .i64 a0_7, .int .i64 a0_8, .int .i64 a0_9, .int .i64 a0_10, .int .i64 a0_11, .int .i64 a0_12, .int .i64 a0_13, .int .i64 a0_14] 25 (0, 0)) (by (with_reducible repeat (first | apply kb1 | apply kb2 | apply kb3 | refine kb4 ?_ NB346_351.out _)); exact BK346.out) hb); have n1_ := ka (blk_below (g := gb351) (o := .cells #[.int .i64 t347, .int .i64 t348, .int .i64 t349] 53 (0, 0)) (by (with_reducible repeat (first | apply kb1 | apply kb2 | apply kb3 | apply blkPut3_2 | apply blkPut3_1 | apply blkPut3_0)); exact BK351.out) hb); have n2_ := ka (below_step (kw HB.out) hb); clear BK346; clear BK351; clear HB; have BK346 := n0_; have BK351 := n1_; have HB := n2_; clear n0_ n1_ n2_; (try clear hb); (try clear hb2); (try clear hk); (try clear hi); have hcz64 := blkAll3 BK351.out; have hcz65 := blkAll15 BK346.out) | (go_at_call 30; (with_reducible refine (trivetref13_money_s.calls a0_9 true _ A7.out).mono ?_); rintro e w' ⟨rfl, ⟨nd, rfl⟩⟩))
       go_ret
       exact ⟨by first | rfl | (simp [errW_none, errW_some] <;> rfl) | (simp [*, errW_none, errW_some] <;> rfl), by repeat (first | (with_reducible first | exact HB.out | apply kc1 | apply kc2 | apply kc3 | refine kc4 ?_ GE346.out | refine kc4 ?_ GE351.out) | exact HB.out)⟩
     ·rw [if_neg c9] at H
      have c9b0 : decide (1 ≤ a0_10) = false := decide_eq_false c9
      clear c9
      obtain rfl := Option.some.inj H
      go_enter Try.func15, Try.ntmps15
      go_wp2_with (first | ((with_reducible refine gate_dst (N := 1) rfl ?_); refine kx (N := 1) (cs := #[.int .i64 a0_0, .int .i64 a0_1, .int .i64 a0_2, .int .i64 a0_3, .int .i64 a0_4, .int .i64 a0_5, .int .i64 a0_6, .int .i64 a0_7, .int .i64 a0_8, .int .i64 a0_9, .int .i64 a0_10, .int .i64 a0_11, .int .i64 a0_12, .int .i64 a0_13, .int .i64 a0_14]) (t := 25) ?_; intro gb346 hg w66 hbox hb; have n0_ := ka (below_step (kw HB.out) hb); have n1_ := ka (hbox); have n2_ := ka ((by rw [hg]; exact (below_size (kw HB.out)) : w.heap.size ≤ gb346)); have n3_ := n2_; clear HB; have HB := n0_; have BK346 := n1_; have GW346 := n2_; have GE346 := n3_; clear n0_ n1_ n2_ n3_; clear hb hbox hg; have hcz67 := blkAll15 BK346.out) | ((with_reducible refine gate_callee (f := 24) rfl ?_); refine kg (some 9) rfl rfl Try.func24 (by kernel_rfl) rfl #[.int .i64 a0_11] rfl ?_; (with_reducible refine (trivetref04_Of_s.calls a0_11 t347 t348 t349 true _ A2.out).mono ?_); rintro e w68 ⟨rfl, hb⟩; refine ⟨_, rfl, ?_⟩; have n0_ := ka (blk_below (g := gb346) (kz BK346.out) hb); have n1_ := ka (below_step (kw HB.out) hb); clear BK346; clear HB; have BK346 := n0_; have HB := n1_; clear n0_ n1_; (try clear hb); (try clear hb2); (try clear hk); (try clear hi)) | ((with_reducible refine gate_dst (N := 3) rfl ?_); refine kx (N := 3) (cs := #[.int .i64 0, .int .i64 0, .int .i64 0]) (t := 53) ?_; intro gb351 hg w69 hbox hb; have n0_ := ka (blk_below (g := gb346) (kz BK346.out) hb); have n1_ := ka (below_step (kw HB.out) hb); have n2_ := ka (hbox); have n3_ := ka ((by rw [hg]; exact (below_size (kw HB.out)) : w.heap.size ≤ gb351)); have n4_ := n3_; have n5_ := ka ((by rw [hg]; exact Nat.ne_of_lt (blk_lt (g := gb346) (kz BK346.out)) : gb346 ≠ gb351)); have n6_ := ka n5_.out.symm; clear BK346; clear HB; have BK346 := n0_; have HB := n1_; have BK351 := n2_; have GW351 := n3_; have GE351 := n4_; have NB346_351 := n5_; have NB351_346 := n6_; clear n0_ n1_ n2_ n3_ n4_ n5_ n6_; clear hb hbox hg; have hnb70 := NB351_346.out; have hnc70 := NB346_351.out; have hcz71 := blkAll3 BK351.out; have hcz72 := blkAll15 BK346.out) | ((with_reducible refine gate_callee (f := 29) rfl ?_); refine kg (some 14) rfl rfl Try.func29 (by kernel_rfl) rfl #[.agg #[.int .i64 a0_0, .int .i64 a0_1, .int .i64 a0_2, .int .i64 a0_3, .int .i64 a0_4, .int .i64 a0_5, .int .i64 a0_6, .int .i64 a0_7, .int .i64 a0_8]] rfl ?_; (with_reducible refine (trivetref11_May_s.calls a0_0 a0_1 a0_2 a0_3 a0_4 a0_5 a0_6 a0_7 a0_8 true _ A3.out).mono ?_); rintro e w73 ⟨rfl, hb⟩; refine ⟨_, rfl, ?_⟩; have n0_ := ka (blk_below (g := gb346) (o := .cells #[.int .i64 a0_0, .int .i64 a0_1, .int .i64 a0_2, .int .i64 a0_3, .int .i64 a0_4, .int .i64 a0_5, .int .i64 a0_6, .int .i64 a0_7, .int .i64 a0_8, .int .i64 a0_9, .int .i64 a0_10, .int .i64 a0_11, .int .i64 a0_12, .int .i64 a0_13, .int .i64 a0_14] 25 (0, 0)) (by (with_reducible repeat (first | apply kb1 | apply kb2 | apply kb3 | refine kb4 ?_ NB346_351.out _)); exact BK346.out) hb); have n1_ := ka (blk_below (g := gb351) (o := .cells #[.int .i64 t347, .int .i64 t348, .int .i64 t349] 53 (0, 0)) (by (with_reducible repeat (first | apply kb1 | apply kb2 | apply kb3 | apply blkPut3_2 | apply blkPut3_1 | apply blkPut3_0)); exact BK351.out) hb); have n2_ := ka (below_step (kw HB.out) hb); clear BK346; clear BK351; clear HB; have BK346 := n0_; have BK351 := n1_; have HB := n2_; clear n0_ n1_ n2_; (try clear hb); (try clear hb2); (try clear hk); (try clear hi); have hcz74 := blkAll3 BK351.out; have hcz75 := blkAll15 BK346.out) | (go_at_call 30; (with_reducible refine (trivetref13_money_s.calls a0_9 true _ A7.out).mono ?_); rintro e w' ⟨rfl, ⟨nd, rfl⟩⟩))
      go_ret
      exact ⟨by first | rfl | (simp [errW_none, errW_some] <;> rfl) | (simp [*, errW_none, errW_some] <;> rfl), by repeat (first | (with_reducible first | exact HB.out | apply kc1 | apply kc2 | apply kc3 | refine kc4 ?_ GE346.out | refine kc4 ?_ GE351.out) | exact HB.out)⟩
    ·replace c8 := Bool.eq_false_iff.mpr c8
     subst c8
     have H1 : (some false) = some r := by rw [if_neg (show ¬ (false = true) by decide)] at H; exact H
     clear H
     have H := H1
     clear H1
     obtain rfl := Option.some.inj H
     go_enter Try.func15, Try.ntmps15
     go_wp2_with (first | ((with_reducible refine gate_dst (N := 1) rfl ?_); refine kx (N := 1) (cs := #[.int .i64 a0_0, .int .i64 a0_1, .int .i64 a0_2, .int .i64 a0_3, .int .i64 a0_4, .int .i64 a0_5, .int .i64 a0_6, .int .i64 a0_7, .int .i64 a0_8, .int .i64 a0_9, .int .i64 a0_10, .int .i64 a0_11, .int .i64 a0_12, .int .i64 a0_13, .int .i64 a0_14]) (t := 25) ?_; intro gb346 hg w76 hbox hb; have n0_ := ka (below_step (kw HB.out) hb); have n1_ := ka (hbox); have n2_ := ka ((by rw [hg]; exact (below_size (kw HB.out)) : w.heap.size ≤ gb346)); have n3_ := n2_; clear HB; have HB := n0_; have BK346 := n1_; have GW346 := n2_; have GE346 := n3_; clear n0_ n1_ n2_ n3_; clear hb hbox hg; have hcz77 := blkAll15 BK346.out) | ((with_reducible refine gate_callee (f := 24) rfl ?_); refine kg (some 9) rfl rfl Try.func24 (by kernel_rfl) rfl #[.int .i64 a0_11] rfl ?_; (with_reducible refine (trivetref04_Of_s.calls a0_11 t347 t348 t349 true _ A2.out).mono ?_); rintro e w78 ⟨rfl, hb⟩; refine ⟨_, rfl, ?_⟩; have n0_ := ka (blk_below (g := gb346) (kz BK346.out) hb); have n1_ := ka (below_step (kw HB.out) hb); clear BK346; clear HB; have BK346 := n0_; have HB := n1_; clear n0_ n1_; (try clear hb); (try clear hb2); (try clear hk); (try clear hi)) | ((with_reducible refine gate_dst (N := 3) rfl ?_); refine kx (N := 3) (cs := #[.int .i64 0, .int .i64 0, .int .i64 0]) (t := 53) ?_; intro gb351 hg w79 hbox hb; have n0_ := ka (blk_below (g := gb346) (kz BK346.out) hb); have n1_ := ka (below_step (kw HB.out) hb); have n2_ := ka (hbox); have n3_ := ka ((by rw [hg]; exact (below_size (kw HB.out)) : w.heap.size ≤ gb351)); have n4_ := n3_; have n5_ := ka ((by rw [hg]; exact Nat.ne_of_lt (blk_lt (g := gb346) (kz BK346.out)) : gb346 ≠ gb351)); have n6_ := ka n5_.out.symm; clear BK346; clear HB; have BK346 := n0_; have HB := n1_; have BK351 := n2_; have GW351 := n3_; have GE351 := n4_; have NB346_351 := n5_; have NB351_346 := n6_; clear n0_ n1_ n2_ n3_ n4_ n5_ n6_; clear hb hbox hg; have hnb80 := NB351_346.out; have hnc80 := NB346_351.out; have hcz81 := blkAll3 BK351.out; have hcz82 := blkAll15 BK346.out) | ((with_reducible refine gate_callee (f := 29) rfl ?_); refine kg (some 14) rfl rfl Try.func29 (by kernel_rfl) rfl #[.agg #[.int .i64 a0_0, .int .i64 a0_1, .int .i64 a0_2, .int .i64 a0_3, .int .i64 a0_4, .int .i64 a0_5, .int .i64 a0_6, .int .i64 a0_7, .int .i64 a0_8]] rfl ?_; (with_reducible refine (trivetref11_May_s.calls a0_0 a0_1 a0_2 a0_3 a0_4 a0_5 a0_6 a0_7 a0_8 true _ A3.out).mono ?_); rintro e w83 ⟨rfl, hb⟩; refine ⟨_, rfl, ?_⟩; have n0_ := ka (blk_below (g := gb346) (o := .cells #[.int .i64 a0_0, .int .i64 a0_1, .int .i64 a0_2, .int .i64 a0_3, .int .i64 a0_4, .int .i64 a0_5, .int .i64 a0_6, .int .i64 a0_7, .int .i64 a0_8, .int .i64 a0_9, .int .i64 a0_10, .int .i64 a0_11, .int .i64 a0_12, .int .i64 a0_13, .int .i64 a0_14] 25 (0, 0)) (by (with_reducible repeat (first | apply kb1 | apply kb2 | apply kb3 | refine kb4 ?_ NB346_351.out _)); exact BK346.out) hb); have n1_ := ka (blk_below (g := gb351) (o := .cells #[.int .i64 t347, .int .i64 t348, .int .i64 t349] 53 (0, 0)) (by (with_reducible repeat (first | apply kb1 | apply kb2 | apply kb3 | apply blkPut3_2 | apply blkPut3_1 | apply blkPut3_0)); exact BK351.out) hb); have n2_ := ka (below_step (kw HB.out) hb); clear BK346; clear BK351; clear HB; have BK346 := n0_; have BK351 := n1_; have HB := n2_; clear n0_ n1_ n2_; (try clear hb); (try clear hb2); (try clear hk); (try clear hi); have hcz84 := blkAll3 BK351.out; have hcz85 := blkAll15 BK346.out) | (go_at_call 30; (with_reducible refine (trivetref13_money_s.calls a0_9 false _ A7.out).mono ?_); rintro e w' ⟨rfl, ⟨nd, rfl⟩⟩))
     go_ret
     exact ⟨by first | rfl | (simp [errW_none, errW_some] <;> rfl) | (simp [*, errW_none, errW_some] <;> rfl), by repeat (first | (with_reducible first | exact HB.out | apply kc1 | apply kc2 | apply kc3 | refine kc4 ?_ GE346.out | refine kc4 ?_ GE351.out) | exact HB.out)⟩
   ·replace c6 := Bool.eq_false_iff.mpr c6
    subst c6
    have H1 : (some false) = some r := by rw [if_neg (show ¬ (false = true) by decide)] at H; exact H
    clear H
    have H := H1
    clear H1
    obtain rfl := Option.some.inj H
    go_enter Try.func15, Try.ntmps15
    go_wp2_with (first | ((with_reducible refine gate_dst (N := 1) rfl ?_); refine kx (N := 1) (cs := #[.int .i64 a0_0, .int .i64 a0_1, .int .i64 a0_2, .int .i64 a0_3, .int .i64 a0_4, .int .i64 a0_5, .int .i64 a0_6, .int .i64 a0_7, .int .i64 a0_8, .int .i64 a0_9, .int .i64 a0_10, .int .i64 a0_11, .int .i64 a0_12, .int .i64 a0_13, .int .i64 a0_14]) (t := 25) ?_; intro gb346 hg w86 hbox hb; have n0_ := ka (below_step (kw HB.out) hb); have n1_ := ka (hbox); have n2_ := ka ((by rw [hg]; exact (below_size (kw HB.out)) : w.heap.size ≤ gb346)); have n3_ := n2_; clear HB; have HB := n0_; have BK346 := n1_; have GW346 := n2_; have GE346 := n3_; clear n0_ n1_ n2_ n3_; clear hb hbox hg; have hcz87 := blkAll15 BK346.out) | ((with_reducible refine gate_callee (f := 24) rfl ?_); refine kg (some 9) rfl rfl Try.func24 (by kernel_rfl) rfl #[.int .i64 a0_11] rfl ?_; (with_reducible refine (trivetref04_Of_s.calls a0_11 t347 t348 t349 true _ A2.out).mono ?_); rintro e w88 ⟨rfl, hb⟩; refine ⟨_, rfl, ?_⟩; have n0_ := ka (blk_below (g := gb346) (kz BK346.out) hb); have n1_ := ka (below_step (kw HB.out) hb); clear BK346; clear HB; have BK346 := n0_; have HB := n1_; clear n0_ n1_; (try clear hb); (try clear hb2); (try clear hk); (try clear hi)) | ((with_reducible refine gate_dst (N := 3) rfl ?_); refine kx (N := 3) (cs := #[.int .i64 0, .int .i64 0, .int .i64 0]) (t := 53) ?_; intro gb351 hg w89 hbox hb; have n0_ := ka (blk_below (g := gb346) (kz BK346.out) hb); have n1_ := ka (below_step (kw HB.out) hb); have n2_ := ka (hbox); have n3_ := ka ((by rw [hg]; exact (below_size (kw HB.out)) : w.heap.size ≤ gb351)); have n4_ := n3_; have n5_ := ka ((by rw [hg]; exact Nat.ne_of_lt (blk_lt (g := gb346) (kz BK346.out)) : gb346 ≠ gb351)); have n6_ := ka n5_.out.symm; clear BK346; clear HB; have BK346 := n0_; have HB := n1_; have BK351 := n2_; have GW351 := n3_; have GE351 := n4_; have NB346_351 := n5_; have NB351_346 := n6_; clear n0_ n1_ n2_ n3_ n4_ n5_ n6_; clear hb hbox hg; have hnb90 := NB351_346.out; have hnc90 := NB346_351.out; have hcz91 := blkAll3 BK351.out; have hcz92 := blkAll15 BK346.out) | ((with_reducible refine gate_callee (f := 29) rfl ?_); refine kg (some 14) rfl rfl Try.func29 (by kernel_rfl) rfl #[.agg #[.int .i64 a0_0, .int .i64 a0_1, .int .i64 a0_2, .int .i64 a0_3, .int .i64 a0_4, .int .i64 a0_5, .int .i64 a0_6, .int .i64 a0_7, .int .i64 a0_8]] rfl ?_; (with_reducible refine (trivetref11_May_s.calls a0_0 a0_1 a0_2 a0_3 a0_4 a0_5 a0_6 a0_7 a0_8 false _ A3.out).mono ?_); rintro e w93 ⟨rfl, hb⟩; refine ⟨_, rfl, ?_⟩; have n0_ := ka (blk_below (g := gb346) (o := .cells #[.int .i64 a0_0, .int .i64 a0_1, .int .i64 a0_2, .int .i64 a0_3, .int .i64 a0_4, .int .i64 a0_5, .int .i64 a0_6, .int .i64 a0_7, .int .i64 a0_8, .int .i64 a0_9, .int .i64 a0_10, .int .i64 a0_11, .int .i64 a0_12, .int .i64 a0_13, .int .i64 a0_14] 25 (0, 0)) (by (with_reducible repeat (first | apply kb1 | apply kb2 | apply kb3 | refine kb4 ?_ NB346_351.out _)); exact BK346.out) hb); have n1_ := ka (blk_below (g := gb351) (o := .cells #[.int .i64 t347, .int .i64 t348, .int .i64 t349] 53 (0, 0)) (by (with_reducible repeat (first | apply kb1 | apply kb2 | apply kb3 | apply blkPut3_2 | apply blkPut3_1 | apply blkPut3_0)); exact BK351.out) hb); have n2_ := ka (below_step (kw HB.out) hb); clear BK346; clear BK351; clear HB; have BK346 := n0_; have BK351 := n1_; have HB := n2_; clear n0_ n1_ n2_; (try clear hb); (try clear hb2); (try clear hk); (try clear hi); have hcz94 := blkAll3 BK351.out))
    go_ret
    exact ⟨by first | rfl | (simp [errW_none, errW_some] <;> rfl) | (simp [*, errW_none, errW_some] <;> rfl), by repeat (first | (with_reducible first | exact HB.out | apply kc1 | apply kc2 | apply kc3 | refine kc4 ?_ GE346.out | refine kc4 ?_ GE351.out) | exact HB.out)⟩
  ·rw [if_neg c5] at H
   have c5b0 : (t349 == 1) = false := beq_eq_false_iff_ne.mpr c5
   have c5b1 : (t349 != 1) = true := bne_iff_ne.mpr c5
   obtain rfl := Option.some.inj H
   go_enter Try.func15, Try.ntmps15
   go_wp2_with (first | ((with_reducible refine gate_dst (N := 1) rfl ?_); refine kx (N := 1) (cs := #[.int .i64 a0_0, .int .i64 a0_1, .int .i64 a0_2, .int .i64 a0_3, .int .i64 a0_4, .int .i64 a0_5, .int .i64 a0_6, .int .i64 a0_7, .int .i64 a0_8, .int .i64 a0_9, .int .i64 a0_10, .int .i64 a0_11, .int .i64 a0_12, .int .i64 a0_13, .int .i64 a0_14]) (t := 25) ?_; intro gb346 hg w95 hbox hb; have n0_ := ka (below_step (kw HB.out) hb); have n1_ := ka (hbox); have n2_ := ka ((by rw [hg]; exact (below_size (kw HB.out)) : w.heap.size ≤ gb346)); have n3_ := n2_; clear HB; have HB := n0_; have BK346 := n1_; have GW346 := n2_; have GE346 := n3_; clear n0_ n1_ n2_ n3_; clear hb hbox hg; have hcz96 := blkAll15 BK346.out) | ((with_reducible refine gate_callee (f := 24) rfl ?_); refine kg (some 9) rfl rfl Try.func24 (by kernel_rfl) rfl #[.int .i64 a0_11] rfl ?_; (with_reducible refine (trivetref04_Of_s.calls a0_11 t347 t348 t349 true _ A2.out).mono ?_); rintro e w97 ⟨rfl, hb⟩; refine ⟨_, rfl, ?_⟩; have n0_ := ka (blk_below (g := gb346) (kz BK346.out) hb); have n1_ := ka (below_step (kw HB.out) hb); clear BK346; clear HB; have BK346 := n0_; have HB := n1_; clear n0_ n1_; (try clear hb); (try clear hb2); (try clear hk); (try clear hi)) | ((with_reducible refine gate_dst (N := 3) rfl ?_); refine kx (N := 3) (cs := #[.int .i64 0, .int .i64 0, .int .i64 0]) (t := 53) ?_; intro gb351 hg w98 hbox hb; have n0_ := ka (blk_below (g := gb346) (kz BK346.out) hb); have n1_ := ka (below_step (kw HB.out) hb); have n2_ := ka (hbox); have n3_ := ka ((by rw [hg]; exact (below_size (kw HB.out)) : w.heap.size ≤ gb351)); have n4_ := n3_; have n5_ := ka ((by rw [hg]; exact Nat.ne_of_lt (blk_lt (g := gb346) (kz BK346.out)) : gb346 ≠ gb351)); have n6_ := ka n5_.out.symm; clear BK346; clear HB; have BK346 := n0_; have HB := n1_; have BK351 := n2_; have GW351 := n3_; have GE351 := n4_; have NB346_351 := n5_; have NB351_346 := n6_; clear n0_ n1_ n2_ n3_ n4_ n5_ n6_; clear hb hbox hg; have hnb99 := NB351_346.out; have hnc99 := NB346_351.out; have hcz100 := blkAll3 BK351.out; have hcz101 := blkAll15 BK346.out) | ((with_reducible refine gate_callee (f := 29) rfl ?_); refine kg (some 14) rfl rfl Try.func29 (by kernel_rfl) rfl #[.agg #[.int .i64 a0_0, .int .i64 a0_1, .int .i64 a0_2, .int .i64 a0_3, .int .i64 a0_4, .int .i64 a0_5, .int .i64 a0_6, .int .i64 a0_7, .int .i64 a0_8]] rfl ?_; (with_reducible refine (trivetref11_May_s.calls a0_0 a0_1 a0_2 a0_3 a0_4 a0_5 a0_6 a0_7 a0_8 t352 _ A3.out).mono ?_); rintro e w102 ⟨rfl, hb⟩; refine ⟨_, rfl, ?_⟩; have n0_ := ka (blk_below (g := gb346) (o := .cells #[.int .i64 a0_0, .int .i64 a0_1, .int .i64 a0_2, .int .i64 a0_3, .int .i64 a0_4, .int .i64 a0_5, .int .i64 a0_6, .int .i64 a0_7, .int .i64 a0_8, .int .i64 a0_9, .int .i64 a0_10, .int .i64 a0_11, .int .i64 a0_12, .int .i64 a0_13, .int .i64 a0_14] 25 (0, 0)) (by (with_reducible repeat (first | apply kb1 | apply kb2 | apply kb3 | refine kb4 ?_ NB346_351.out _)); exact BK346.out) hb); have n1_ := ka (blk_below (g := gb351) (o := .cells #[.int .i64 t347, .int .i64 t348, .int .i64 t349] 53 (0, 0)) (by (with_reducible repeat (first | apply kb1 | apply kb2 | apply kb3 | apply blkPut3_2 | apply blkPut3_1 | apply blkPut3_0)); exact BK351.out) hb); have n2_ := ka (below_step (kw HB.out) hb); clear BK346; clear BK351; clear HB; have BK346 := n0_; have BK351 := n1_; have HB := n2_; clear n0_ n1_ n2_; (try clear hb); (try clear hb2); (try clear hk); (try clear hi); have hcz103 := blkAll3 BK351.out))
   go_ret
   exact ⟨by first | rfl | (simp [errW_none, errW_some] <;> rfl) | (simp [*, errW_none, errW_some] <;> rfl), by repeat (first | (with_reducible first | exact HB.out | apply kc1 | apply kc2 | apply kc3 | refine kc4 ?_ GE346.out | refine kc4 ?_ GE351.out) | exact HB.out)⟩
 ·replace c4 := Bool.eq_false_iff.mpr c4
  subst c4
  have H1 : (some false) = some r := by rw [if_neg (show ¬ (false = true) by decide)] at H; exact H
  clear H
  have H := H1
  clear H1
  obtain rfl := Option.some.inj H
  go_enter Try.func15, Try.ntmps15
  go_wp2_with (first | ((with_reducible refine gate_dst (N := 1) rfl ?_); refine kx (N := 1) (cs := #[.int .i64 a0_0, .int .i64 a0_1, .int .i64 a0_2, .int .i64 a0_3, .int .i64 a0_4, .int .i64 a0_5, .int .i64 a0_6, .int .i64 a0_7, .int .i64 a0_8, .int .i64 a0_9, .int .i64 a0_10, .int .i64 a0_11, .int .i64 a0_12, .int .i64 a0_13, .int .i64 a0_14]) (t := 25) ?_; intro gb346 hg w104 hbox hb; have n0_ := ka (below_step (kw HB.out) hb); have n1_ := ka (hbox); have n2_ := ka ((by rw [hg]; exact (below_size (kw HB.out)) : w.heap.size ≤ gb346)); have n3_ := n2_; clear HB; have HB := n0_; have BK346 := n1_; have GW346 := n2_; have GE346 := n3_; clear n0_ n1_ n2_ n3_; clear hb hbox hg; have hcz105 := blkAll15 BK346.out) | ((with_reducible refine gate_callee (f := 24) rfl ?_); refine kg (some 9) rfl rfl Try.func24 (by kernel_rfl) rfl #[.int .i64 a0_11] rfl ?_; (with_reducible refine (trivetref04_Of_s.calls a0_11 t347 t348 t349 false _ A2.out).mono ?_); rintro e w106 ⟨rfl, hb⟩; refine ⟨_, rfl, ?_⟩; have n0_ := ka (blk_below (g := gb346) (kz BK346.out) hb); have n1_ := ka (below_step (kw HB.out) hb); clear BK346; clear HB; have BK346 := n0_; have HB := n1_; clear n0_ n1_; (try clear hb); (try clear hb2); (try clear hk); (try clear hi)) | ((with_reducible refine gate_dst (N := 3) rfl ?_); refine kx (N := 3) (cs := #[.int .i64 0, .int .i64 0, .int .i64 0]) (t := 53) ?_; intro gb351 hg w107 hbox hb; have n0_ := ka (blk_below (g := gb346) (kz BK346.out) hb); have n1_ := ka (below_step (kw HB.out) hb); have n2_ := ka (hbox); have n3_ := ka ((by rw [hg]; exact (below_size (kw HB.out)) : w.heap.size ≤ gb351)); have n4_ := n3_; have n5_ := ka ((by rw [hg]; exact Nat.ne_of_lt (blk_lt (g := gb346) (kz BK346.out)) : gb346 ≠ gb351)); have n6_ := ka n5_.out.symm; clear BK346; clear HB; have BK346 := n0_; have HB := n1_; have BK351 := n2_; have GW351 := n3_; have GE351 := n4_; have NB346_351 := n5_; have NB351_346 := n6_; clear n0_ n1_ n2_ n3_ n4_ n5_ n6_; clear hb hbox hg; have hnb108 := NB351_346.out; have hnc108 := NB346_351.out; have hcz109 := blkAll3 BK351.out; have hcz110 := blkAll15 BK346.out) | ((with_reducible refine gate_callee (f := 29) rfl ?_); refine kg (some 14) rfl rfl Try.func29 (by kernel_rfl) rfl #[.agg #[.int .i64 a0_0, .int .i64 a0_1, .int .i64 a0_2, .int .i64 a0_3, .int .i64 a0_4, .int .i64 a0_5, .int .i64 a0_6, .int .i64 a0_7, .int .i64 a0_8]] rfl ?_; (with_reducible refine (trivetref11_May_s.calls a0_0 a0_1 a0_2 a0_3 a0_4 a0_5 a0_6 a0_7 a0_8 t352 _ A3.out).mono ?_); rintro e w111 ⟨rfl, hb⟩; refine ⟨_, rfl, ?_⟩; have n0_ := ka (blk_below (g := gb346) (o := .cells #[.int .i64 a0_0, .int .i64 a0_1, .int .i64 a0_2, .int .i64 a0_3, .int .i64 a0_4, .int .i64 a0_5, .int .i64 a0_6, .int .i64 a0_7, .int .i64 a0_8, .int .i64 a0_9, .int .i64 a0_10, .int .i64 a0_11, .int .i64 a0_12, .int .i64 a0_13, .int .i64 a0_14] 25 (0, 0)) (by (with_reducible repeat (first | apply kb1 | apply kb2 | apply kb3 | refine kb4 ?_ NB346_351.out _)); exact BK346.out) hb); have n1_ := ka (blk_below (g := gb351) (o := .cells #[.int .i64 t347, .int .i64 t348, .int .i64 t349] 53 (0, 0)) (by (with_reducible repeat (first | apply kb1 | apply kb2 | apply kb3 | apply blkPut3_2 | apply blkPut3_1 | apply blkPut3_0)); exact BK351.out) hb); have n2_ := ka (below_step (kw HB.out) hb); clear BK346; clear BK351; clear HB; have BK346 := n0_; have BK351 := n1_; have HB := n2_; clear n0_ n1_ n2_; (try clear hb); (try clear hb2); (try clear hk); (try clear hi)))
  go_ret
  exact ⟨by first | rfl | (simp [errW_none, errW_some] <;> rfl) | (simp [*, errW_none, errW_some] <;> rfl), by repeat (first | (with_reducible first | exact HB.out | apply kc1 | apply kc2 | apply kc3 | refine kc4 ?_ GE346.out | refine kc4 ?_ GE351.out) | exact HB.out)⟩

/-! ### trivetref13_May_s: function 15, told plainly -/
theorem trivetref13_May.tells (b r m f e i w fe g bal lvl du cnt sus late : Int) (h : M.In f ∧ M.In fe ∧ M.In g ∧ M.In du) : trivetref13_May.f b r m f e i w fe g bal lvl du cnt sus late = some (decide (M.loanOk b r m f e i w fe g bal lvl du cnt sus late)) := by
 have out : ¬ M.loanOk b r m f e i w fe g bal lvl du cnt sus late → (some false : Option Bool) = some (decide (M.loanOk b r m f e i w fe g bal lvl du cnt sus late)) := fun hn => by rw [decide_eq_false hn]
 unfold trivetref13_May.f
 by_cases h1 : -25567 ≤ du ∧ du ≤ 84005
 case neg =>
  rw [trivetref04_Of_s.no h.2.2.2 h1, Option.bind_some, trivetref11_May_s.at_ ⟨h.1, h.2.1, h.2.2.1⟩, Option.bind_some, if_neg (by decide)]
  exact out (fun hh => h1 ⟨hh.2.1.1, hh.2.1.2.1⟩)
 rw [trivetref04_Of_s.yes h1, Option.bind_some, trivetref11_May_s.at_ ⟨h.1, h.2.1, h.2.2.1⟩, Option.bind_some, if_pos (show (true = true) from rfl)]
 by_cases h2 : M.dy du = 1
 case neg => rw [if_neg h2]; exact out (fun hh => h2 hh.2.1.2.2)
 rw [if_pos h2]
 by_cases h3 : M.termsOk b r m f e i w fe g
 case neg => rw [if_neg (by simpa using h3)]; exact out (fun hh => h3 hh.1)
 rw [if_pos (decide_eq_true h3), trivetref13_money_s.at_, Option.bind_some]
 by_cases h4 : M.cent bal
 case neg => rw [if_neg (by simpa using h4)]; exact out (fun hh => h4 hh.2.2.1)
 rw [if_pos (decide_eq_true h4)]
 by_cases h5 : lvl ≥ 1
 case neg => rw [if_neg h5]; exact out (fun hh => h5 hh.2.2.2.1)
 rw [if_pos h5]
 by_cases h6 : lvl ≤ 20000000000000
 case neg => rw [if_neg h6]; exact out (fun hh => h6 hh.2.2.2.2.1)
 rw [if_pos h6]
 by_cases h7 : cnt ≥ 0
 case neg => rw [if_neg h7]; exact out (fun hh => h7 hh.2.2.2.2.2.1)
 rw [if_pos h7]
 by_cases h8 : cnt ≤ 480
 case neg => rw [if_neg h8]; exact out (fun hh => h8 hh.2.2.2.2.2.2.1)
 rw [if_pos h8, trivetref13_money_s.at_, Option.bind_some]
 by_cases h9 : M.cent sus
 case neg => rw [if_neg (by simpa using h9)]; exact out (fun hh => h9 hh.2.2.2.2.2.2.2.1)
 rw [if_pos (decide_eq_true h9), trivetref13_money_s.at_, Option.bind_some]
 refine congrArg some (decide_eq_decide.mpr ⟨fun hc => ⟨h3, ⟨h1.1, h1.2, h2⟩, h4, h5, h6, h7, h8, h9, hc⟩, fun hh => hh.2.2.2.2.2.2.2.2⟩)
def trivetref13_May_s.f (b r m f e i w fe g bal lvl du cnt sus late : Int) : Option Bool := if M.In f ∧ M.In fe ∧ M.In g ∧ M.In du then some (decide (M.loanOk b r m f e i w fe g bal lvl du cnt sus late)) else none
theorem trivetref13_May_s.calls (a0_0 : Int) (a0_1 : Int) (a0_2 : Int) (a0_3 : Int) (a0_4 : Int) (a0_5 : Int) (a0_6 : Int) (a0_7 : Int) (a0_8 : Int) (a0_9 : Int) (a0_10 : Int) (a0_11 : Int) (a0_12 : Int) (a0_13 : Int) (a0_14 : Int) (r : Bool) (w : World) (h : trivetref13_May_s.f a0_0 a0_1 a0_2 a0_3 a0_4 a0_5 a0_6 a0_7 a0_8 a0_9 a0_10 a0_11 a0_12 a0_13 a0_14 = some r) :
  Calls Try.prog 15 #[.agg #[.int .i64 a0_0, .int .i64 a0_1, .int .i64 a0_2, .int .i64 a0_3, .int .i64 a0_4, .int .i64 a0_5, .int .i64 a0_6, .int .i64 a0_7, .int .i64 a0_8, .int .i64 a0_9, .int .i64 a0_10, .int .i64 a0_11, .int .i64 a0_12, .int .i64 a0_13, .int .i64 a0_14]] w fun e w' => e = .returned (.bool r) ∧ Below w.heap.size w w' := by
 unfold trivetref13_May_s.f at h
 split at h
 ·rename_i hr
  exact trivetref13_May.calls a0_0 a0_1 a0_2 a0_3 a0_4 a0_5 a0_6 a0_7 a0_8 a0_9 a0_10 a0_11 a0_12 a0_13 a0_14 r w ((trivetref13_May.tells a0_0 a0_1 a0_2 a0_3 a0_4 a0_5 a0_6 a0_7 a0_8 a0_9 a0_10 a0_11 a0_12 a0_13 a0_14 hr).trans h)
 ·cases h
theorem trivetref13_May_s.at_ {b r m f e i w fe g bal lvl du cnt sus late : Int} (h : M.In f ∧ M.In fe ∧ M.In g ∧ M.In du) : trivetref13_May_s.f b r m f e i w fe g bal lvl du cnt sus late = some (decide (M.loanOk b r m f e i w fe g bal lvl du cnt sus late)) := by unfold trivetref13_May_s.f; rw [if_pos h]

/-! ### trivetref13_Asked: function 12 -/
def trivetref13_Asked.f (a0_0 : Int) (a0_1 : Int) (a0_2 : Int) (a0_3 : Int) (a0_4 : Int) (a0_5 : Int) (a0_6 : Int) (a0_7 : Int) (a0_8 : Int) (a0_9 : Int) (a0_10 : Int) (a0_11 : Int) (a0_12 : Int) (a0_13 : Int) (a0_14 : Int) (a1 : Int) (a2 : Int) : Option (Bool) := (trivetref04_Of_s.f a1).bind fun bt357 => ((trivetref13_May_s.f a0_0 a0_1 a0_2 a0_3 a0_4 a0_5 a0_6 a0_7 a0_8 a0_9 a0_10 a0_11 a0_12 a0_13 a0_14).bind fun t362 => (if bt357.2.2.2 = true then (if t362 = true then (if a2 ≥ 1 then (some (decide (a2 ≤ 10000000000000))) else (some false)) else (some false)) else (some false)))
set_option maxHeartbeats 8000000 in
set_option maxRecDepth 100000 in
theorem trivetref13_Asked.calls (a0_0 : Int) (a0_1 : Int) (a0_2 : Int) (a0_3 : Int) (a0_4 : Int) (a0_5 : Int) (a0_6 : Int) (a0_7 : Int) (a0_8 : Int) (a0_9 : Int) (a0_10 : Int) (a0_11 : Int) (a0_12 : Int) (a0_13 : Int) (a0_14 : Int) (a1 : Int) (a2 : Int) (r : Bool) (w : World) (h : trivetref13_Asked.f a0_0 a0_1 a0_2 a0_3 a0_4 a0_5 a0_6 a0_7 a0_8 a0_9 a0_10 a0_11 a0_12 a0_13 a0_14 a1 a2 = some r) :
  Calls Try.prog 12 #[.agg #[.int .i64 a0_0, .int .i64 a0_1, .int .i64 a0_2, .int .i64 a0_3, .int .i64 a0_4, .int .i64 a0_5, .int .i64 a0_6, .int .i64 a0_7, .int .i64 a0_8, .int .i64 a0_9, .int .i64 a0_10, .int .i64 a0_11, .int .i64 a0_12, .int .i64 a0_13, .int .i64 a0_14], .int .i64 a1, .int .i64 a2] w fun e w' => e = .returned (.bool r) ∧ Below w.heap.size w w' := by
 have hu25 := Try.underlying25
 have hu53 := Try.underlying53
 have HB := ka (Below.refl w.heap.size w)
 have H : ((trivetref04_Of_s.f a1).bind fun bt357 => ((trivetref13_May_s.f a0_0 a0_1 a0_2 a0_3 a0_4 a0_5 a0_6 a0_7 a0_8 a0_9 a0_10 a0_11 a0_12 a0_13 a0_14).bind fun t362 => (if bt357.2.2.2 = true then (if t362 = true then (if a2 ≥ 1 then (some (decide (a2 ≤ 10000000000000))) else (some false)) else (some false)) else (some false)))) = some r := h
 clear h
 replace H := Option.bind_eq_some_iff.mp H
 obtain ⟨⟨t357, t358, t359, t360⟩, A40, H⟩ := H
 replace H : ((trivetref13_May_s.f a0_0 a0_1 a0_2 a0_3 a0_4 a0_5 a0_6 a0_7 a0_8 a0_9 a0_10 a0_11 a0_12 a0_13 a0_14).bind fun t362 => (if t360 = true then (if t362 = true then (if a2 ≥ 1 then (some (decide (a2 ≤ 10000000000000))) else (some false)) else (some false)) else (some false))) = some r := H
 have A4 := ka A40
 clear A40
 replace H := Option.bind_eq_some_iff.mp H
 obtain ⟨t362, A50, H⟩ := H
 replace H : (if t360 = true then (if t362 = true then (if a2 ≥ 1 then (some (decide (a2 ≤ 10000000000000))) else (some false)) else (some false)) else (some false)) = some r := H
 have A5 := ka A50
 clear A50
 by_cases c6 : t360 = true
 ·subst c6
  have H1 : (if t362 = true then (if a2 ≥ 1 then (some (decide (a2 ≤ 10000000000000))) else (some false)) else (some false)) = some r := by rw [if_pos rfl] at H; exact H
  clear H
  have H := H1
  clear H1
  by_cases c7 : t362 = true
  ·subst c7
   have H1 : (if a2 ≥ 1 then (some (decide (a2 ≤ 10000000000000))) else (some false)) = some r := by rw [if_pos rfl] at H; exact H
   clear H
   have H := H1
   clear H1
   by_cases c8 : a2 ≥ 1
   ·rw [if_pos c8] at H
    have c8b0 : decide (1 ≤ a2) = true := decide_eq_true c8
    clear c8
    obtain rfl := Option.some.inj H
    go_enter Try.func12, Try.ntmps12
    go_wp2_with (first | ((with_reducible refine gate_dst (N := 3) rfl ?_); refine kx (N := 3) (cs := #[.int .i64 a0_0, .int .i64 a0_1, .int .i64 a0_2, .int .i64 a0_3, .int .i64 a0_4, .int .i64 a0_5, .int .i64 a0_6, .int .i64 a0_7, .int .i64 a0_8, .int .i64 a0_9, .int .i64 a0_10, .int .i64 a0_11, .int .i64 a0_12, .int .i64 a0_13, .int .i64 a0_14]) (t := 25) ?_; intro gb356 hg w9 hbox hb; have n0_ := ka (below_step (kw HB.out) hb); have n1_ := ka (hbox); have n2_ := ka ((by rw [hg]; exact (below_size (kw HB.out)) : w.heap.size ≤ gb356)); have n3_ := n2_; clear HB; have HB := n0_; have BK356 := n1_; have GW356 := n2_; have GE356 := n3_; clear n0_ n1_ n2_ n3_; clear hb hbox hg) | ((with_reducible refine gate_callee (f := 24) rfl ?_); refine kg (some 12) rfl rfl Try.func24 (by kernel_rfl) rfl #[.int .i64 a1] rfl ?_; (with_reducible refine (trivetref04_Of_s.calls a1 t357 t358 t359 true _ A4.out).mono ?_); rintro e w10 ⟨rfl, hb⟩; refine ⟨_, rfl, ?_⟩; have n0_ := ka (blk_below (g := gb356) (kz BK356.out) hb); have n1_ := ka (below_step (kw HB.out) hb); clear BK356; clear HB; have BK356 := n0_; have HB := n1_; clear n0_ n1_; (try clear hb); (try clear hb2); (try clear hk); (try clear hi)) | ((with_reducible refine gate_dst (N := 7) rfl ?_); refine kx (N := 7) (cs := #[.int .i64 0, .int .i64 0, .int .i64 0]) (t := 53) ?_; intro gb361 hg w11 hbox hb; have n0_ := ka (blk_below (g := gb356) (kz BK356.out) hb); have n1_ := ka (below_step (kw HB.out) hb); have n2_ := ka (hbox); have n3_ := ka ((by rw [hg]; exact (below_size (kw HB.out)) : w.heap.size ≤ gb361)); have n4_ := n3_; have n5_ := ka ((by rw [hg]; exact Nat.ne_of_lt (blk_lt (g := gb356) (kz BK356.out)) : gb356 ≠ gb361)); have n6_ := ka n5_.out.symm; clear BK356; clear HB; have BK356 := n0_; have HB := n1_; have BK361 := n2_; have GW361 := n3_; have GE361 := n4_; have NB356_361 := n5_; have NB361_356 := n6_; clear n0_ n1_ n2_ n3_ n4_ n5_ n6_; clear hb hbox hg; have hnb12 := NB361_356.out; have hnc12 := NB356_361.out; have hcz13 := blkAll3 BK361.out; have hcz14 := blkAll15 BK356.out) | ((with_reducible refine gate_callee (f := 15) rfl ?_); refine kg (some 16) rfl rfl Try.func15 (by kernel_rfl) rfl #[.agg #[.int .i64 a0_0, .int .i64 a0_1, .int .i64 a0_2, .int .i64 a0_3, .int .i64 a0_4, .int .i64 a0_5, .int .i64 a0_6, .int .i64 a0_7, .int .i64 a0_8, .int .i64 a0_9, .int .i64 a0_10, .int .i64 a0_11, .int .i64 a0_12, .int .i64 a0_13, .int .i64 a0_14]] rfl ?_; (with_reducible refine (trivetref13_May_s.calls a0_0 a0_1 a0_2 a0_3 a0_4 a0_5 a0_6 a0_7 a0_8 a0_9 a0_10 a0_11 a0_12 a0_13 a0_14 true _ A5.out).mono ?_); rintro e w15 ⟨rfl, hb⟩; refine ⟨_, rfl, ?_⟩; have n0_ := ka (blk_below (g := gb356) (o := .cells #[.int .i64 a0_0, .int .i64 a0_1, .int .i64 a0_2, .int .i64 a0_3, .int .i64 a0_4, .int .i64 a0_5, .int .i64 a0_6, .int .i64 a0_7, .int .i64 a0_8, .int .i64 a0_9, .int .i64 a0_10, .int .i64 a0_11, .int .i64 a0_12, .int .i64 a0_13, .int .i64 a0_14] 25 (0, 0)) (by (with_reducible repeat (first | apply kb1 | apply kb2 | apply kb3 | refine kb4 ?_ NB356_361.out _)); exact BK356.out) hb); have n1_ := ka (blk_below (g := gb361) (o := .cells #[.int .i64 t357, .int .i64 t358, .int .i64 t359] 53 (0, 0)) (by (with_reducible repeat (first | apply kb1 | apply kb2 | apply kb3 | apply blkPut3_2 | apply blkPut3_1 | apply blkPut3_0)); exact BK361.out) hb); have n2_ := ka (below_step (kw HB.out) hb); clear BK356; clear BK361; clear HB; have BK356 := n0_; have BK361 := n1_; have HB := n2_; clear n0_ n1_ n2_; (try clear hb); (try clear hb2); (try clear hk); (try clear hi)) | ((with_reducible refine gate_load (T := 25) rfl ?_); first | refine load_event (g := gb356) rfl rfl rfl Try.underlying25 rfl (by (with_reducible repeat (first | apply kb1 | apply kb2 | apply kb3)); with_reducible exact BK356.out) (by kernel_rfl) ?_))
    go_ret
    exact ⟨by first | rfl | (simp [errW_none, errW_some] <;> rfl) | (simp [*, errW_none, errW_some] <;> rfl), by repeat (first | (with_reducible first | exact HB.out | apply kc1 | apply kc2 | apply kc3 | refine kc4 ?_ GE356.out | refine kc4 ?_ GE361.out) | exact HB.out)⟩
   ·rw [if_neg c8] at H
    have c8b0 : decide (1 ≤ a2) = false := decide_eq_false c8
    clear c8
    obtain rfl := Option.some.inj H
    go_enter Try.func12, Try.ntmps12
    go_wp2_with (first | ((with_reducible refine gate_dst (N := 3) rfl ?_); refine kx (N := 3) (cs := #[.int .i64 a0_0, .int .i64 a0_1, .int .i64 a0_2, .int .i64 a0_3, .int .i64 a0_4, .int .i64 a0_5, .int .i64 a0_6, .int .i64 a0_7, .int .i64 a0_8, .int .i64 a0_9, .int .i64 a0_10, .int .i64 a0_11, .int .i64 a0_12, .int .i64 a0_13, .int .i64 a0_14]) (t := 25) ?_; intro gb356 hg w16 hbox hb; have n0_ := ka (below_step (kw HB.out) hb); have n1_ := ka (hbox); have n2_ := ka ((by rw [hg]; exact (below_size (kw HB.out)) : w.heap.size ≤ gb356)); have n3_ := n2_; clear HB; have HB := n0_; have BK356 := n1_; have GW356 := n2_; have GE356 := n3_; clear n0_ n1_ n2_ n3_; clear hb hbox hg) | ((with_reducible refine gate_callee (f := 24) rfl ?_); refine kg (some 12) rfl rfl Try.func24 (by kernel_rfl) rfl #[.int .i64 a1] rfl ?_; (with_reducible refine (trivetref04_Of_s.calls a1 t357 t358 t359 true _ A4.out).mono ?_); rintro e w17 ⟨rfl, hb⟩; refine ⟨_, rfl, ?_⟩; have n0_ := ka (blk_below (g := gb356) (kz BK356.out) hb); have n1_ := ka (below_step (kw HB.out) hb); clear BK356; clear HB; have BK356 := n0_; have HB := n1_; clear n0_ n1_; (try clear hb); (try clear hb2); (try clear hk); (try clear hi)) | ((with_reducible refine gate_dst (N := 7) rfl ?_); refine kx (N := 7) (cs := #[.int .i64 0, .int .i64 0, .int .i64 0]) (t := 53) ?_; intro gb361 hg w18 hbox hb; have n0_ := ka (blk_below (g := gb356) (kz BK356.out) hb); have n1_ := ka (below_step (kw HB.out) hb); have n2_ := ka (hbox); have n3_ := ka ((by rw [hg]; exact (below_size (kw HB.out)) : w.heap.size ≤ gb361)); have n4_ := n3_; have n5_ := ka ((by rw [hg]; exact Nat.ne_of_lt (blk_lt (g := gb356) (kz BK356.out)) : gb356 ≠ gb361)); have n6_ := ka n5_.out.symm; clear BK356; clear HB; have BK356 := n0_; have HB := n1_; have BK361 := n2_; have GW361 := n3_; have GE361 := n4_; have NB356_361 := n5_; have NB361_356 := n6_; clear n0_ n1_ n2_ n3_ n4_ n5_ n6_; clear hb hbox hg; have hnb19 := NB361_356.out; have hnc19 := NB356_361.out; have hcz20 := blkAll3 BK361.out; have hcz21 := blkAll15 BK356.out) | ((with_reducible refine gate_callee (f := 15) rfl ?_); refine kg (some 16) rfl rfl Try.func15 (by kernel_rfl) rfl #[.agg #[.int .i64 a0_0, .int .i64 a0_1, .int .i64 a0_2, .int .i64 a0_3, .int .i64 a0_4, .int .i64 a0_5, .int .i64 a0_6, .int .i64 a0_7, .int .i64 a0_8, .int .i64 a0_9, .int .i64 a0_10, .int .i64 a0_11, .int .i64 a0_12, .int .i64 a0_13, .int .i64 a0_14]] rfl ?_; (with_reducible refine (trivetref13_May_s.calls a0_0 a0_1 a0_2 a0_3 a0_4 a0_5 a0_6 a0_7 a0_8 a0_9 a0_10 a0_11 a0_12 a0_13 a0_14 true _ A5.out).mono ?_); rintro e w22 ⟨rfl, hb⟩; refine ⟨_, rfl, ?_⟩; have n0_ := ka (blk_below (g := gb356) (o := .cells #[.int .i64 a0_0, .int .i64 a0_1, .int .i64 a0_2, .int .i64 a0_3, .int .i64 a0_4, .int .i64 a0_5, .int .i64 a0_6, .int .i64 a0_7, .int .i64 a0_8, .int .i64 a0_9, .int .i64 a0_10, .int .i64 a0_11, .int .i64 a0_12, .int .i64 a0_13, .int .i64 a0_14] 25 (0, 0)) (by (with_reducible repeat (first | apply kb1 | apply kb2 | apply kb3 | refine kb4 ?_ NB356_361.out _)); exact BK356.out) hb); have n1_ := ka (blk_below (g := gb361) (o := .cells #[.int .i64 t357, .int .i64 t358, .int .i64 t359] 53 (0, 0)) (by (with_reducible repeat (first | apply kb1 | apply kb2 | apply kb3 | apply blkPut3_2 | apply blkPut3_1 | apply blkPut3_0)); exact BK361.out) hb); have n2_ := ka (below_step (kw HB.out) hb); clear BK356; clear BK361; clear HB; have BK356 := n0_; have BK361 := n1_; have HB := n2_; clear n0_ n1_ n2_; (try clear hb); (try clear hb2); (try clear hk); (try clear hi)) | ((with_reducible refine gate_load (T := 25) rfl ?_); first | refine load_event (g := gb356) rfl rfl rfl Try.underlying25 rfl (by (with_reducible repeat (first | apply kb1 | apply kb2 | apply kb3)); with_reducible exact BK356.out) (by kernel_rfl) ?_))
    go_ret
    exact ⟨by first | rfl | (simp [errW_none, errW_some] <;> rfl) | (simp [*, errW_none, errW_some] <;> rfl), by repeat (first | (with_reducible first | exact HB.out | apply kc1 | apply kc2 | apply kc3 | refine kc4 ?_ GE356.out | refine kc4 ?_ GE361.out) | exact HB.out)⟩
  ·replace c7 := Bool.eq_false_iff.mpr c7
   subst c7
   have H1 : (some false) = some r := by rw [if_neg (show ¬ (false = true) by decide)] at H; exact H
   clear H
   have H := H1
   clear H1
   obtain rfl := Option.some.inj H
   go_enter Try.func12, Try.ntmps12
   go_wp2_with (first | ((with_reducible refine gate_dst (N := 3) rfl ?_); refine kx (N := 3) (cs := #[.int .i64 a0_0, .int .i64 a0_1, .int .i64 a0_2, .int .i64 a0_3, .int .i64 a0_4, .int .i64 a0_5, .int .i64 a0_6, .int .i64 a0_7, .int .i64 a0_8, .int .i64 a0_9, .int .i64 a0_10, .int .i64 a0_11, .int .i64 a0_12, .int .i64 a0_13, .int .i64 a0_14]) (t := 25) ?_; intro gb356 hg w23 hbox hb; have n0_ := ka (below_step (kw HB.out) hb); have n1_ := ka (hbox); have n2_ := ka ((by rw [hg]; exact (below_size (kw HB.out)) : w.heap.size ≤ gb356)); have n3_ := n2_; clear HB; have HB := n0_; have BK356 := n1_; have GW356 := n2_; have GE356 := n3_; clear n0_ n1_ n2_ n3_; clear hb hbox hg) | ((with_reducible refine gate_callee (f := 24) rfl ?_); refine kg (some 12) rfl rfl Try.func24 (by kernel_rfl) rfl #[.int .i64 a1] rfl ?_; (with_reducible refine (trivetref04_Of_s.calls a1 t357 t358 t359 true _ A4.out).mono ?_); rintro e w24 ⟨rfl, hb⟩; refine ⟨_, rfl, ?_⟩; have n0_ := ka (blk_below (g := gb356) (kz BK356.out) hb); have n1_ := ka (below_step (kw HB.out) hb); clear BK356; clear HB; have BK356 := n0_; have HB := n1_; clear n0_ n1_; (try clear hb); (try clear hb2); (try clear hk); (try clear hi)) | ((with_reducible refine gate_dst (N := 7) rfl ?_); refine kx (N := 7) (cs := #[.int .i64 0, .int .i64 0, .int .i64 0]) (t := 53) ?_; intro gb361 hg w25 hbox hb; have n0_ := ka (blk_below (g := gb356) (kz BK356.out) hb); have n1_ := ka (below_step (kw HB.out) hb); have n2_ := ka (hbox); have n3_ := ka ((by rw [hg]; exact (below_size (kw HB.out)) : w.heap.size ≤ gb361)); have n4_ := n3_; have n5_ := ka ((by rw [hg]; exact Nat.ne_of_lt (blk_lt (g := gb356) (kz BK356.out)) : gb356 ≠ gb361)); have n6_ := ka n5_.out.symm; clear BK356; clear HB; have BK356 := n0_; have HB := n1_; have BK361 := n2_; have GW361 := n3_; have GE361 := n4_; have NB356_361 := n5_; have NB361_356 := n6_; clear n0_ n1_ n2_ n3_ n4_ n5_ n6_; clear hb hbox hg; have hnb26 := NB361_356.out; have hnc26 := NB356_361.out; have hcz27 := blkAll3 BK361.out; have hcz28 := blkAll15 BK356.out) | ((with_reducible refine gate_callee (f := 15) rfl ?_); refine kg (some 16) rfl rfl Try.func15 (by kernel_rfl) rfl #[.agg #[.int .i64 a0_0, .int .i64 a0_1, .int .i64 a0_2, .int .i64 a0_3, .int .i64 a0_4, .int .i64 a0_5, .int .i64 a0_6, .int .i64 a0_7, .int .i64 a0_8, .int .i64 a0_9, .int .i64 a0_10, .int .i64 a0_11, .int .i64 a0_12, .int .i64 a0_13, .int .i64 a0_14]] rfl ?_; (with_reducible refine (trivetref13_May_s.calls a0_0 a0_1 a0_2 a0_3 a0_4 a0_5 a0_6 a0_7 a0_8 a0_9 a0_10 a0_11 a0_12 a0_13 a0_14 false _ A5.out).mono ?_); rintro e w29 ⟨rfl, hb⟩; refine ⟨_, rfl, ?_⟩; have n0_ := ka (blk_below (g := gb356) (o := .cells #[.int .i64 a0_0, .int .i64 a0_1, .int .i64 a0_2, .int .i64 a0_3, .int .i64 a0_4, .int .i64 a0_5, .int .i64 a0_6, .int .i64 a0_7, .int .i64 a0_8, .int .i64 a0_9, .int .i64 a0_10, .int .i64 a0_11, .int .i64 a0_12, .int .i64 a0_13, .int .i64 a0_14] 25 (0, 0)) (by (with_reducible repeat (first | apply kb1 | apply kb2 | apply kb3 | refine kb4 ?_ NB356_361.out _)); exact BK356.out) hb); have n1_ := ka (blk_below (g := gb361) (o := .cells #[.int .i64 t357, .int .i64 t358, .int .i64 t359] 53 (0, 0)) (by (with_reducible repeat (first | apply kb1 | apply kb2 | apply kb3 | apply blkPut3_2 | apply blkPut3_1 | apply blkPut3_0)); exact BK361.out) hb); have n2_ := ka (below_step (kw HB.out) hb); clear BK356; clear BK361; clear HB; have BK356 := n0_; have BK361 := n1_; have HB := n2_; clear n0_ n1_ n2_; (try clear hb); (try clear hb2); (try clear hk); (try clear hi)) | ((with_reducible refine gate_load (T := 25) rfl ?_); first | refine load_event (g := gb356) rfl rfl rfl Try.underlying25 rfl (by (with_reducible repeat (first | apply kb1 | apply kb2 | apply kb3)); with_reducible exact BK356.out) (by kernel_rfl) ?_))
   go_ret
   exact ⟨by first | rfl | (simp [errW_none, errW_some] <;> rfl) | (simp [*, errW_none, errW_some] <;> rfl), by repeat (first | (with_reducible first | exact HB.out | apply kc1 | apply kc2 | apply kc3 | refine kc4 ?_ GE356.out | refine kc4 ?_ GE361.out) | exact HB.out)⟩
 ·replace c6 := Bool.eq_false_iff.mpr c6
  subst c6
  have H1 : (some false) = some r := by rw [if_neg (show ¬ (false = true) by decide)] at H; exact H
  clear H
  have H := H1
  clear H1
  obtain rfl := Option.some.inj H
  go_enter Try.func12, Try.ntmps12
  go_wp2_with (first | ((with_reducible refine gate_dst (N := 3) rfl ?_); refine kx (N := 3) (cs := #[.int .i64 a0_0, .int .i64 a0_1, .int .i64 a0_2, .int .i64 a0_3, .int .i64 a0_4, .int .i64 a0_5, .int .i64 a0_6, .int .i64 a0_7, .int .i64 a0_8, .int .i64 a0_9, .int .i64 a0_10, .int .i64 a0_11, .int .i64 a0_12, .int .i64 a0_13, .int .i64 a0_14]) (t := 25) ?_; intro gb356 hg w30 hbox hb; have n0_ := ka (below_step (kw HB.out) hb); have n1_ := ka (hbox); have n2_ := ka ((by rw [hg]; exact (below_size (kw HB.out)) : w.heap.size ≤ gb356)); have n3_ := n2_; clear HB; have HB := n0_; have BK356 := n1_; have GW356 := n2_; have GE356 := n3_; clear n0_ n1_ n2_ n3_; clear hb hbox hg) | ((with_reducible refine gate_callee (f := 24) rfl ?_); refine kg (some 12) rfl rfl Try.func24 (by kernel_rfl) rfl #[.int .i64 a1] rfl ?_; (with_reducible refine (trivetref04_Of_s.calls a1 t357 t358 t359 false _ A4.out).mono ?_); rintro e w31 ⟨rfl, hb⟩; refine ⟨_, rfl, ?_⟩; have n0_ := ka (blk_below (g := gb356) (kz BK356.out) hb); have n1_ := ka (below_step (kw HB.out) hb); clear BK356; clear HB; have BK356 := n0_; have HB := n1_; clear n0_ n1_; (try clear hb); (try clear hb2); (try clear hk); (try clear hi)) | ((with_reducible refine gate_dst (N := 7) rfl ?_); refine kx (N := 7) (cs := #[.int .i64 0, .int .i64 0, .int .i64 0]) (t := 53) ?_; intro gb361 hg w32 hbox hb; have n0_ := ka (blk_below (g := gb356) (kz BK356.out) hb); have n1_ := ka (below_step (kw HB.out) hb); have n2_ := ka (hbox); have n3_ := ka ((by rw [hg]; exact (below_size (kw HB.out)) : w.heap.size ≤ gb361)); have n4_ := n3_; have n5_ := ka ((by rw [hg]; exact Nat.ne_of_lt (blk_lt (g := gb356) (kz BK356.out)) : gb356 ≠ gb361)); have n6_ := ka n5_.out.symm; clear BK356; clear HB; have BK356 := n0_; have HB := n1_; have BK361 := n2_; have GW361 := n3_; have GE361 := n4_; have NB356_361 := n5_; have NB361_356 := n6_; clear n0_ n1_ n2_ n3_ n4_ n5_ n6_; clear hb hbox hg; have hnb33 := NB361_356.out; have hnc33 := NB356_361.out; have hcz34 := blkAll3 BK361.out; have hcz35 := blkAll15 BK356.out) | ((with_reducible refine gate_callee (f := 15) rfl ?_); refine kg (some 16) rfl rfl Try.func15 (by kernel_rfl) rfl #[.agg #[.int .i64 a0_0, .int .i64 a0_1, .int .i64 a0_2, .int .i64 a0_3, .int .i64 a0_4, .int .i64 a0_5, .int .i64 a0_6, .int .i64 a0_7, .int .i64 a0_8, .int .i64 a0_9, .int .i64 a0_10, .int .i64 a0_11, .int .i64 a0_12, .int .i64 a0_13, .int .i64 a0_14]] rfl ?_; (with_reducible refine (trivetref13_May_s.calls a0_0 a0_1 a0_2 a0_3 a0_4 a0_5 a0_6 a0_7 a0_8 a0_9 a0_10 a0_11 a0_12 a0_13 a0_14 t362 _ A5.out).mono ?_); rintro e w36 ⟨rfl, hb⟩; refine ⟨_, rfl, ?_⟩; have n0_ := ka (blk_below (g := gb356) (o := .cells #[.int .i64 a0_0, .int .i64 a0_1, .int .i64 a0_2, .int .i64 a0_3, .int .i64 a0_4, .int .i64 a0_5, .int .i64 a0_6, .int .i64 a0_7, .int .i64 a0_8, .int .i64 a0_9, .int .i64 a0_10, .int .i64 a0_11, .int .i64 a0_12, .int .i64 a0_13, .int .i64 a0_14] 25 (0, 0)) (by (with_reducible repeat (first | apply kb1 | apply kb2 | apply kb3 | refine kb4 ?_ NB356_361.out _)); exact BK356.out) hb); have n1_ := ka (blk_below (g := gb361) (o := .cells #[.int .i64 t357, .int .i64 t358, .int .i64 t359] 53 (0, 0)) (by (with_reducible repeat (first | apply kb1 | apply kb2 | apply kb3 | apply blkPut3_2 | apply blkPut3_1 | apply blkPut3_0)); exact BK361.out) hb); have n2_ := ka (below_step (kw HB.out) hb); clear BK356; clear BK361; clear HB; have BK356 := n0_; have BK361 := n1_; have HB := n2_; clear n0_ n1_ n2_; (try clear hb); (try clear hb2); (try clear hk); (try clear hi)) | ((with_reducible refine gate_load (T := 25) rfl ?_); first | refine load_event (g := gb356) rfl rfl rfl Try.underlying25 rfl (by (with_reducible repeat (first | apply kb1 | apply kb2 | apply kb3)); with_reducible exact BK356.out) (by kernel_rfl) ?_))
  go_ret
  exact ⟨by first | rfl | (simp [errW_none, errW_some] <;> rfl) | (simp [*, errW_none, errW_some] <;> rfl), by repeat (first | (with_reducible first | exact HB.out | apply kc1 | apply kc2 | apply kc3 | refine kc4 ?_ GE356.out | refine kc4 ?_ GE361.out) | exact HB.out)⟩

/-! ### trivetref13_Asked_s: function 12, told plainly -/
theorem trivetref13_Asked.tells (b r m f e i w fe g bal lvl du cnt sus late day a : Int) (h : (M.In f ∧ M.In fe ∧ M.In g ∧ M.In du) ∧ M.In day) : trivetref13_Asked.f b r m f e i w fe g bal lvl du cnt sus late day a = some (decide (M.askOk b r m f e i w fe g bal lvl du cnt sus late day a)) := by
 have out : ¬ M.askOk b r m f e i w fe g bal lvl du cnt sus late day a → (some false : Option Bool) = some (decide (M.askOk b r m f e i w fe g bal lvl du cnt sus late day a)) := fun hn => by rw [decide_eq_false hn]
 unfold trivetref13_Asked.f
 by_cases h1 : -25567 ≤ day ∧ day ≤ 84005
 case neg =>
  rw [trivetref04_Of_s.no h.2 h1, Option.bind_some, trivetref13_May_s.at_ h.1, Option.bind_some, if_neg (by decide)]
  exact out (fun hh => h1 hh.2.1)
 rw [trivetref04_Of_s.yes h1, Option.bind_some, trivetref13_May_s.at_ h.1, Option.bind_some, if_pos (show (true = true) from rfl)]
 by_cases h2 : M.loanOk b r m f e i w fe g bal lvl du cnt sus late
 case neg => rw [if_neg (by simpa using h2)]; exact out (fun hh => h2 hh.1)
 rw [if_pos (decide_eq_true h2)]
 by_cases h3 : a ≥ 1
 case neg => rw [if_neg h3]; exact out (fun hh => h3 hh.2.2.1)
 rw [if_pos h3]
 refine congrArg some (decide_eq_decide.mpr ⟨fun hc => ⟨h2, h1, h3, hc⟩, fun hh => hh.2.2.2⟩)
def trivetref13_Asked_s.f (b r m f e i w fe g bal lvl du cnt sus late day a : Int) : Option Bool := if (M.In f ∧ M.In fe ∧ M.In g ∧ M.In du) ∧ M.In day then some (decide (M.askOk b r m f e i w fe g bal lvl du cnt sus late day a)) else none
theorem trivetref13_Asked_s.calls (a0_0 : Int) (a0_1 : Int) (a0_2 : Int) (a0_3 : Int) (a0_4 : Int) (a0_5 : Int) (a0_6 : Int) (a0_7 : Int) (a0_8 : Int) (a0_9 : Int) (a0_10 : Int) (a0_11 : Int) (a0_12 : Int) (a0_13 : Int) (a0_14 : Int) (a1 : Int) (a2 : Int) (r : Bool) (w : World) (h : trivetref13_Asked_s.f a0_0 a0_1 a0_2 a0_3 a0_4 a0_5 a0_6 a0_7 a0_8 a0_9 a0_10 a0_11 a0_12 a0_13 a0_14 a1 a2 = some r) :
  Calls Try.prog 12 #[.agg #[.int .i64 a0_0, .int .i64 a0_1, .int .i64 a0_2, .int .i64 a0_3, .int .i64 a0_4, .int .i64 a0_5, .int .i64 a0_6, .int .i64 a0_7, .int .i64 a0_8, .int .i64 a0_9, .int .i64 a0_10, .int .i64 a0_11, .int .i64 a0_12, .int .i64 a0_13, .int .i64 a0_14], .int .i64 a1, .int .i64 a2] w fun e w' => e = .returned (.bool r) ∧ Below w.heap.size w w' := by
 unfold trivetref13_Asked_s.f at h
 split at h
 ·rename_i hr
  exact trivetref13_Asked.calls a0_0 a0_1 a0_2 a0_3 a0_4 a0_5 a0_6 a0_7 a0_8 a0_9 a0_10 a0_11 a0_12 a0_13 a0_14 a1 a2 r w ((trivetref13_Asked.tells a0_0 a0_1 a0_2 a0_3 a0_4 a0_5 a0_6 a0_7 a0_8 a0_9 a0_10 a0_11 a0_12 a0_13 a0_14 a1 a2 hr).trans h)
 ·cases h
theorem trivetref13_Asked_s.at_ {b r m f e i w fe g bal lvl du cnt sus late day a : Int} (h : (M.In f ∧ M.In fe ∧ M.In g ∧ M.In du) ∧ M.In day) : trivetref13_Asked_s.f b r m f e i w fe g bal lvl du cnt sus late day a = some (decide (M.askOk b r m f e i w fe g bal lvl du cnt sus late day a)) := by unfold trivetref13_Asked_s.f; rw [if_pos h]

/-! ### water_Payoff: function 17 -/
def water_Payoff.l0 : Nat → Int → Int → Int → Int → Int → Int → Int → Int → Int → Int → Int → Int → Int → Int → Int → Int → Int → Int → Int → Option (Int × Option Int)
 | 0, _, _, _, _, _, _, _, _, _, _, _, _, _, _, _, _, _, _, _ => none
 | k + 1, x1, x6, x8, x9, x364000, x364001, x364002, x364003, x364004, x364005, x364006, x364007, x364008, x364009, x364010, x364011, x364012, x364013, x364014 => if x9 ≤ x1 then ((water_month_s.f x9).bind fun bt368 => (if bt368.2 = true then (water_Payoff.l0 k x1 x6 (wrap64 (x8 + 1)) bt368.1 x364000 x364001 x364002 x364003 x364004 x364005 x364006 x364007 x364008 x364009 x364010 x364011 x364012 x364013 x364014) else (some (wrap64 ((wrap64 (x364009 + x364014)) + (wrap64 ((wrap64 (x8 + 1)) * x6))), none)))) else (some (wrap64 ((wrap64 (x364009 + x364014)) + (wrap64 (x8 * x6))), none))
def water_Payoff.f (k : Nat) (a0_0 : Int) (a0_1 : Int) (a0_2 : Int) (a0_3 : Int) (a0_4 : Int) (a0_5 : Int) (a0_6 : Int) (a0_7 : Int) (a0_8 : Int) (a0_9 : Int) (a0_10 : Int) (a0_11 : Int) (a0_12 : Int) (a0_13 : Int) (a0_14 : Int) (a1 : Int) : Option (Int × Option Int) := (water_may_s.f a0_0 a0_1 a0_2 a0_3 a0_4 a0_5 a0_6 a0_7 a0_8 a0_9 a0_10 a0_11 a0_12 a0_13 a0_14 a1 1).bind fun t364 => (if t364 = true then (if a0_9 = 0 then (some (0, some 7)) else ((rate_Month_s.f a0_9 a0_1).bind fun bt365 => (if bt365.2.isNone = true then (water_Payoff.l0 k a1 bt365.1 1 a0_11 a0_0 a0_1 a0_2 a0_3 a0_4 a0_5 a0_6 a0_7 a0_8 a0_9 a0_10 a0_11 a0_12 a0_13 a0_14) else (some (0, some (bt365.2.getD 0)))))) else (some (0, some 1)))
theorem water_Payoff.mono_l : ∀ k, (∀ y0 y1 y2 y3 y4 y5 y6 y7 y8 y9 y10 y11 y12 y13 y14 y15 y16 y17 y18, LeO (water_Payoff.l0 k y0 y1 y2 y3 y4 y5 y6 y7 y8 y9 y10 y11 y12 y13 y14 y15 y16 y17 y18) (water_Payoff.l0 (k + 1) y0 y1 y2 y3 y4 y5 y6 y7 y8 y9 y10 y11 y12 y13 y14 y15 y16 y17 y18))
 | 0 => fun _ _ _ _ _ _ _ _ _ _ _ _ _ _ _ _ _ _ _ r h => by simp [water_Payoff.l0] at h
 | k + 1 => by
  have ih0 := water_Payoff.mono_l k
  ·intro y0 y1 y2 y3 y4 y5 y6 y7 y8 y9 y10 y11 y12 y13 y14 y15 y16 y17 y18
   unfold water_Payoff.l0
   repeat' first
   | (with_reducible exact ih0 _ _ _ _ _ _ _ _ _ _ _ _ _ _ _ _ _ _ _)
   | (with_reducible exact LeO.refl _)
   | (with_reducible exact LeO.none _)
   | (with_reducible refine LeO.ite ?_ ?_)
   | (with_reducible refine LeO.bind ?_ (fun _ => ?_))
   | exact ih0 _ _ _ _ _ _ _ _ _ _ _ _ _ _ _ _ _ _ _
   | exact LeO.none _
   | refine LeO.ite ?_ ?_
   | refine LeO.bind ?_ (fun _ => ?_)
theorem water_Payoff.mono : ∀ a0 a1 a2 a3 a4 a5 a6 a7 a8 a9 a10 a11 a12 a13 a14 a15 k, LeO (water_Payoff.f k a0 a1 a2 a3 a4 a5 a6 a7 a8 a9 a10 a11 a12 a13 a14 a15) (water_Payoff.f (k + 1) a0 a1 a2 a3 a4 a5 a6 a7 a8 a9 a10 a11 a12 a13 a14 a15) := by
 intro a0 a1 a2 a3 a4 a5 a6 a7 a8 a9 a10 a11 a12 a13 a14 a15 k
 have ih0 := water_Payoff.mono_l k
 unfold water_Payoff.f
 repeat' first
   | (with_reducible exact ih0 _ _ _ _ _ _ _ _ _ _ _ _ _ _ _ _ _ _ _)
   | (with_reducible exact LeO.refl _)
   | (with_reducible exact LeO.none _)
   | (with_reducible refine LeO.ite ?_ ?_)
   | (with_reducible refine LeO.bind ?_ (fun _ => ?_))
   | exact ih0 _ _ _ _ _ _ _ _ _ _ _ _ _ _ _ _ _ _ _
   | exact LeO.none _
   | refine LeO.ite ?_ ?_
   | refine LeO.bind ?_ (fun _ => ?_)
set_option maxHeartbeats 8000000 in
set_option maxRecDepth 100000 in
theorem water_Payoff.calls (k : Nat) (a0_0 : Int) (a0_1 : Int) (a0_2 : Int) (a0_3 : Int) (a0_4 : Int) (a0_5 : Int) (a0_6 : Int) (a0_7 : Int) (a0_8 : Int) (a0_9 : Int) (a0_10 : Int) (a0_11 : Int) (a0_12 : Int) (a0_13 : Int) (a0_14 : Int) (a1 : Int) (r1 : Int) (r2 : Option Int) (w : World) (h : water_Payoff.f k a0_0 a0_1 a0_2 a0_3 a0_4 a0_5 a0_6 a0_7 a0_8 a0_9 a0_10 a0_11 a0_12 a0_13 a0_14 a1 = some (r1, r2)) :
  Calls Try.prog 17 #[.agg #[.int .i64 a0_0, .int .i64 a0_1, .int .i64 a0_2, .int .i64 a0_3, .int .i64 a0_4, .int .i64 a0_5, .int .i64 a0_6, .int .i64 a0_7, .int .i64 a0_8, .int .i64 a0_9, .int .i64 a0_10, .int .i64 a0_11, .int .i64 a0_12, .int .i64 a0_13, .int .i64 a0_14], .int .i64 a1] w fun e w' => e = .returned (.tuple #[.int .i64 r1, errW r2]) ∧ Below w.heap.size w w' := by
 have hu25 := Try.underlying25
 have hu30 := Try.underlying30
 have hu34 := Try.underlying34
 have HB := ka (Below.refl w.heap.size w)
 have H : ((water_may_s.f a0_0 a0_1 a0_2 a0_3 a0_4 a0_5 a0_6 a0_7 a0_8 a0_9 a0_10 a0_11 a0_12 a0_13 a0_14 a1 1).bind fun t364 => (if t364 = true then (if a0_9 = 0 then (some (0, some 7)) else ((rate_Month_s.f a0_9 a0_1).bind fun bt365 => (if bt365.2.isNone = true then (water_Payoff.l0 k a1 bt365.1 1 a0_11 a0_0 a0_1 a0_2 a0_3 a0_4 a0_5 a0_6 a0_7 a0_8 a0_9 a0_10 a0_11 a0_12 a0_13 a0_14) else (some (0, some (bt365.2.getD 0)))))) else (some (0, some 1)))) = some (r1, r2) := h
 clear h
 replace H := Option.bind_eq_some_iff.mp H
 obtain ⟨t364, A30, H⟩ := H
 replace H : (if t364 = true then (if a0_9 = 0 then (some (0, some 7)) else ((rate_Month_s.f a0_9 a0_1).bind fun bt365 => (if bt365.2.isNone = true then (water_Payoff.l0 k a1 bt365.1 1 a0_11 a0_0 a0_1 a0_2 a0_3 a0_4 a0_5 a0_6 a0_7 a0_8 a0_9 a0_10 a0_11 a0_12 a0_13 a0_14) else (some (0, some (bt365.2.getD 0)))))) else (some (0, some 1))) = some (r1, r2) := H
 have A3 := ka A30
 clear A30
 by_cases c4 : t364 = true
 ·subst c4
  have H1 : (if a0_9 = 0 then (some (0, some 7)) else ((rate_Month_s.f a0_9 a0_1).bind fun bt365 => (if bt365.2.isNone = true then (water_Payoff.l0 k a1 bt365.1 1 a0_11 a0_0 a0_1 a0_2 a0_3 a0_4 a0_5 a0_6 a0_7 a0_8 a0_9 a0_10 a0_11 a0_12 a0_13 a0_14) else (some (0, some (bt365.2.getD 0)))))) = some (r1, r2) := by rw [if_pos rfl] at H; exact H
  clear H
  have H := H1
  clear H1
  by_cases c5 : a0_9 = 0
  ·rw [if_pos c5] at H
   have c5b0 : (a0_9 == 0) = true := beq_iff_eq.mpr c5
   have c5b1 : (a0_9 != 0) = false := bne_eq_false_iff_eq.mpr c5
   clear c5
   simp only [Option.some.injEq, Prod.mk.injEq] at H
   obtain ⟨rfl, rfl⟩ := H
   go_enter Try.func17, Try.ntmps17
   go_wp2_with (first | ((with_reducible refine gate_dst (N := 2) rfl ?_); refine kx (N := 2) (cs := #[.int .i64 a0_0, .int .i64 a0_1, .int .i64 a0_2, .int .i64 a0_3, .int .i64 a0_4, .int .i64 a0_5, .int .i64 a0_6, .int .i64 a0_7, .int .i64 a0_8, .int .i64 a0_9, .int .i64 a0_10, .int .i64 a0_11, .int .i64 a0_12, .int .i64 a0_13, .int .i64 a0_14]) (t := 25) ?_; intro gb363 hg w6 hbox hb; have n0_ := ka (below_step (kw HB.out) hb); have n1_ := ka (hbox); have n2_ := ka ((by rw [hg]; exact (below_size (kw HB.out)) : w.heap.size ≤ gb363)); have n3_ := n2_; clear HB; have HB := n0_; have BK363 := n1_; have GW363 := n2_; have GE363 := n3_; clear n0_ n1_ n2_ n3_; clear hb hbox hg; have hcz7 := blkAll15 BK363.out) | ((with_reducible refine gate_callee (f := 22) rfl ?_); refine kg (some 15) rfl rfl Try.func22 (by kernel_rfl) rfl #[.agg #[.int .i64 a0_0, .int .i64 a0_1, .int .i64 a0_2, .int .i64 a0_3, .int .i64 a0_4, .int .i64 a0_5, .int .i64 a0_6, .int .i64 a0_7, .int .i64 a0_8, .int .i64 a0_9, .int .i64 a0_10, .int .i64 a0_11, .int .i64 a0_12, .int .i64 a0_13, .int .i64 a0_14], .int .i64 a1, .int .i64 1] rfl ?_; (with_reducible refine (water_may_s.calls a0_0 a0_1 a0_2 a0_3 a0_4 a0_5 a0_6 a0_7 a0_8 a0_9 a0_10 a0_11 a0_12 a0_13 a0_14 a1 1 true _ A3.out).mono ?_); rintro e w8 ⟨rfl, hb⟩; refine ⟨_, rfl, ?_⟩; have n0_ := ka (blk_below (g := gb363) (kz BK363.out) hb); have n1_ := ka (below_step (kw HB.out) hb); clear BK363; clear HB; have BK363 := n0_; have HB := n1_; clear n0_ n1_; (try clear hb); (try clear hb2); (try clear hk); (try clear hi); have hcz9 := blkAll15 BK363.out) | ((with_reducible refine gate_load (T := 25) rfl ?_); first | refine load_event (g := gb363) rfl rfl rfl Try.underlying25 rfl (by (with_reducible repeat (first | apply kb1 | apply kb2 | apply kb3)); with_reducible exact BK363.out) (by kernel_rfl) ?_))
   go_ret2
   exact ⟨by first | rfl | (simp [errW_none, errW_some] <;> rfl) | (simp [*, errW_none, errW_some] <;> rfl), by repeat (first | (with_reducible first | exact HB.out | apply kc1 | apply kc2 | apply kc3 | refine kc4 ?_ GE363.out) | exact HB.out)⟩
  ·rw [if_neg c5] at H
   have c5b0 : (a0_9 == 0) = false := beq_eq_false_iff_ne.mpr c5
   have c5b1 : (a0_9 != 0) = true := bne_iff_ne.mpr c5
   replace H := Option.bind_eq_some_iff.mp H
   obtain ⟨⟨t365, t366⟩, A100, H⟩ := H
   replace H : (if t366.isNone = true then (water_Payoff.l0 k a1 t365 1 a0_11 a0_0 a0_1 a0_2 a0_3 a0_4 a0_5 a0_6 a0_7 a0_8 a0_9 a0_10 a0_11 a0_12 a0_13 a0_14) else (some (0, some (t366.getD 0)))) = some (r1, r2) := H
   have A10 := ka A100
   clear A100
   rcases t366 with _ | q367
   ·have H1 : (water_Payoff.l0 k a1 t365 1 a0_11 a0_0 a0_1 a0_2 a0_3 a0_4 a0_5 a0_6 a0_7 a0_8 a0_9 a0_10 a0_11 a0_12 a0_13 a0_14) = some (r1, r2) := by rw [if_pos (show (none : Option Int).isNone = true by rfl)] at H; exact H
    clear H
    have H := H1
    clear H1
    try simp only [errW_none, errW_some]
    have H' := ka H
    clear H
    go_enter Try.func17, Try.ntmps17
    go_wp2_with (first | ((with_reducible refine gate_dst (N := 2) rfl ?_); refine kx (N := 2) (cs := #[.int .i64 a0_0, .int .i64 a0_1, .int .i64 a0_2, .int .i64 a0_3, .int .i64 a0_4, .int .i64 a0_5, .int .i64 a0_6, .int .i64 a0_7, .int .i64 a0_8, .int .i64 a0_9, .int .i64 a0_10, .int .i64 a0_11, .int .i64 a0_12, .int .i64 a0_13, .int .i64 a0_14]) (t := 25) ?_; intro gb363 hg w11 hbox hb; have n0_ := ka (below_step (kw HB.out) hb); have n1_ := ka (hbox); have n2_ := ka ((by rw [hg]; exact (below_size (kw HB.out)) : w.heap.size ≤ gb363)); have n3_ := n2_; clear HB; have HB := n0_; have BK363 := n1_; have GW363 := n2_; have GE363 := n3_; clear n0_ n1_ n2_ n3_; clear hb hbox hg; have hcz12 := blkAll15 BK363.out) | ((with_reducible refine gate_callee (f := 22) rfl ?_); refine kg (some 15) rfl rfl Try.func22 (by kernel_rfl) rfl #[.agg #[.int .i64 a0_0, .int .i64 a0_1, .int .i64 a0_2, .int .i64 a0_3, .int .i64 a0_4, .int .i64 a0_5, .int .i64 a0_6, .int .i64 a0_7, .int .i64 a0_8, .int .i64 a0_9, .int .i64 a0_10, .int .i64 a0_11, .int .i64 a0_12, .int .i64 a0_13, .int .i64 a0_14], .int .i64 a1, .int .i64 1] rfl ?_; (with_reducible refine (water_may_s.calls a0_0 a0_1 a0_2 a0_3 a0_4 a0_5 a0_6 a0_7 a0_8 a0_9 a0_10 a0_11 a0_12 a0_13 a0_14 a1 1 true _ A3.out).mono ?_); rintro e w13 ⟨rfl, hb⟩; refine ⟨_, rfl, ?_⟩; have n0_ := ka (blk_below (g := gb363) (kz BK363.out) hb); have n1_ := ka (below_step (kw HB.out) hb); clear BK363; clear HB; have BK363 := n0_; have HB := n1_; clear n0_ n1_; (try clear hb); (try clear hb2); (try clear hk); (try clear hi); have hcz14 := blkAll15 BK363.out) | ((with_reducible refine gate_callee (f := 32) rfl ?_); refine kg (some 29) rfl rfl Try.func32 (by kernel_rfl) rfl #[.int .i64 a0_9, .int .i64 a0_1] rfl ?_; (with_reducible refine (rate_Month_s.calls a0_9 a0_1 t365 none _ A10.out).mono ?_); rintro e w' ⟨rfl, ⟨nd, rfl⟩⟩; refine ⟨_, rfl, ?_⟩; (try simp only [errW_none, errW_some])) | ((with_reducible refine gate_load (T := 25) rfl ?_); first | refine load_event (g := gb363) rfl rfl rfl Try.underlying25 rfl (by (with_reducible repeat (first | apply kb1 | apply kb2 | apply kb3)); with_reducible exact BK363.out) (by kernel_rfl) ?_))
    (try simp only [Act.put, List.setIfInBounds_toArray, List.set_cons_zero, List.set_cons_succ])
    go_loopg [8, 9] k (fun kq v8 v9 w' => ∃ (x8_1 : Int) (x9_1 : Int), v8 = .int .i64 x8_1 ∧ v9 = .int .i64 x9_1 ∧ Aside0 (water_Payoff.l0 kq a1 t365 x8_1 x9_1 a0_0 a0_1 a0_2 a0_3 a0_4 a0_5 a0_6 a0_7 a0_8 a0_9 a0_10 a0_11 a0_12 a0_13 a0_14 = some (r1, r2)) ∧ Aside0 (kq ≤ k) ∧ Aside0 (w'.heap[gb363]? = some (.cells #[.int .i64 a0_0, .int .i64 a0_1, .int .i64 a0_2, .int .i64 a0_3, .int .i64 a0_4, .int .i64 a0_5, .int .i64 a0_6, .int .i64 a0_7, .int .i64 a0_8, .int .i64 a0_9, .int .i64 a0_10, .int .i64 a0_11, .int .i64 a0_12, .int .i64 a0_13, .int .i64 a0_14] 25 (0, 0))) ∧ Aside0 (Below w.heap.size w w'))
    case atStart => exact ⟨(1), (a0_11), (by first | rfl | (simp; done) | (simp [*]; done)), (by first | rfl | (simp; done) | (simp [*]; done)), H', ⟨Nat.le_refl _⟩, ⟨by (with_reducible repeat (first | apply kb1 | apply kb2 | apply kb3)); exact BK363.out⟩, ⟨by repeat (first | (with_reducible first | exact HB.out | apply kc1 | apply kc2 | apply kc3 | refine kc4 ?_ GE363.out) | exact HB.out)⟩⟩
    case round =>
     clear H'
     try clear c1
     try clear c2
     try clear p2
     try clear c3
     try clear q3
     try clear c4
     try clear c5
     try clear c5b0
     try clear c5b1
     try clear hcz12
     try clear hcz14
     try clear hcz7
     try clear hcz9
     try clear q367
     obtain ⟨x8_1, x9_1, rfl, rfl, HA, HK1, BK363, HB⟩ := hrel
     cases gk with
     | zero => exact absurd HA.out (by simp [water_Payoff.l0])
     | succ k1 =>
      have H := HA.out
      clear HA
      simp only [water_Payoff.l0] at H
      by_cases c15 : x9_1 ≤ a1
      ·rw [if_pos c15] at H
       have c15b0 : decide (x9_1 ≤ a1) = true := decide_eq_true c15
       clear c15
       replace H := Option.bind_eq_some_iff.mp H
       obtain ⟨⟨t368, t369⟩, A160, H⟩ := H
       replace H : (if t369 = true then (water_Payoff.l0 k1 a1 t365 (wrap64 (x8_1 + 1)) t368 a0_0 a0_1 a0_2 a0_3 a0_4 a0_5 a0_6 a0_7 a0_8 a0_9 a0_10 a0_11 a0_12 a0_13 a0_14) else (some (wrap64 ((wrap64 (a0_9 + a0_14)) + (wrap64 ((wrap64 (x8_1 + 1)) * t365))), none))) = some (r1, r2) := H
       have A16 := ka A160
       clear A160
       by_cases c17 : t369 = true
       ·subst c17
        have H1 : (water_Payoff.l0 k1 a1 t365 (wrap64 (x8_1 + 1)) t368 a0_0 a0_1 a0_2 a0_3 a0_4 a0_5 a0_6 a0_7 a0_8 a0_9 a0_10 a0_11 a0_12 a0_13 a0_14) = some (r1, r2) := by rw [if_pos rfl] at H; exact H
        clear H
        have H := H1
        clear H1
        have H' := ka H
        clear H
        go_wp2_with (first | ((with_reducible refine gate_callee (f := 33) rfl ?_); refine kg (some 44) rfl rfl Try.func33 (by kernel_rfl) rfl #[.int .i64 x9_1] rfl ?_; (with_reducible refine (water_month_s.calls x9_1 t368 true _ A16.out).mono ?_); rintro e w18 ⟨rfl, hb⟩; refine ⟨_, rfl, ?_⟩; have n0_ := ka (blk_below (g := gb363) (kz BK363.out) hb); have n1_ := ka (below_step (kw HB.out) hb); clear BK363; clear HB; have BK363 := n0_; have HB := n1_; clear n0_ n1_; (try clear hb); (try clear hb2); (try clear hk); (try clear hi)) | ((with_reducible refine gate_load (T := 25) rfl ?_); first | refine load_event (g := gb363) rfl rfl rfl Try.underlying25 rfl (by (with_reducible repeat (first | apply kb1 | apply kb2 | apply kb3)); with_reducible exact BK363.out) (by kernel_rfl) ?_))
        go_roundg k1
        case measure => have := HK1.out; omega
        case rel => exact ⟨(wrap64 (x8_1 + 1)), (t368), (by first | rfl | (simp; done) | (simp [*]; done)), (by first | rfl | (simp; done) | (simp [*]; done)), H', ⟨by have := HK1.out; omega⟩, ⟨by (with_reducible repeat (first | apply kb1 | apply kb2 | apply kb3)); exact BK363.out⟩, ⟨by repeat (first | (with_reducible first | exact HB.out | apply kc1 | apply kc2 | apply kc3 | refine kc4 ?_ GE363.out) | exact HB.out)⟩⟩
       ·replace c17 := Bool.eq_false_iff.mpr c17
        subst c17
        have H1 : (some (wrap64 ((wrap64 (a0_9 + a0_14)) + (wrap64 ((wrap64 (x8_1 + 1)) * t365))), none)) = some (r1, r2) := by rw [if_neg (show ¬ (false = true) by decide)] at H; exact H
        clear H
        have H := H1
        clear H1
        simp only [Option.some.injEq, Prod.mk.injEq] at H
        obtain ⟨rfl, rfl⟩ := H
        go_wp2_with (first | ((with_reducible refine gate_callee (f := 33) rfl ?_); refine kg (some 44) rfl rfl Try.func33 (by kernel_rfl) rfl #[.int .i64 x9_1] rfl ?_; (with_reducible refine (water_month_s.calls x9_1 t368 false _ A16.out).mono ?_); rintro e w19 ⟨rfl, hb⟩; refine ⟨_, rfl, ?_⟩; have n0_ := ka (blk_below (g := gb363) (kz BK363.out) hb); have n1_ := ka (below_step (kw HB.out) hb); clear BK363; clear HB; have BK363 := n0_; have HB := n1_; clear n0_ n1_; (try clear hb); (try clear hb2); (try clear hk); (try clear hi); have hcz20 := blkAll15 BK363.out) | ((with_reducible refine gate_load (T := 25) rfl ?_); first | refine load_event (g := gb363) rfl rfl rfl Try.underlying25 rfl (by (with_reducible repeat (first | apply kb1 | apply kb2 | apply kb3)); with_reducible exact BK363.out) (by kernel_rfl) ?_))
        go_ret2
        exact ⟨by first | rfl | (simp [errW_none, errW_some] <;> rfl) | (simp [*, errW_none, errW_some] <;> rfl), by repeat (first | (with_reducible first | exact HB.out | apply kc1 | apply kc2 | apply kc3 | refine kc4 ?_ GE363.out) | exact HB.out)⟩
      ·rw [if_neg c15] at H
       have c15b0 : decide (x9_1 ≤ a1) = false := decide_eq_false c15
       clear c15
       simp only [Option.some.injEq, Prod.mk.injEq] at H
       obtain ⟨rfl, rfl⟩ := H
       have hcz21 := blkAll15 BK363.out
       go_wp2
       go_ret2
       exact ⟨by first | rfl | (simp [errW_none, errW_some] <;> rfl) | (simp [*, errW_none, errW_some] <;> rfl), by repeat (first | (with_reducible first | exact HB.out | apply kc1 | apply kc2 | apply kc3 | refine kc4 ?_ GE363.out) | exact HB.out)⟩
   ·have H1 : (some (0, some q367)) = some (r1, r2) := by rw [if_neg (show ¬ (some q367).isNone = true by simp)] at H; exact H
    clear H
    have H := H1
    clear H1
    try simp only [errW_none, errW_some]
    simp only [Option.some.injEq, Prod.mk.injEq] at H
    obtain ⟨rfl, rfl⟩ := H
    go_enter Try.func17, Try.ntmps17
    go_wp2_with (first | ((with_reducible refine gate_dst (N := 2) rfl ?_); refine kx (N := 2) (cs := #[.int .i64 a0_0, .int .i64 a0_1, .int .i64 a0_2, .int .i64 a0_3, .int .i64 a0_4, .int .i64 a0_5, .int .i64 a0_6, .int .i64 a0_7, .int .i64 a0_8, .int .i64 a0_9, .int .i64 a0_10, .int .i64 a0_11, .int .i64 a0_12, .int .i64 a0_13, .int .i64 a0_14]) (t := 25) ?_; intro gb363 hg w22 hbox hb; have n0_ := ka (below_step (kw HB.out) hb); have n1_ := ka (hbox); have n2_ := ka ((by rw [hg]; exact (below_size (kw HB.out)) : w.heap.size ≤ gb363)); have n3_ := n2_; clear HB; have HB := n0_; have BK363 := n1_; have GW363 := n2_; have GE363 := n3_; clear n0_ n1_ n2_ n3_; clear hb hbox hg; have hcz23 := blkAll15 BK363.out) | ((with_reducible refine gate_callee (f := 22) rfl ?_); refine kg (some 15) rfl rfl Try.func22 (by kernel_rfl) rfl #[.agg #[.int .i64 a0_0, .int .i64 a0_1, .int .i64 a0_2, .int .i64 a0_3, .int .i64 a0_4, .int .i64 a0_5, .int .i64 a0_6, .int .i64 a0_7, .int .i64 a0_8, .int .i64 a0_9, .int .i64 a0_10, .int .i64 a0_11, .int .i64 a0_12, .int .i64 a0_13, .int .i64 a0_14], .int .i64 a1, .int .i64 1] rfl ?_; (with_reducible refine (water_may_s.calls a0_0 a0_1 a0_2 a0_3 a0_4 a0_5 a0_6 a0_7 a0_8 a0_9 a0_10 a0_11 a0_12 a0_13 a0_14 a1 1 true _ A3.out).mono ?_); rintro e w24 ⟨rfl, hb⟩; refine ⟨_, rfl, ?_⟩; have n0_ := ka (blk_below (g := gb363) (kz BK363.out) hb); have n1_ := ka (below_step (kw HB.out) hb); clear BK363; clear HB; have BK363 := n0_; have HB := n1_; clear n0_ n1_; (try clear hb); (try clear hb2); (try clear hk); (try clear hi); have hcz25 := blkAll15 BK363.out) | ((with_reducible refine gate_callee (f := 32) rfl ?_); refine kg (some 29) rfl rfl Try.func32 (by kernel_rfl) rfl #[.int .i64 a0_9, .int .i64 a0_1] rfl ?_; (with_reducible refine (rate_Month_s.calls a0_9 a0_1 t365 (some q367) _ A10.out).mono ?_); rintro e w' ⟨rfl, ⟨nd, rfl⟩⟩; refine ⟨_, rfl, ?_⟩; (try simp only [errW_none, errW_some])) | ((with_reducible refine gate_load (T := 25) rfl ?_); first | refine load_event (g := gb363) rfl rfl rfl Try.underlying25 rfl (by (with_reducible repeat (first | apply kb1 | apply kb2 | apply kb3)); with_reducible exact BK363.out) (by kernel_rfl) ?_))
    go_ret2
    exact ⟨by first | rfl | (simp [errW_none, errW_some] <;> rfl) | (simp [*, errW_none, errW_some] <;> rfl), by repeat (first | (with_reducible first | exact HB.out | apply kc1 | apply kc2 | apply kc3 | refine kc4 ?_ GE363.out) | exact HB.out)⟩
 ·replace c4 := Bool.eq_false_iff.mpr c4
  subst c4
  have H1 : (some (0, some 1)) = some (r1, r2) := by rw [if_neg (show ¬ (false = true) by decide)] at H; exact H
  clear H
  have H := H1
  clear H1
  simp only [Option.some.injEq, Prod.mk.injEq] at H
  obtain ⟨rfl, rfl⟩ := H
  go_enter Try.func17, Try.ntmps17
  go_wp2_with (first | ((with_reducible refine gate_dst (N := 2) rfl ?_); refine kx (N := 2) (cs := #[.int .i64 a0_0, .int .i64 a0_1, .int .i64 a0_2, .int .i64 a0_3, .int .i64 a0_4, .int .i64 a0_5, .int .i64 a0_6, .int .i64 a0_7, .int .i64 a0_8, .int .i64 a0_9, .int .i64 a0_10, .int .i64 a0_11, .int .i64 a0_12, .int .i64 a0_13, .int .i64 a0_14]) (t := 25) ?_; intro gb363 hg w26 hbox hb; have n0_ := ka (below_step (kw HB.out) hb); have n1_ := ka (hbox); have n2_ := ka ((by rw [hg]; exact (below_size (kw HB.out)) : w.heap.size ≤ gb363)); have n3_ := n2_; clear HB; have HB := n0_; have BK363 := n1_; have GW363 := n2_; have GE363 := n3_; clear n0_ n1_ n2_ n3_; clear hb hbox hg; have hcz27 := blkAll15 BK363.out) | ((with_reducible refine gate_callee (f := 22) rfl ?_); refine kg (some 15) rfl rfl Try.func22 (by kernel_rfl) rfl #[.agg #[.int .i64 a0_0, .int .i64 a0_1, .int .i64 a0_2, .int .i64 a0_3, .int .i64 a0_4, .int .i64 a0_5, .int .i64 a0_6, .int .i64 a0_7, .int .i64 a0_8, .int .i64 a0_9, .int .i64 a0_10, .int .i64 a0_11, .int .i64 a0_12, .int .i64 a0_13, .int .i64 a0_14], .int .i64 a1, .int .i64 1] rfl ?_; (with_reducible refine (water_may_s.calls a0_0 a0_1 a0_2 a0_3 a0_4 a0_5 a0_6 a0_7 a0_8 a0_9 a0_10 a0_11 a0_12 a0_13 a0_14 a1 1 false _ A3.out).mono ?_); rintro e w28 ⟨rfl, hb⟩; refine ⟨_, rfl, ?_⟩; have n0_ := ka (blk_below (g := gb363) (kz BK363.out) hb); have n1_ := ka (below_step (kw HB.out) hb); clear BK363; clear HB; have BK363 := n0_; have HB := n1_; clear n0_ n1_; (try clear hb); (try clear hb2); (try clear hk); (try clear hi)) | ((with_reducible refine gate_load (T := 25) rfl ?_); first | refine load_event (g := gb363) rfl rfl rfl Try.underlying25 rfl (by (with_reducible repeat (first | apply kb1 | apply kb2 | apply kb3)); with_reducible exact BK363.out) (by kernel_rfl) ?_))
  go_ret2
  exact ⟨by first | rfl | (simp [errW_none, errW_some] <;> rfl) | (simp [*, errW_none, errW_some] <;> rfl), by repeat (first | (with_reducible first | exact HB.out | apply kc1 | apply kc2 | apply kc3 | refine kc4 ?_ GE363.out) | exact HB.out)⟩

/-! ### water_Payoff_s: function 17, told plainly -/
theorem water_Payoff.loop (b r m f e i w fe g bal lvl du cnt sus late day : Int) (hb : M.may bal r) (hl : M.cent late) : ∀ (j : Nat) (d n : Int) (k : Nat), M.firstOk d → (26400 - M.m0 d).toNat ≤ j → 1 ≤ n → n + j ≤ 5000 → water_Payoff.l0 (k + j) day (M.month bal r) n d b r m f e i w fe g bal lvl du cnt sus late = some (bal + late + (n - 1 + M.months day j d) * M.month bal r, none)
 | 0, d, n, k, hd, hj, h1, h2 => by
  have a := (M.first_date hd).2.2.1
  unfold M.inYears at a
  omega
 | j + 1, d, n, k, hd, hj, h1, h2 => by
  have b0 := hb.1
  have b1 := hb.2.1
  have m0 := M.month_nonneg hb
  have m1 := M.month_le hb
  have l0 := hl.1
  have l1 := hl.2
  have pr : ∀ z : Int, 0 ≤ z → z ≤ 10000 → 0 ≤ z * M.month bal r ∧ z * M.month bal r ≤ 100000000000000000 := fun z hz hz' => ⟨Int.mul_nonneg hz m0, Int.le_trans (Int.mul_le_mul hz' (show M.month bal r ≤ 10000000000000 by omega) m0 (by omega)) (by decide)⟩
  have p1 := pr n (by omega) (by omega)
  have p2 := pr (n + 1) (by omega) (by omega)
  rw [show k + (j + 1) = (k + j) + 1 by omega]
  obtain ⟨K, hK⟩ : ∃ K, K = k + j := ⟨_, rfl⟩
  rw [← hK]
  simp only [water_Payoff.l0, M.months]
  by_cases c : d ≤ day
  ·rw [if_pos c, if_pos c, water_month_s.at_ hd, Option.bind_some]
   by_cases c2 : M.more d
   ·rw [if_pos c2, if_pos c2]
    simp only [if_true]
    have a := (M.first_date hd).2.2.1
    unfold M.inYears at a
    have ih := water_Payoff.loop b r m f e i w fe g bal lvl du cnt sus late day hb hl j (M.due d 1) (n + 1) k (M.due_first hd c2) (by rw [M.due_m0 c2]; omega) (by omega) (by omega)
    rw [M.w64_id (n := n + 1) (by omega) (by omega), hK, ih, show n + 1 - 1 + M.months day j (M.due d 1) = n - 1 + (1 + M.months day j (M.due d 1)) by omega]
   ·rw [if_neg c2, if_neg c2]
    simp only [Bool.false_eq_true, if_false]
    rw [M.w64_id (n := n + 1) (by omega) (by omega), M.w64_id (n := (n + 1) * M.month bal r) (by omega) (by omega), M.w64_id (n := bal + late) (by omega) (by omega), M.w64_id (by omega) (by omega), show n - 1 + 2 = n + 1 by omega]
  ·rw [if_neg c, if_neg c, M.w64_id (n := n * M.month bal r) (by omega) (by omega), M.w64_id (n := bal + late) (by omega) (by omega), M.w64_id (by omega) (by omega), show n - 1 + 1 = n by omega]
theorem water_Payoff.tells (b r m f e i w fe g bal lvl du cnt sus late day : Int) (h : (M.In r ∧ M.In f ∧ M.In fe ∧ M.In du) ∧ M.In day) (k : Nat) (hk : 3600 ≤ k) : water_Payoff.f k b r m f e i w fe g bal lvl du cnt sus late day = some (if M.askOk b r m f e i w fe g bal lvl du cnt sus late day 1 then (if bal = 0 then (0, some 7) else (bal + late + M.months day 3600 du * M.month bal r, none)) else (0, some 1)) := by
 unfold water_Payoff.f
 rw [water_may_s.at_ ⟨h.1.1, h.1.2.1, h.1.2.2.1, h.1.2.2.2, h.2⟩, Option.bind_some]
 by_cases ha : M.askOk b r m f e i w fe g bal lvl du cnt sus late day 1
 ·have hL := ha.1
  have hm := (M.terms_may hL.1).1
  have hb : M.may bal r := ⟨hL.2.2.1.1, hL.2.2.1.2, hm.2.2⟩
  rw [if_pos (decide_eq_true ha), if_pos ha]
  by_cases c : bal = 0
  ·rw [if_pos c, if_pos c]
  ·have a := (M.first_date hL.2.1).2.2.1
   unfold M.inYears at a
   rw [if_neg c, if_neg c, rate_Month_s.yes hb, Option.bind_some, if_pos (show ((none : Option Int).isNone = true) from rfl)]
   obtain ⟨z, rfl⟩ : ∃ z, k = z + 3600 := ⟨k - 3600, by omega⟩
   have lp := water_Payoff.loop b r m f e i w fe g bal lvl du cnt sus late day hb hL.2.2.2.2.2.2.2.2 3600 du 1 z hL.2.1 (by omega) (by omega) (by omega)
   rw [show (1 : Int) - 1 + M.months day 3600 du = M.months day 3600 du by omega] at lp
   exact lp
 ·rw [if_neg (by simpa using ha), if_neg ha]
def water_Payoff_s.f (b r m f e i w fe g bal lvl du cnt sus late day : Int) : Option (Int × Option Int) := if (M.In r ∧ M.In f ∧ M.In fe ∧ M.In du) ∧ M.In day then some (if M.askOk b r m f e i w fe g bal lvl du cnt sus late day 1 then (if bal = 0 then (0, some 7) else (bal + late + M.months day 3600 du * M.month bal r, none)) else (0, some 1)) else none
theorem water_Payoff_s.calls (a0_0 : Int) (a0_1 : Int) (a0_2 : Int) (a0_3 : Int) (a0_4 : Int) (a0_5 : Int) (a0_6 : Int) (a0_7 : Int) (a0_8 : Int) (a0_9 : Int) (a0_10 : Int) (a0_11 : Int) (a0_12 : Int) (a0_13 : Int) (a0_14 : Int) (a1 : Int) (r1 : Int) (r2 : Option Int) (w : World) (h : water_Payoff_s.f a0_0 a0_1 a0_2 a0_3 a0_4 a0_5 a0_6 a0_7 a0_8 a0_9 a0_10 a0_11 a0_12 a0_13 a0_14 a1 = some (r1, r2)) :
  Calls Try.prog 17 #[.agg #[.int .i64 a0_0, .int .i64 a0_1, .int .i64 a0_2, .int .i64 a0_3, .int .i64 a0_4, .int .i64 a0_5, .int .i64 a0_6, .int .i64 a0_7, .int .i64 a0_8, .int .i64 a0_9, .int .i64 a0_10, .int .i64 a0_11, .int .i64 a0_12, .int .i64 a0_13, .int .i64 a0_14], .int .i64 a1] w fun e w' => e = .returned (.tuple #[.int .i64 r1, errW r2]) ∧ Below w.heap.size w w' := by
 unfold water_Payoff_s.f at h
 split at h
 ·rename_i hr
  exact water_Payoff.calls (3600) a0_0 a0_1 a0_2 a0_3 a0_4 a0_5 a0_6 a0_7 a0_8 a0_9 a0_10 a0_11 a0_12 a0_13 a0_14 a1 r1 r2 w ((water_Payoff.tells a0_0 a0_1 a0_2 a0_3 a0_4 a0_5 a0_6 a0_7 a0_8 a0_9 a0_10 a0_11 a0_12 a0_13 a0_14 a1 hr (3600) (Nat.le_refl _)).trans h)
 ·cases h
theorem water_Payoff_s.at_ {b r m f e i w fe g bal lvl du cnt sus late day : Int} (h : (M.In r ∧ M.In f ∧ M.In fe ∧ M.In du) ∧ M.In day) : water_Payoff_s.f b r m f e i w fe g bal lvl du cnt sus late day = some (if M.askOk b r m f e i w fe g bal lvl du cnt sus late day 1 then (if bal = 0 then (0, some 7) else (bal + late + M.months day 3600 du * M.month bal r, none)) else (0, some 1)) := by unfold water_Payoff_s.f; rw [if_pos h]

end Go.Proofs.Ytimobafoidplaaa.P
