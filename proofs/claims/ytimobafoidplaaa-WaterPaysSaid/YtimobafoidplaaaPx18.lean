-- Written by a program of this session out of the translation of the seat: Lean functions and the proofs that the Go functions come to them.
import Derived.Test.YtimobafoidplaaaPx0
import Derived.Test.YtimobafoidplaaaPx15
import Derived.Test.YtimobafoidplaaaPx16
import Derived.Test.YtimobafoidplaaaPx17
namespace Go.Proofs.Ytimobafoidplaaa.P
open Go.RowKit Go.Proofs.YtimobafoidplaaaW.PrintWords Go.Proofs.YtimobafoidplaaaW.PrintLast Go.Proofs.YtimobafoidplaaaW.PrintMore
attribute [local go_sem] max2_int min2_int max_two min_two max_three min_three max_four min_four   -- for this text's walks alone
set_option linter.unusedVariables false
set_option linter.unusedSimpArgs false

/-! ### trivetref11_May_s: function 29, told plainly -/
theorem trivetref11_May.tells (b r m f e i w fe g : Int) (h : M.In f ∧ M.In fe ∧ M.In g) (k : Nat) (hk : 4 ≤ k) : trivetref11_May.f k b r m f e i w fe g = some (decide (M.termsOk b r m f e i w fe g)) := by
 obtain ⟨k, rfl⟩ : ∃ m, k = m + 4 := ⟨k - 4, by omega⟩
 have out : ¬ M.termsOk b r m f e i w fe g → ∀ x y z, trivetref11_May.j0 (k + 4) true b r m f e i w fe g x y z = some (decide (M.termsOk b r m f e i w fe g)) := by
  intro hn x y z
  rw [decide_eq_false hn]
  simp [trivetref11_May.j0]
 unfold trivetref11_May.f
 by_cases h1 : -25567 ≤ f ∧ f ≤ 84005
 ·rw [trivetref04_Of_s.yes h1, Option.bind_some]
  simp only [if_true]
  by_cases h2 : M.dy f = 1
  ·have hf : M.firstOk f := ⟨h1.1, h1.2, h2⟩
   have fd := M.first_date hf
   rw [if_pos h2]
   by_cases h4 : m < 1
   ·rw [if_pos h4]; exact out (fun hh => by have := hh.2.2; omega) _ _ _
   rw [if_neg h4]
   by_cases h5 : m > 480
   ·rw [decide_eq_true h5]; exact out (fun hh => by have := hh.2.2; omega) _ _ _
   rw [decide_eq_false h5]
   simp only [trivetref11_May.j0]
   rw [if_neg (by decide), h2]
   have rest : ∀ x : Bool, (x = true ↔ M.inYears (M.m0 f + m)) → (if b ≥ 1 then (if b ≤ 10000000000000 then (if e ≥ 0 then trivetref11_May.j1 (k + 3) x (decide (e ≤ 10000000000000)) b r m f e i w fe g else trivetref11_May.j1 (k + 3) x false b r m f e i w fe g) else trivetref11_May.j1 (k + 3) x false b r m f e i w fe g) else trivetref11_May.j1 (k + 3) x false b r m f e i w fe g) = some (decide (M.termsOk b r m f e i w fe g)) := by
    intro x hx
    have j3 : ∀ z : Bool, trivetref11_May.j3 (k + 1) z = some z := fun z => by simp [trivetref11_May.j3]
    have j2 : ∀ p q : Bool, trivetref11_May.j2 (k + 2) x p q b r m f e i w fe g = some (decide (x = true ∧ p = true ∧ q = true ∧ i ≥ 1 ∧ i ≤ 64 ∧ w ≥ 1 ∧ w ≤ 3)) := by
     intro p q
     simp only [trivetref11_May.j2, j3, M.and_if]
    have j1 : ∀ p : Bool, trivetref11_May.j1 (k + 3) x p b r m f e i w fe g = some (decide (x = true ∧ p = true ∧ (r ≥ 0 ∧ r ≤ 300000 ∧ fe ≥ 0 ∧ g ≥ 0 ∧ fe ≤ 300000 ∧ g ≤ 300000 ∧ wrap64 (fe + g) ≤ r) ∧ i ≥ 1 ∧ i ≤ 64 ∧ w ≥ 1 ∧ w ≤ 3)) := by
     intro p
     simp only [trivetref11_May.j1, j2]
     by_cases c1 : r ≥ 0 <;> by_cases c2 : r ≤ 300000 <;> by_cases c3 : fe ≥ 0 <;> by_cases c4 : g ≥ 0 <;> simp only [c1, c2, c3, c4, if_true, if_false, true_and, false_and, and_false, Bool.false_eq_true, decide_eq_true_eq]
     by_cases c5 : fe ≤ 300000 <;> by_cases c6 : g ≤ 300000 <;> simp only [c5, c6, if_true, if_false, true_and, false_and, and_false, Bool.false_eq_true, decide_eq_true_eq]
    simp only [j1]
    have fin : ∀ p : Bool, (p = true ↔ (b ≥ 1 ∧ b ≤ 10000000000000 ∧ e ≥ 0 ∧ e ≤ 10000000000000)) → some (decide (x = true ∧ p = true ∧ (r ≥ 0 ∧ r ≤ 300000 ∧ fe ≥ 0 ∧ g ≥ 0 ∧ fe ≤ 300000 ∧ g ≤ 300000 ∧ wrap64 (fe + g) ≤ r) ∧ i ≥ 1 ∧ i ≤ 64 ∧ w ≥ 1 ∧ w ≤ 3)) = some (decide (M.termsOk b r m f e i w fe g)) := by
     intro p hp
     refine congrArg some (decide_eq_decide.mpr ?_)
     rw [hx, hp]
     unfold M.termsOk M.moneyOk
     constructor
     ·rintro ⟨a1, a2, a3, a4⟩
      have := a3.2.2.2.2.2.2
      rw [M.w64_id (by omega) (by omega)] at this
      exact ⟨hf, by omega, by omega, by omega, by omega, by omega, by omega, by omega, a1⟩
     ·rintro ⟨a1, a2, a3, a4, a5, a6, a7, a8, a9⟩
      rw [M.w64_id (by omega) (by omega)]
      exact ⟨a9, by omega, by omega, by omega⟩
    by_cases c1 : b ≥ 1
    ·rw [if_pos c1]
     by_cases c2 : b ≤ 10000000000000
     ·rw [if_pos c2]
      by_cases c3 : e ≥ 0
      ·rw [if_pos c3]; exact fin _ (by simp only [decide_eq_true_eq]; omega)
      ·rw [if_neg c3]; exact fin _ (by simp only [Bool.false_eq_true, false_iff]; omega)
     ·rw [if_neg c2]; exact fin _ (by simp only [Bool.false_eq_true, false_iff]; omega)
    ·rw [if_neg c1]; exact fin _ (by simp only [Bool.false_eq_true, false_iff]; omega)
   by_cases hy : M.inYears (M.m0 f + m)
   ·rw [trivetref04_Months_s.yes fd.1 ⟨by omega, by omega, hy⟩, Option.bind_some]
    exact rest true ⟨fun _ => hy, fun _ => rfl⟩
   ·rw [trivetref04_Months_s.no fd.1 (fun hh => hy hh.2.2), Option.bind_some]
    exact rest false ⟨fun hh => (by cases hh), fun hh => absurd hh hy⟩
  ·rw [if_neg h2]
   exact out (fun hh => h2 hh.1.2.2) _ _ _
 ·rw [trivetref04_Of_s.no h.1 h1, Option.bind_some]
  simp only [Bool.false_eq_true, if_false]
  exact out (fun hh => h1 ⟨hh.1.1, hh.1.2.1⟩) _ _ _
def trivetref11_May_s.f (b r m f e i w fe g : Int) : Option Bool := if M.In f ∧ M.In fe ∧ M.In g then some (decide (M.termsOk b r m f e i w fe g)) else none
theorem trivetref11_May_s.calls (a0_0 : Int) (a0_1 : Int) (a0_2 : Int) (a0_3 : Int) (a0_4 : Int) (a0_5 : Int) (a0_6 : Int) (a0_7 : Int) (a0_8 : Int) (r : Bool) (w : World) (h : trivetref11_May_s.f a0_0 a0_1 a0_2 a0_3 a0_4 a0_5 a0_6 a0_7 a0_8 = some r) :
  Calls Try.prog 29 #[.agg #[.int .i64 a0_0, .int .i64 a0_1, .int .i64 a0_2, .int .i64 a0_3, .int .i64 a0_4, .int .i64 a0_5, .int .i64 a0_6, .int .i64 a0_7, .int .i64 a0_8]] w fun e w' => e = .returned (.bool r) ∧ Below w.heap.size w w' := by
 unfold trivetref11_May_s.f at h
 split at h
 ·rename_i hr
  exact trivetref11_May.calls (4) a0_0 a0_1 a0_2 a0_3 a0_4 a0_5 a0_6 a0_7 a0_8 r w ((trivetref11_May.tells a0_0 a0_1 a0_2 a0_3 a0_4 a0_5 a0_6 a0_7 a0_8 hr (4) (Nat.le_refl _)).trans h)
 ·cases h
theorem trivetref11_May_s.at_ {b r m f e i w fe g : Int} (h : M.In f ∧ M.In fe ∧ M.In g) : trivetref11_May_s.f b r m f e i w fe g = some (decide (M.termsOk b r m f e i w fe g)) := by unfold trivetref11_May_s.f; rw [if_pos h]

/-! ### trivetref13_money: function 30 -/
def trivetref13_money.f (a0 : Int) : Option (Bool) := if a0 ≥ 0 then (some (decide (a0 ≤ 10000000000000))) else (some false)
set_option maxHeartbeats 8000000 in
set_option maxRecDepth 100000 in
theorem trivetref13_money.calls (a0 : Int) (r : Bool) (w : World) (h : trivetref13_money.f a0 = some r) :
  Calls Try.prog 30 #[.int .i64 a0] w fun e w' => e = .returned (.bool r) ∧ Drawn0 w w' := by
 have H : (if a0 ≥ 0 then (some (decide (a0 ≤ 10000000000000))) else (some false)) = some r := h
 clear h
 by_cases c2 : a0 ≥ 0
 ·rw [if_pos c2] at H
  have c2b0 : decide (0 ≤ a0) = true := decide_eq_true c2
  clear c2
  obtain rfl := Option.some.inj H
  go_enter Try.func30, Try.ntmps30
  go_wp2
  go_ret
  exact ⟨by first | rfl | (simp; done) | (simp [*]; done), by repeat (first | exact Drawn0.refl _ | apply Drawn0.step)⟩
 ·rw [if_neg c2] at H
  have c2b0 : decide (0 ≤ a0) = false := decide_eq_false c2
  clear c2
  obtain rfl := Option.some.inj H
  go_enter Try.func30, Try.ntmps30
  go_wp2
  go_ret
  exact ⟨by first | rfl | (simp; done) | (simp [*]; done), by repeat (first | exact Drawn0.refl _ | apply Drawn0.step)⟩

/-! ### trivetref13_money_s: function 30, told plainly -/
theorem trivetref13_money.tells (v : Int) : trivetref13_money.f v = some (decide (M.cent v)) := by
 unfold trivetref13_money.f M.cent
 exact M.and_if _ _
def trivetref13_money_s.f (v : Int) : Option Bool := some (decide (M.cent v))
theorem trivetref13_money_s.calls (a0 : Int) (r : Bool) (w : World) (h : trivetref13_money_s.f a0 = some r) :
  Calls Try.prog 30 #[.int .i64 a0] w fun e w' => e = .returned (.bool r) ∧ Drawn0 w w' := by
 exact trivetref13_money.calls a0 r w ((trivetref13_money.tells a0).trans h)
theorem trivetref13_money_s.at_ (v : Int) : trivetref13_money_s.f v = some (decide (M.cent v)) := rfl

/-! ### trivetref13_May: function 15 -/
def trivetref13_May.f (a0_0 : Int) (a0_1 : Int) (a0_2 : Int) (a0_3 : Int) (a0_4 : Int) (a0_5 : Int) (a0_6 : Int) (a0_7 : Int) (a0_8 : Int) (a0_9 : Int) (a0_10 : Int) (a0_11 : Int) (a0_12 : Int) (a0_13 : Int) (a0_14 : Int) : Option (Bool) := (trivetref04_Of_s.f a0_11).bind fun bt347 => ((trivetref11_May_s.f a0_0 a0_1 a0_2 a0_3 a0_4 a0_5 a0_6 a0_7 a0_8).bind fun t352 => (if bt347.2.2.2 = true then (if bt347.2.2.1 = 1 then (if t352 = true then ((trivetref13_money_s.f a0_9).bind fun t353 => (if t353 = true then (if a0_10 ≥ 1 then (if a0_10 ≤ 20000000000000 then (if a0_12 ≥ 0 then (if a0_12 ≤ 480 then ((trivetref13_money_s.f a0_13).bind fun t354 => (if t354 = true then ((trivetref13_money_s.f a0_14).bind fun t355 => (some t355)) else (some false))) else (some false)) else (some false)) else (some false)) else (some false)) else (some false))) else (some false)) else (some false)) else (some false)))
set_option maxHeartbeats 8000000 in
set_option maxRecDepth 100000 in
theorem trivetref13_May.calls (a0_0 : Int) (a0_1 : Int) (a0_2 : Int) (a0_3 : Int) (a0_4 : Int) (a0_5 : Int) (a0_6 : Int) (a0_7 : Int) (a0_8 : Int) (a0_9 : Int) (a0_10 : Int) (a0_11 : Int) (a0_12 : Int) (a0_13 : Int) (a0_14 : Int) (r : Bool) (w : World) (h : trivetref13_May.f a0_0 a0_1 a0_2 a0_3 a0_4 a0_5 a0_6 a0_7 a0_8 a0_9 a0_10 a0_11 a0_12 a0_13 a0_14 = some r) :
  Calls Try.prog 15 #[.agg #[.int .i64 a0_0, .int .i64 a0_1, .int .i64 a0_2, .int .i64 a0_3, .int .i64 a0_4, .int .i64 a0_5, .int .i64 a0_6, .int .i64 a0_7, .int .i64 a0_8, .int .i64 a0_9, .int .i64 a0_10, .int .i64 a0_11, .int .i64 a0_12, .int .i64 a0_13, .int .i64 a0_14]] w fun e w' => e = .returned (.bool r) ∧ Below w.heap.size w w' := by
 have hu25 := Try.underlying25
 have hu53 := Try.underlying53
 have hu23 := Try.underlying23
 have HB := ka (Below.refl w.heap.size w)
 have H : ((trivetref04_Of_s.f a0_11).bind fun bt347 => ((trivetref11_May_s.f a0_0 a0_1 a0_2 a0_3 a0_4 a0_5 a0_6 a0_7 a0_8).bind fun t352 => (if bt347.2.2.2 = true then (if bt347.2.2.1 = 1 then (if t352 = true then ((trivetref13_money_s.f a0_9).bind fun t353 => (if t353 = true then (if a0_10 ≥ 1 then (if a0_10 ≤ 20000000000000 then (if a0_12 ≥ 0 then (if a0_12 ≤ 480 then ((trivetref13_money_s.f a0_13).bind fun t354 => (if t354 = true then ((trivetref13_money_s.f a0_14).bind fun t355 => (some t355)) else (some false))) else (some false)) else (some false)) else (some false)) else (some false)) else (some false))) else (some false)) else (some false)) else (some false)))) = some r := h
 clear h
 replace H := Option.bind_eq_some_iff.mp H
 obtain ⟨⟨t347, t348, t349, t350⟩, A20, H⟩ := H
 replace H : ((trivetref11_May_s.f a0_0 a0_1 a0_2 a0_3 a0_4 a0_5 a0_6 a0_7 a0_8).bind fun t352 => (if t350 = true then (if t349 = 1 then (if t352 = true then ((trivetref13_money_s.f a0_9).bind fun t353 => (if t353 = true then (if a0_10 ≥ 1 then (if a0_10 ≤ 20000000000000 then (if a0_12 ≥ 0 then (if a0_12 ≤ 480 then ((trivetref13_money_s.f a0_13).bind fun t354 => (if t354 = true then ((trivetref13_money_s.f a0_14).bind fun t355 => (some t355)) else (some false))) else (some false)) else (some false)) else (some false)) else (some false)) else (some false))) else (some false)) else (some false)) else (some false))) = some r := H
 have A2 := ka A20
 clear A20
 replace H := Option.bind_eq_some_iff.mp H
 obtain ⟨t352, A30, H⟩ := H
 replace H : (if t350 = true then (if t349 = 1 then (if t352 = true then ((trivetref13_money_s.f a0_9).bind fun t353 => (if t353 = true then (if a0_10 ≥ 1 then (if a0_10 ≤ 20000000000000 then (if a0_12 ≥ 0 then (if a0_12 ≤ 480 then ((trivetref13_money_s.f a0_13).bind fun t354 => (if t354 = true then ((trivetref13_money_s.f a0_14).bind fun t355 => (some t355)) else (some false))) else (some false)) else (some false)) else (some false)) else (some false)) else (some false))) else (some false)) else (some false)) else (some false)) = some r := H
 have A3 := ka A30
 clear A30
 by_cases c4 : t350 = true
 ·subst c4
  have H1 : (if t349 = 1 then (if t352 = true then ((trivetref13_money_s.f a0_9).bind fun t353 => (if t353 = true then (if a0_10 ≥ 1 then (if a0_10 ≤ 20000000000000 then (if a0_12 ≥ 0 then (if a0_12 ≤ 480 then ((trivetref13_money_s.f a0_13).bind fun t354 => (if t354 = true then ((trivetref13_money_s.f a0_14).bind fun t355 => (some t355)) else (some false))) else (some false)) else (some false)) else (some false)) else (some false)) else (some false))) else (some false)) else (some false)) = some r := by rw [if_pos rfl] at H; exact H
  clear H
  have H := H1
  clear H1
  by_cases c5 : t349 = 1
  ·rw [if_pos c5] at H
   have c5b0 : (t349 == 1) = true := beq_iff_eq.mpr c5
   have c5b1 : (t349 != 1) = false := bne_eq_false_iff_eq.mpr c5
   clear c5
   by_cases c6 : t352 = true
   ·subst c6
    have H1 : ((trivetref13_money_s.f a0_9).bind fun t353 => (if t353 = true then (if a0_10 ≥ 1 then (if a0_10 ≤ 20000000000000 then (if a0_12 ≥ 0 then (if a0_12 ≤ 480 then ((trivetref13_money_s.f a0_13).bind fun t354 => (if t354 = true then ((trivetref13_money_s.f a0_14).bind fun t355 => (some t355)) else (some false))) else (some false)) else (some false)) else (some false)) else (some false)) else (some false))) = some r := by rw [if_pos rfl] at H; exact H
    clear H
    have H := H1
    clear H1
    replace H := Option.bind_eq_some_iff.mp H
    obtain ⟨t353, A70, H⟩ := H
    replace H : (if t353 = true then (if a0_10 ≥ 1 then (if a0_10 ≤ 20000000000000 then (if a0_12 ≥ 0 then (if a0_12 ≤ 480 then ((trivetref13_money_s.f a0_13).bind fun t354 => (if t354 = true then ((trivetref13_money_s.f a0_14).bind fun t355 => (some t355)) else (some false))) else (some false)) else (some false)) else (some false)) else (some false)) else (some false)) = some r := H
    have A7 := ka A70
    clear A70
    by_cases c8 : t353 = true
    ·subst c8
     have H1 : (if a0_10 ≥ 1 then (if a0_10 ≤ 20000000000000 then (if a0_12 ≥ 0 then (if a0_12 ≤ 480 then ((trivetref13_money_s.f a0_13).bind fun t354 => (if t354 = true then ((trivetref13_money_s.f a0_14).bind fun t355 => (some t355)) else (some false))) else (some false)) else (some false)) else (some false)) else (some false)) = some r := by rw [if_pos rfl] at H; exact H
     clear H
     have H := H1
     clear H1
     by_cases c9 : a0_10 ≥ 1
     ·rw [if_pos c9] at H
      have c9b0 : decide (1 ≤ a0_10) = true := decide_eq_true c9
      clear c9
      by_cases c10 : a0_10 ≤ 20000000000000
      ·rw [if_pos c10] at H
       have c10b0 : decide (a0_10 ≤ 20000000000000) = true := decide_eq_true c10
       clear c10
       by_cases c11 : a0_12 ≥ 0
       ·rw [if_pos c11] at H
        have c11b0 : decide (0 ≤ a0_12) = true := decide_eq_true c11
        clear c11
        by_cases c12 : a0_12 ≤ 480
        ·rw [if_pos c12] at H
         have c12b0 : decide (a0_12 ≤ 480) = true := decide_eq_true c12
         clear c12
         replace H := Option.bind_eq_some_iff.mp H
         obtain ⟨t354, A130, H⟩ := H
         replace H : (if t354 = true then ((trivetref13_money_s.f a0_14).bind fun t355 => (some t355)) else (some false)) = some r := H
         have A13 := ka A130
         clear A130
         by_cases c14 : t354 = true
         ·subst c14
          have H1 : ((trivetref13_money_s.f a0_14).bind fun t355 => (some t355)) = some r := by rw [if_pos rfl] at H; exact H
          clear H
          have H := H1
          clear H1
          replace H := Option.bind_eq_some_iff.mp H
          obtain ⟨t355, A150, H⟩ := H
          replace H : (some t355) = some r := H
          have A15 := ka A150
          clear A150
          obtain rfl := Option.some.inj H
          go_enter Try.func15, Try.ntmps15
          go_wp2_with (first | ((with_reducible refine gate_dst (N := 1) rfl ?_); refine kx (N := 1) (cs := #[.int .i64 a0_0, .int .i64 a0_1, .int .i64 a0_2, .int .i64 a0_3, .int .i64 a0_4, .int .i64 a0_5, .int .i64 a0_6, .int .i64 a0_7, .int .i64 a0_8, .int .i64 a0_9, .int .i64 a0_10, .int .i64 a0_11, .int .i64 a0_12, .int .i64 a0_13, .int .i64 a0_14]) (t := 25) ?_; intro gb346 hg w16 hbox hb; have n0_ := ka (below_step (kw HB.out) hb); have n1_ := ka (hbox); have n2_ := ka ((by rw [hg]; exact (below_size (kw HB.out)) : w.heap.size ≤ gb346)); have n3_ := n2_; clear HB; have HB := n0_; have BK346 := n1_; have GW346 := n2_; have GE346 := n3_; clear n0_ n1_ n2_ n3_; clear hb hbox hg; have hcz17 := blkAll15 BK346.out) | ((with_reducible refine gate_callee (f := 24) rfl ?_); refine kg (some 9) rfl rfl Try.func24 (by kernel_rfl) rfl #[.int .i64 a0_11] rfl ?_; (with_reducible refine (trivetref04_Of_s.calls a0_11 t347 t348 t349 true _ A2.out).mono ?_); rintro e w18 ⟨rfl, hb⟩; refine ⟨_, rfl, ?_⟩; have n0_ := ka (blk_below (g := gb346) (kz BK346.out) hb); have n1_ := ka (below_step (kw HB.out) hb); clear BK346; clear HB; have BK346 := n0_; have HB := n1_; clear n0_ n1_; (try clear hb); (try clear hb2); (try clear hk); (try clear hi)) | ((with_reducible refine gate_dst (N := 3) rfl ?_); refine kx (N := 3) (cs := #[.int .i64 0, .int .i64 0, .int .i64 0]) (t := 53) ?_; intro gb351 hg w19 hbox hb; have n0_ := ka (blk_below (g := gb346) (kz BK346.out) hb); have n1_ := ka (below_step (kw HB.out) hb); have n2_ := ka (hbox); have n3_ := ka ((by rw [hg]; exact (below_size (kw HB.out)) : w.heap.size ≤ gb351)); have n4_ := n3_; have n5_ := ka ((by rw [hg]; exact Nat.ne_of_lt (blk_lt (g := gb346) (kz BK346.out)) : gb346 ≠ gb351)); have n6_ := ka n5_.out.symm; clear BK346; clear HB; have BK346 := n0_; have HB := n1_; have BK351 := n2_; have GW351 := n3_; have GE351 := n4_; have NB346_351 := n5_; have NB351_346 := n6_; clear n0_ n1_ n2_ n3_ n4_ n5_ n6_; clear hb hbox hg; have hnb20 := NB351_346.out; have hnc20 := NB346_351.out; have hcz21 := blkAll3 BK351.out; have hcz22 := blkAll15 BK346.out) | ((with_reducible refine gate_callee (f := 29) rfl ?_); refine kg (some 14) rfl rfl Try.func29 (by kernel_rfl) rfl #[.agg #[.int .i64 a0_0, .int .i64 a0_1, .int .i64 a0_2, .int .i64 a0_3, .int .i64 a0_4, .int .i64 a0_5, .int .i64 a0_6, .int .i64 a0_7, .int .i64 a0_8]] rfl ?_; (with_reducible refine (trivetref11_May_s.calls a0_0 a0_1 a0_2 a0_3 a0_4 a0_5 a0_6 a0_7 a0_8 true _ A3.out).mono ?_); rintro e w23 ⟨rfl, hb⟩; refine ⟨_, rfl, ?_⟩; have n0_ := ka (blk_below (g := gb346) (o := .cells #[.int .i64 a0_0, .int .i64 a0_1, .int .i64 a0_2, .int .i64 a0_3, .int .i64 a0_4, .int .i64 a0_5, .int .i64 a0_6, .int .i64 a0_7, .int .i64 a0_8, .int .i64 a0_9, .int .i64 a0_10, .int .i64 a0_11, .int .i64 a0_12, .int .i64 a0_13, .int .i64 a0_14] 25 (0, 0)) (by (with_reducible repeat (first | apply kb1 | apply kb2 | apply kb3 | refine kb4 ?_ NB346_351.out _)); exact BK346.out) hb); have n1_ := ka (blk_below (g := gb351) (o := .cells #[.int .i64 t347, .int .i64 t348, .int .i64 t349] 53 (0, 0)) (by (with_reducible repeat (first | apply kb1 | apply kb2 | apply kb3 | apply blkPut3_2 | apply blkPut3_1 | apply blkPut3_0)); exact BK351.out) hb); have n2_ := ka (below_step (kw HB.out) hb); clear BK346; clear BK351; clear HB; have BK346 := n0_; have BK351 := n1_; have HB := n2_; clear n0_ n1_ n2_; (try clear hb); (try clear hb2); (try clear hk); (try clear hi); have hcz24 := blkAll3 BK351.out; have hcz25 := blkAll15 BK346.out) | (go_at_call 30; (with_reducible refine (trivetref13_money_s.calls a0_9 true _ A7.out).mono ?_); rintro e w' ⟨rfl, ⟨nd, rfl⟩⟩) | (go_at_call 30; (with_reducible refine (trivetref13_money_s.calls a0_13 true _ A13.out).mono ?_); rintro e w' ⟨rfl, ⟨nd, rfl⟩⟩) | (go_at_call 30; (with_reducible refine (trivetref13_money_s.calls a0_14 t355 _ A15.out).mono ?_); rintro e w' ⟨rfl, ⟨nd, rfl⟩⟩))
          go_ret
          exact ⟨by first | rfl | (simp [errW_none, errW_some] <;> rfl) | (simp [*, errW_none, errW_some] <;> rfl), by repeat (first | (with_reducible first | exact HB.out | apply kc1 | apply kc2 | apply kc3 | refine kc4 ?_ GE346.out | refine kc4 ?_ GE351.out) | exact HB.out)⟩
         ·replace c14 := Bool.eq_false_iff.mpr c14
          subst c14
          have H1 : (some false) = some r := by rw [if_neg (show ¬ (false = true) by decide)] at H; exact H
          clear H
          have H := H1
          clear H1
          obtain rfl := Option.some.inj H
          go_enter Try.func15, Try.ntmps15
          go_wp2_with (first | ((with_reducible refine gate_dst (N := 1) rfl ?_); refine kx (N := 1) (cs := #[.int .i64 a0_0, .int .i64 a0_1, .int .i64 a0_2, .int .i64 a0_3, .int .i64 a0_4, .int .i64 a0_5, .int .i64 a0_6, .int .i64 a0_7, .int .i64 a0_8, .int .i64 a0_9, .int .i64 a0_10, .int .i64 a0_11, .int .i64 a0_12, .int .i64 a0_13, .int .i64 a0_14]) (t := 25) ?_; intro gb346 hg w26 hbox hb; have n0_ := ka (below_step (kw HB.out) hb); have n1_ := ka (hbox); have n2_ := ka ((by rw [hg]; exact (below_size (kw HB.out)) : w.heap.size ≤ gb346)); have n3_ := n2_; clear HB; have HB := n0_; have BK346 := n1_; have GW346 := n2_; have GE346 := n3_; clear n0_ n1_ n2_ n3_; clear hb hbox hg; have hcz27 := blkAll15 BK346.out) | ((with_reducible refine gate_callee (f := 24) rfl ?_); refine kg (some 9) rfl rfl Try.func24 (by kernel_rfl) rfl #[.int .i64 a0_11] rfl ?_; (with_reducible refine (trivetref04_Of_s.calls a0_11 t347 t348 t349 true _ A2.out).mono ?_); rintro e w28 ⟨rfl, hb⟩; refine ⟨_, rfl, ?_⟩; have n0_ := ka (blk_below (g := gb346) (kz BK346.out) hb); have n1_ := ka (below_step (kw HB.out) hb); clear BK346; clear HB; have BK346 := n0_; have HB := n1_; clear n0_ n1_; (try clear hb); (try clear hb2); (try clear hk); (try clear hi)) | ((with_reducible refine gate_dst (N := 3) rfl ?_); refine kx (N := 3) (cs := #[.int .i64 0, .int .i64 0, .int .i64 0]) (t := 53) ?_; intro gb351 hg w29 hbox hb; have n0_ := ka (blk_below (g := gb346) (kz BK346.out) hb); have n1_ := ka (below_step (kw HB.out) hb); have n2_ := ka (hbox); have n3_ := ka ((by rw [hg]; exact (below_size (kw HB.out)) : w.heap.size ≤ gb351)); have n4_ := n3_; have n5_ := ka ((by rw [hg]; exact Nat.ne_of_lt (blk_lt (g := gb346) (kz BK346.out)) : gb346 ≠ gb351)); have n6_ := ka n5_.out.symm; clear BK346; clear HB; have BK346 := n0_; have HB := n1_; have BK351 := n2_; have GW351 := n3_; have GE351 := n4_; have NB346_351 := n5_; have NB351_346 := n6_; clear n0_ n1_ n2_ n3_ n4_ n5_ n6_; clear hb hbox hg; have hnb30 := NB351_346.out; have hnc30 := NB346_351.out; have hcz31 := blkAll3 BK351.out; have hcz32 := blkAll15 BK346.out) | ((with_reducible refine gate_callee (f := 29) rfl ?_); refine kg (some 14) rfl rfl Try.func29 (by kernel_rfl) rfl #[.agg #[.int .i64 a0_0, .int .i64 a0_1, .int .i64 a0_2, .int .i64 a0_3, .int .i64 a0_4, .int .i64 a0_5, .int .i64 a0_6, .int .i64 a0_7, .int .i64 a0_8]] rfl ?_; (with_reducible refine (trivetref11_May_s.calls a0_0 a0_1 a0_2 a0_3 a0_4 a0_5 a0_6 a0_7 a0_8 true _ A3.out).mono ?_); rintro e w33 ⟨rfl, hb⟩; refine ⟨_, rfl, ?_⟩; have n0_ := ka (blk_below (g := gb346) (o := .cells #[.int .i64 a0_0, .int .i64 a0_1, .int .i64 a0_2, .int .i64 a0_3, .int .i64 a0_4, .int .i64 a0_5, .int .i64 a0_6, .int .i64 a0_7, .int .i64 a0_8, .int .i64 a0_9, .int .i64 a0_10, .int .i64 a0_11, .int .i64 a0_12, .int .i64 a0_13, .int .i64 a0_14] 25 (0, 0)) (by (with_reducible repeat (first | apply kb1 | apply kb2 | apply kb3 | refine kb4 ?_ NB346_351.out _)); exact BK346.out) hb); have n1_ := ka (blk_below (g := gb351) (o := .cells #[.int .i64 t347, .int .i64 t348, .int .i64 t349] 53 (0, 0)) (by (with_reducible repeat (first | apply kb1 | apply kb2 | apply kb3 | apply blkPut3_2 | apply blkPut3_1 | apply blkPut3_0)); exact BK351.out) hb); have n2_ := ka (below_step (kw HB.out) hb); clear BK346; clear BK351; clear HB; have BK346 := n0_; have BK351 := n1_; have HB := n2_; clear n0_ n1_ n2_; (try clear hb); (try clear hb2); (try clear hk); (try clear hi); have hcz34 := blkAll3 BK351.out; have hcz35 := blkAll15 BK346.out) | (go_at_call 30; (with_reducible refine (trivetref13_money_s.calls a0_9 true _ A7.out).mono ?_); rintro e w' ⟨rfl, ⟨nd, rfl⟩⟩) | (go_at_call 30; (with_reducible refine (trivetref13_money_s.calls a0_13 false _ A13.out).mono ?_); rintro e w' ⟨rfl, ⟨nd, rfl⟩⟩))
          go_ret
          exact ⟨by first | rfl | (simp [errW_none, errW_some] <;> rfl) | (simp [*, errW_none, errW_some] <;> rfl), by repeat (first | (with_reducible first | exact HB.out | apply kc1 | apply kc2 | apply kc3 | refine kc4 ?_ GE346.out | refine kc4 ?_ GE351.out) | exact HB.out)⟩
        ·rw [if_neg c12] at H
         have c12b0 : decide (a0_12 ≤ 480) = false := decide_eq_false c12
         clear c12
         obtain rfl := Option.some.inj H
         go_enter Try.func15, Try.ntmps15
         go_wp2_with (first | ((with_reducible refine gate_dst (N := 1) rfl ?_); refine kx (N := 1) (cs := #[.int .i64 a0_0, .int .i64 a0_1, .int .i64 a0_2, .int .i64 a0_3, .int .i64 a0_4, .int .i64 a0_5, .int .i64 a0_6, .int .i64 a0_7, .int .i64 a0_8, .int .i64 a0_9, .int .i64 a0_10, .int .i64 a0_11, .int .i64 a0_12, .int .i64 a0_13, .int .i64 a0_14]) (t := 25) ?_; intro gb346 hg w36 hbox hb; have n0_ := ka (below_step (kw HB.out) hb); have n1_ := ka (hbox); have n2_ := ka ((by rw [hg]; exact (below_size (kw HB.out)) : w.heap.size ≤ gb346)); have n3_ := n2_; clear HB; have HB := n0_; have BK346 := n1_; have GW346 := n2_; have GE346 := n3_; clear n0_ n1_ n2_ n3_; clear hb hbox hg; have hcz37 := blkAll15 BK346.out) | ((with_reducible refine gate_callee (f := 24) rfl ?_); refine kg (some 9) rfl rfl Try.func24 (by kernel_rfl) rfl #[.int .i64 a0_11] rfl ?_; (with_reducible refine (trivetref04_Of_s.calls a0_11 t347 t348 t349 true _ A2.out).mono ?_); rintro e w38 ⟨rfl, hb⟩; refine ⟨_, rfl, ?_⟩; have n0_ := ka (blk_below (g := gb346) (kz BK346.out) hb); have n1_ := ka (below_step (kw HB.out) hb); clear BK346; clear HB; have BK346 := n0_; have HB := n1_; clear n0_ n1_; (try clear hb); (try clear hb2); (try clear hk); (try clear hi)) | ((with_reducible refine gate_dst (N := 3) rfl ?_); refine kx (N := 3) (cs := #[.int .i64 0, .int .i64 0, .int .i64 0]) (t := 53) ?_; intro gb351 hg w39 hbox hb; have n0_ := ka (blk_below (g := gb346) (kz BK346.out) hb); have n1_ := ka (below_step (kw HB.out) hb); have n2_ := ka (hbox); have n3_ := ka ((by rw [hg]; exact (below_size (kw HB.out)) : w.heap.size ≤ gb351)); have n4_ := n3_; have n5_ := ka ((by rw [hg]; exact Nat.ne_of_lt (blk_lt (g := gb346) (kz BK346.out)) : gb346 ≠ gb351)); have n6_ := ka n5_.out.symm; clear BK346; clear HB; have BK346 := n0_; have HB := n1_; have BK351 := n2_; have GW351 := n3_; have GE351 := n4_; have NB346_351 := n5_; have NB351_346 := n6_; clear n0_ n1_ n2_ n3_ n4_ n5_ n6_; clear hb hbox hg; have hnb40 := NB351_346.out; have hnc40 := NB346_351.out; have hcz41 := blkAll3 BK351.out; have hcz42 := blkAll15 BK346.out) | ((with_reducible refine gate_callee (f := 29) rfl ?_); refine kg (some 14) rfl rfl Try.func29 (by kernel_rfl) rfl #[.agg #[.int .i64 a0_0, .int .i64 a0_1, .int .i64 a0_2, .int .i64 a0_3, .int .i64 a0_4, .int .i64 a0_5, .int .i64 a0_6, .int .i64 a0_7, .int .i64 a0_8]] rfl ?_; (with_reducible refine (trivetref11_May_s.calls a0_0 a0_1 a0_2 a0_3 a0_4 a0_5 a0_6 a0_7 a0_8 true _ A3.out).mono ?_); rintro e w43 ⟨rfl, hb⟩; refine ⟨_, rfl, ?_⟩; have n0_ := ka (blk_below (g := gb346) (o := .cells #[.int .i64 a0_0, .int .i64 a0_1, .int .i64 a0_2, .int .i64 a0_3, .int .i64 a0_4, .int .i64 a0_5, .int .i64 a0_6, .int .i64 a0_7, .int .i64 a0_8, .int .i64 a0_9, .int .i64 a0_10, .int .i64 a0_11, .int .i64 a0_12, .int .i64 a0_13, .int .i64 a0_14] 25 (0, 0)) (by (with_reducible repeat (first | apply kb1 | apply kb2 | apply kb3 | refine kb4 ?_ NB346_351.out _)); exact BK346.out) hb); have n1_ := ka (blk_below (g := gb351) (o := .cells #[.int .i64 t347, .int .i64 t348, .int .i64 t349] 53 (0, 0)) (by (with_reducible repeat (first | apply kb1 | apply kb2 | apply kb3 | apply blkPut3_2 | apply blkPut3_1 | apply blkPut3_0)); exact BK351.out) hb); have n2_ := ka (below_step (kw HB.out) hb); clear BK346; clear BK351; clear HB; have BK346 := n0_; have BK351 := n1_; have HB := n2_; clear n0_ n1_ n2_; (try clear hb); (try clear hb2); (try clear hk); (try clear hi); have hcz44 := blkAll3 BK351.out; have hcz45 := blkAll15 BK346.out) | (go_at_call 30; (with_reducible refine (trivetref13_money_s.calls a0_9 true _ A7.out).mono ?_); rintro e w' ⟨rfl, ⟨nd, rfl⟩⟩))
         go_ret
         exact ⟨by first | rfl | (simp [errW_none, errW_some] <;> rfl) | (simp [*, errW_none, errW_some] <;> rfl), by repeat (first | (with_reducible first | exact HB.out | apply kc1 | apply kc2 | apply kc3 | refine kc4 ?_ GE346.out | refine kc4 ?_ GE351.out) | exact HB.out)⟩
       ·rw [if_neg c11] at H
        have c11b0 : decide (0 ≤ a0_12) = false := decide_eq_false c11
        clear c11
        obtain rfl := Option.some.inj H
        go_enter Try.func15, Try.ntmps15
        go_wp2_with (first | ((with_reducible refine gate_dst (N := 1) rfl ?_); refine kx (N := 1) (cs := #[.int .i64 a0_0, .int .i64 a0_1, .int .i64 a0_2, .int .i64 a0_3, .int .i64 a0_4, .int .i64 a0_5, .int .i64 a0_6, .int .i64 a0_7, .int .i64 a0_8, .int .i64 a0_9, .int .i64 a0_10, .int .i64 a0_11, .int .i64 a0_12, .int .i64 a0_13, .int .i64 a0_14]) (t := 25) ?_; intro gb346 hg w46 hbox hb; have n0_ := ka (below_step (kw HB.out) hb); have n1_ := ka (hbox); have n2_ := ka ((by rw [hg]; exact (below_size (kw HB.out)) : w.heap.size ≤ gb346)); have n3_ := n2_; clear HB; have HB := n0_; have BK346 := n1_; have GW346 := n2_; have GE346 := n3_; clear n0_ n1_ n2_ n3_; clear hb hbox hg; have hcz47 := blkAll15 BK346.out) | ((with_reducible refine gate_callee (f := 24) rfl ?_); refine kg (some 9) rfl rfl Try.func24 (by kernel_rfl) rfl #[.int .i64 a0_11] rfl ?_; (with_reducible refine (trivetref04_Of_s.calls a0_11 t347 t348 t349 true _ A2.out).mono ?_); rintro e w48 ⟨rfl, hb⟩; refine ⟨_, rfl, ?_⟩; have n0_ := ka (blk_below (g := gb346) (kz BK346.out) hb); have n1_ := ka (below_step (kw HB.out) hb); clear BK346; clear HB; have BK346 := n0_; have HB := n1_; clear n0_ n1_; (try clear hb); (try clear hb2); (try clear hk); (try clear hi)) | ((with_reducible refine gate_dst (N := 3) rfl ?_); refine kx (N := 3) (cs := #[.int .i64 0, .int .i64 0, .int .i64 0]) (t := 53) ?_; intro gb351 hg w49 hbox hb; have n0_ := ka (blk_below (g := gb346) (kz BK346.out) hb); have n1_ := ka (below_step (kw HB.out) hb); have n2_ := ka (hbox); have n3_ := ka ((by rw [hg]; exact (below_size (kw HB.out)) : w.heap.size ≤ gb351)); have n4_ := n3_; have n5_ := ka ((by rw [hg]; exact Nat.ne_of_lt (blk_lt (g := gb346) (kz BK346.out)) : gb346 ≠ gb351)); have n6_ := ka n5_.out.symm; clear BK346; clear HB; have BK346 := n0_; have HB := n1_; have BK351 := n2_; have GW351 := n3_; have GE351 := n4_; have NB346_351 := n5_; have NB351_346 := n6_; clear n0_ n1_ n2_ n3_ n4_ n5_ n6_; clear hb hbox hg; have hnb50 := NB351_346.out; have hnc50 := NB346_351.out; have hcz51 := blkAll3 BK351.out; have hcz52 := blkAll15 BK346.out) | ((with_reducible refine gate_callee (f := 29) rfl ?_); refine kg (some 14) rfl rfl Try.func29 (by kernel_rfl) rfl #[.agg #[.int .i64 a0_0, .int .i64 a0_1, .int .i64 a0_2, .int .i64 a0_3, .int .i64 a0_4, .int .i64 a0_5, .int .i64 a0_6, .int .i64 a0_7, .int .i64 a0_8]] rfl ?_; (with_reducible refine (trivetref11_May_s.calls a0_0 a0_1 a0_2 a0_3 a0_4 a0_5 a0_6 a0_7 a0_8 true _ A3.out).mono ?_); rintro e w53 ⟨rfl, hb⟩; refine ⟨_, rfl, ?_⟩; have n0_ := ka (blk_below (g := gb346) (o := .cells #[.int .i64 a0_0, .int .i64 a0_1, .int .i64 a0_2, .int .i64 a0_3, .int .i64 a0_4, .int .i64 a0_5, .int .i64 a0_6, .int .i64 a0_7, .int .i64 a0_8, .int .i64 a0_9, .int .i64 a0_10, .int .i64 a0_11, .int .i64 a0_12, .int .i64 a0_13, .int .i64 a0_14] 25 (0, 0)) (by (with_reducible repeat (first | apply kb1 | apply kb2 | apply kb3 | refine kb4 ?_ NB346_351.out _)); exact BK346.out) hb); have n1_ := ka (blk_below (g := gb351) (o := .cells #[.int .i64 t347, .int .i64 t348, .int .i64 t349] 53 (0, 0)) (by (with_reducible repeat (first | apply kb1 | apply kb2 | apply kb3 | apply blkPut3_2 | apply blkPut3_1 | apply blkPut3_0)); exact BK351.out) hb); have n2_ := ka (below_step (kw HB.out) hb); clear BK346; clear BK351; clear HB; have BK346 := n0_; have BK351 := n1_; have HB := n2_; clear n0_ n1_ n2_; (try clear hb); (try clear hb2); (try clear hk); (try clear hi); have hcz54 := blkAll3 BK351.out; have hcz55 := blkAll15 BK346.out) | (go_at_call 30; (with_reducible refine (trivetref13_money_s.calls a0_9 true _ A7.out).mono ?_); rintro e w' ⟨rfl, ⟨nd, rfl⟩⟩))
        go_ret
        exact ⟨by first | rfl | (simp [errW_none, errW_some] <;> rfl) | (simp [*, errW_none, errW_some] <;> rfl), by repeat (first | (with_reducible first | exact HB.out | apply kc1 | apply kc2 | apply kc3 | refine kc4 ?_ GE346.out | refine kc4 ?_ GE351.out) | exact HB.out)⟩
      ·rw [if_neg c10] at H
       have c10b0 : decide (a0_10 ≤ 20000000000000) = false := decide_eq_false c10
       clear c10
       obtain rfl := Option.some.inj H
       go_enter Try.func15, Try.ntmps15
       go_wp2_with (first | ((with_reducible refine gate_dst (N := 1) rfl ?_); refine kx (N := 1) (cs := #[.int .i64 a0_0, .int .i64 a0_1, .int .i64 a0_2, .int .i64 a0_3, .int .i64 a0_4, .int .i64 a0_5, .int .i64 a0_6, .int .i64 a0_7, .int .i64 a0_8, .int .i64 a0_9, .int .i64 a0_10, .int .i64 a0_11, .int .i64 a0_12, .int .i64 a0_13, .int .i64 a0_14]) (t := 25) ?_; intro gb346 hg w56 hbox hb; have n0_ := ka (below_step (kw HB.out) hb); have n1_ := ka (hbox); have n2_ := ka ((by rw [hg]; exact (below_size (kw HB.out)) : w.heap.size ≤ gb346)); have n3_ := n2_; clear HB; have HB := n0_; have BK346 := n1_; have GW346 := n2_; have GE346 := n3_; clear n0_ n1_ n2_ n3_; clear hb hbox hg; have hcz57 := blkAll15 BK346.out) | ((with_reducible refine gate_callee (f := 24) rfl ?_); refine kg (some 9) rfl rfl Try.func24 (by kernel_rfl) rfl #[.int .i64 a0_11] rfl ?_; (with_reducible refine (trivetref04_Of_s.calls a0_11 t347 t348 t349 true _ A2.out).mono ?_); rintro e w58 ⟨rfl, hb⟩; refine ⟨_, rfl, ?_⟩; have n0_ := ka (blk_below (g := gb346) (kz BK346.out) hb); have n1_ := ka (below_step (kw HB.out) hb); clear BK346; clear HB; have BK346 := n0_; have HB := n1_; clear n0_ n1_; (try clear hb); (try clear hb2); (try clear hk); (try clear hi)) | ((with_reducible refine gate_dst (N := 3) rfl ?_); refine kx (N := 3) (cs := #[.int .i64 0, .int .i64 0, .int .i64 0]) (t := 53) ?_; intro gb351 hg w59 hbox hb; have n0_ := ka (blk_below (g := gb346) (kz BK346.out) hb); have n1_ := ka (below_step (kw HB.out) hb); have n2_ := ka (hbox); have n3_ := ka ((by rw [hg]; exact (below_size (kw HB.out)) : w.heap.size ≤ gb351)); have n4_ := n3_; have n5_ := ka ((by rw [hg]; exact Nat.ne_of_lt (blk_lt (g := gb346) (kz BK346.out)) : gb346 ≠ gb351)); have n6_ := ka n5_.out.symm; clear BK346; clear HB; have BK346 := n0_; have HB := n1_; have BK351 := n2_; have GW351 := n3_; have GE351 := n4_; have NB346_351 := n5_; have NB351_346 := n6_; clear n0_ n1_ n2_ n3_ n4_ n5_ n6_; clear hb hbox hg; have hnb60 := NB351_346.out; have hnc60 := NB346_351.out; have hcz61 := blkAll3 BK351.out; have hcz62 := blkAll15 BK346.out) | ((with_reducible refine gate_callee (f := 29) rfl ?_); refine kg (some 14) rfl rfl Try.func29 (by kernel_rfl) rfl #[.agg #[.int .i64 a0_0, .int .i64 a0_1, .int .i64 a0_2, .int .i64 a0_3, .int .i64 a0_4, .int .i64 a0_5, .int .i64 a0_6, .int .i64 a0_7, .int .i64 a0_8]] rfl ?_; (with_reducible refine (trivetref11_May_s.calls a0_0 a0_1 a0_2 a0_3 a0_4 a0_5 a0_6 a0_7 a0_8 true _ A3.out).mono ?_); rintro e w63 ⟨rfl, hb⟩; refine ⟨_, rfl, ?_⟩; have n0_ := ka (blk_below (g := gb346) (o := .cells #[.int .i64 a0_0, .int .i64 a0_1, .int .i64 a0_2, .int .i64 a0_3, .int .i64 a0_4, .int .i64 a0_5, .int .i64 a0_6, .int .i64 a0_7, .int .i64 a0_8, .int .i64 a0_9, .int .i64 a0_10, .int .i64 a0_11, .int .i64 a0_12, .int .i64 a0_13, .int .i64 a0_14] 25 (0, 0)) (by (with_reducible repeat (first | apply kb1 | apply kb2 | apply kb3 | refine kb4 ?_ NB346_351.out _)); exact BK346.out) hb); have n1_ := ka (blk_below (g := gb351) (o := .cells #[.int .i64 t347, .int .i64 t348, .int .i64 t349] 53 (0, 0)) (by (with_reducible repeat (first | apply kb1 | apply kb2 | apply kb3 | apply blkPut3_2 | apply blkPut3_1 | apply blkPut3_0)); exact BK351.out) hb); have n2_ := ka (below_step (kw HB.out) hb); clear BK346; clear BK351; clear HB; have BK346 := n0_; have BK351 := n1_; have HB := n2_; clear n0_ n1_ n2_; (try clear hb); (try clear hb2); (try clear hk); (try clear hi); have hcz64 := blkAll3 BK351.out; have hcz65 := blkAll15 BK346.out) | (go_at_call 30; (with_reducible refine (trivetref13_money_s.calls a0_9 true _ A7.out).mono ?_); rintro e w' ⟨rfl, ⟨nd, rfl⟩⟩))
       go_ret
       exact ⟨by first | rfl | (simp [errW_none, errW_some] <;> rfl) | (simp [*, errW_none, errW_some] <;> rfl), by repeat (first | (with_reducible first | exact HB.out | apply kc1 | apply kc2 | apply kc3 | refine kc4 ?_ GE346.out | refine kc4 ?_ GE351.out) | exact HB.out)⟩
     ·rw [if_neg c9] at H
      have c9b0 : decide (1 ≤ a0_10) = false := decide_eq_false c9
      clear c9
      obtain rfl := Option.some.inj H
      go_enter Try.func15, Try.ntmps15
      go_wp2_with (first | ((with_reducible refine gate_dst (N := 1) rfl ?_); refine kx (N := 1) (cs := #[.int .i64 a0_0, .int .i64 a0_1, .int .i64 a0_2, .int .i64 a0_3, .int .i64 a0_4, .int .i64 a0_5, .int .i64 a0_6, .int .i64 a0_7, .int .i64 a0_8, .int .i64 a0_9, .int .i64 a0_10, .int .i64 a0_11, .int .i64 a0_12, .int .i64 a0_13, .int .i64 a0_14]) (t := 25) ?_; intro gb346 hg w66 hbox hb; have n0_ := ka (below_step (kw HB.out) hb); have n1_ := ka (hbox); have n2_ := ka ((by rw [hg]; exact (below_size (kw HB.out)) : w.heap.size ≤ gb346)); have n3_ := n2_; clear HB; have HB := n0_; have BK346 := n1_; have GW346 := n2_; have GE346 := n3_; clear n0_ n1_ n2_ n3_; clear hb hbox hg; have hcz67 := blkAll15 BK346.out) | ((with_reducible refine gate_callee (f := 24) rfl ?_); refine kg (some 9) rfl rfl Try.func24 (by kernel_rfl) rfl #[.int .i64 a0_11] rfl ?_; (with_reducible refine (trivetref04_Of_s.calls a0_11 t347 t348 t349 true _ A2.out).mono ?_); rintro e w68 ⟨rfl, hb⟩; refine ⟨_, rfl, ?_⟩; have n0_ := ka (blk_below (g := gb346) (kz BK346.out) hb); have n1_ := ka (below_step (kw HB.out) hb); clear BK346; clear HB; have BK346 := n0_; have HB := n1_; clear n0_ n1_; (try clear hb); (try clear hb2); (try clear hk); (try clear hi)) | ((with_reducible refine gate_dst (N := 3) rfl ?_); refine kx (N := 3) (cs := #[.int .i64 0, .int .i64 0, .int .i64 0]) (t := 53) ?_; intro gb351 hg w69 hbox hb; have n0_ := ka (blk_below (g := gb346) (kz BK346.out) hb); have n1_ := ka (below_step (kw HB.out) hb); have n2_ := ka (hbox); have n3_ := ka ((by rw [hg]; exact (below_size (kw HB.out)) : w.heap.size ≤ gb351)); have n4_ := n3_; have n5_ := ka ((by rw [hg]; exact Nat.ne_of_lt (blk_lt (g := gb346) (kz BK346.out)) : gb346 ≠ gb351)); have n6_ := ka n5_.out.symm; clear BK346; clear HB; have BK346 := n0_; have HB := n1_; have BK351 := n2_; have GW351 := n3_; have GE351 := n4_; have NB346_351 := n5_; have NB351_346 := n6_; clear n0_ n1_ n2_ n3_ n4_ n5_ n6_; clear hb hbox hg; have hnb70 := NB351_346.out; have hnc70 := NB346_351.out; have hcz71 := blkAll3 BK351.out; have hcz72 := blkAll15 BK346.out) | ((with_reducible refine gate_callee (f := 29) rfl ?_); refine kg (some 14) rfl rfl Try.func29 (by kernel_rfl) rfl #[.agg #[.int .i64 a0_0, .int .i64 a0_1, .int .i64 a0_2, .int .i64 a0_3, .int .i64 a0_4, .int .i64 a0_5, .int .i64 a0_6, .int .i64 a0_7, .int .i64 a0_8]] rfl ?_; (with_reducible refine (trivetref11_May_s.calls a0_0 a0_1 a0_2 a0_3 a0_4 a0_5 a0_6 a0_7 a0_8 true _ A3.out).mono ?_); rintro e w73 ⟨rfl, hb⟩; refine ⟨_, rfl, ?_⟩; have n0_ := ka (blk_below (g := gb346) (o := .cells #[.int .i64 a0_0, .int .i64 a0_1, .int .i64 a0_2, .int .i64 a0_3, .int .i64 a0_4, .int .i64 a0_5, .int .i64 a0_6, .int .i64 a0_7, .int .i64 a0_8, .int .i64 a0_9, .int .i64 a0_10, .int .i64 a0_11, .int .i64 a0_12, .int .i64 a0_13, .int .i64 a0_14] 25 (0, 0)) (by (with_reducible repeat (first | apply kb1 | apply kb2 | apply kb3 | refine kb4 ?_ NB346_351.out _)); exact BK346.out) hb); have n1_ := ka (blk_below (g := gb351) (o := .cells #[.int .i64 t347, .int .i64 t348, .int .i64 t349] 53 (0, 0)) (by (with_reducible repeat (first | apply kb1 | apply kb2 | apply kb3 | apply blkPut3_2 | apply blkPut3_1 | apply blkPut3_0)); exact BK351.out) hb); have n2_ := ka (below_step (kw HB.out) hb); clear BK346; clear BK351; clear HB; have BK346 := n0_; have BK351 := n1_; have HB := n2_; clear n0_ n1_ n2_; (try clear hb); (try clear hb2); (try clear hk); (try clear hi); have hcz74 := blkAll3 BK351.out; have hcz75 := blkAll15 BK346.out) | (go_at_call 30; (with_reducible refine (trivetref13_money_s.calls a0_9 true _ A7.out).mono ?_); rintro e w' ⟨rfl, ⟨nd, rfl⟩⟩))
      go_ret
      exact ⟨by first | rfl | (simp [errW_none, errW_some] <;> rfl) | (simp [*, errW_none, errW_some] <;> rfl), by repeat (first | (with_reducible first | exact HB.out | apply kc1 | apply kc2 | apply kc3 | refine kc4 ?_ GE346.out | refine kc4 ?_ GE351.out) | exact HB.out)⟩
    ·replace c8 := Bool.eq_false_iff.mpr c8
     subst c8
     have H1 : (some false) = some r := by rw [if_neg (show ¬ (false = true) by decide)] at H; exact H
     clear H
     have H := H1
     clear H1
     obtain rfl := Option.some.inj H
     go_enter Try.func15, Try.ntmps15
     go_wp2_with (first | ((with_reducible refine gate_dst (N := 1) rfl ?_); refine kx (N := 1) (cs := #[.int .i64 a0_0, .int .i64 a0_1, .int .i64 a0_2, .int .i64 a0_3, .int .i64 a0_4, .int .i64 a0_5, .int .i64 a0_6, .int .i64 a0_7, .int .i64 a0_8, .int .i64 a0_9, .int .i64 a0_10, .int .i64 a0_11, .int .i64 a0_12, .int .i64 a0_13, .int .i64 a0_14]) (t := 25) ?_; intro gb346 hg w76 hbox hb; have n0_ := ka (below_step (kw HB.out) hb); have n1_ := ka (hbox); have n2_ := ka ((by rw [hg]; exact (below_size (kw HB.out)) : w.heap.size ≤ gb346)); have n3_ := n2_; clear HB; have HB := n0_; have BK346 := n1_; have GW346 := n2_; have GE346 := n3_; clear n0_ n1_ n2_ n3_; clear hb hbox hg; have hcz77 := blkAll15 BK346.out) | ((with_reducible refine gate_callee (f := 24) rfl ?_); refine kg (some 9) rfl rfl Try.func24 (by kernel_rfl) rfl #[.int .i64 a0_11] rfl ?_; (with_reducible refine (trivetref04_Of_s.calls a0_11 t347 t348 t349 true _ A2.out).mono ?_); rintro e w78 ⟨rfl, hb⟩; refine ⟨_, rfl, ?_⟩; have n0_ := ka (blk_below (g := gb346) (kz BK346.out) hb); have n1_ := ka (below_step (kw HB.out) hb); clear BK346; clear HB; have BK346 := n0_; have HB := n1_; clear n0_ n1_; (try clear hb); (try clear hb2); (try clear hk); (try clear hi)) | ((with_reducible refine gate_dst (N := 3) rfl ?_); refine kx (N := 3) (cs := #[.int .i64 0, .int .i64 0, .int .i64 0]) (t := 53) ?_; intro gb351 hg w79 hbox hb; have n0_ := ka (blk_below (g := gb346) (kz BK346.out) hb); have n1_ := ka (below_step (kw HB.out) hb); have n2_ := ka (hbox); have n3_ := ka ((by rw [hg]; exact (below_size (kw HB.out)) : w.heap.size ≤ gb351)); have n4_ := n3_; have n5_ := ka ((by rw [hg]; exact Nat.ne_of_lt (blk_lt (g := gb346) (kz BK346.out)) : gb346 ≠ gb351)); have n6_ := ka n5_.out.symm; clear BK346; clear HB; have BK346 := n0_; have HB := n1_; have BK351 := n2_; have GW351 := n3_; have GE351 := n4_; have NB346_351 := n5_; have NB351_346 := n6_; clear n0_ n1_ n2_ n3_ n4_ n5_ n6_; clear hb hbox hg; have hnb80 := NB351_346.out; have hnc80 := NB346_351.out; have hcz81 := blkAll3 BK351.out; have hcz82 := blkAll15 BK346.out) | ((with_reducible refine gate_callee (f := 29) rfl ?_); refine kg (some 14) rfl rfl Try.func29 (by kernel_rfl) rfl #[.agg #[.int .i64 a0_0, .int .i64 a0_1, .int .i64 a0_2, .int .i64 a0_3, .int .i64 a0_4, .int .i64 a0_5, .int .i64 a0_6, .int .i64 a0_7, .int .i64 a0_8]] rfl ?_; (with_reducible refine (trivetref11_May_s.calls a0_0 a0_1 a0_2 a0_3 a0_4 a0_5 a0_6 a0_7 a0_8 true _ A3.out).mono ?_); rintro e w83 ⟨rfl, hb⟩; refine ⟨_, rfl, ?_⟩; have n0_ := ka (blk_below (g := gb346) (o := .cells #[.int .i64 a0_0, .int .i64 a0_1, .int .i64 a0_2, .int .i64 a0_3, .int .i64 a0_4, .int .i64 a0_5, .int .i64 a0_6, .int .i64 a0_7, .int .i64 a0_8, .int .i64 a0_9, .int .i64 a0_10, .int .i64 a0_11, .int .i64 a0_12, .int .i64 a0_13, .int .i64 a0_14] 25 (0, 0)) (by (with_reducible repeat (first | apply kb1 | apply kb2 | apply kb3 | refine kb4 ?_ NB346_351.out _)); exact BK346.out) hb); have n1_ := ka (blk_below (g := gb351) (o := .cells #[.int .i64 t347, .int .i64 t348, .int .i64 t349] 53 (0, 0)) (by (with_reducible repeat (first | apply kb1 | apply kb2 | apply kb3 | apply blkPut3_2 | apply blkPut3_1 | apply blkPut3_0)); exact BK351.out) hb); have n2_ := ka (below_step (kw HB.out) hb); clear BK346; clear BK351; clear HB; have BK346 := n0_; have BK351 := n1_; have HB := n2_; clear n0_ n1_ n2_; (try clear hb); (try clear hb2); (try clear hk); (try clear hi); have hcz84 := blkAll3 BK351.out; have hcz85 := blkAll15 BK346.out) | (go_at_call 30; (with_reducible refine (trivetref13_money_s.calls a0_9 false _ A7.out).mono ?_); rintro e w' ⟨rfl, ⟨nd, rfl⟩⟩))
     go_ret
     exact ⟨by first | rfl | (simp [errW_none, errW_some] <;> rfl) | (simp [*, errW_none, errW_some] <;> rfl), by repeat (first | (with_reducible first | exact HB.out | apply kc1 | apply kc2 | apply kc3 | refine kc4 ?_ GE346.out | refine kc4 ?_ GE351.out) | exact HB.out)⟩
   ·replace c6 := Bool.eq_false_iff.mpr c6
    subst c6
    have H1 : (some false) = some r := by rw [if_neg (show ¬ (false = true) by decide)] at H; exact H
    clear H
    have H := H1
    clear H1
    obtain rfl := Option.some.inj H
    go_enter Try.func15, Try.ntmps15
    go_wp2_with (first | ((with_reducible refine gate_dst (N := 1) rfl ?_); refine kx (N := 1) (cs := #[.int .i64 a0_0, .int .i64 a0_1, .int .i64 a0_2, .int .i64 a0_3, .int .i64 a0_4, .int .i64 a0_5, .int .i64 a0_6, .int .i64 a0_7, .int .i64 a0_8, .int .i64 a0_9, .int .i64 a0_10, .int .i64 a0_11, .int .i64 a0_12, .int .i64 a0_13, .int .i64 a0_14]) (t := 25) ?_; intro gb346 hg w86 hbox hb; have n0_ := ka (below_step (kw HB.out) hb); have n1_ := ka (hbox); have n2_ := ka ((by rw [hg]; exact (below_size (kw HB.out)) : w.heap.size ≤ gb346)); have n3_ := n2_; clear HB; have HB := n0_; have BK346 := n1_; have GW346 := n2_; have GE346 := n3_; clear n0_ n1_ n2_ n3_; clear hb hbox hg; have hcz87 := blkAll15 BK346.out) | ((with_reducible refine gate_callee (f := 24) rfl ?_); refine kg (some 9) rfl rfl Try.func24 (by kernel_rfl) rfl #[.int .i64 a0_11] rfl ?_; (with_reducible refine (trivetref04_Of_s.calls a0_11 t347 t348 t349 true _ A2.out).mono ?_); rintro e w88 ⟨rfl, hb⟩; refine ⟨_, rfl, ?_⟩; have n0_ := ka (blk_below (g := gb346) (kz BK346.out) hb); have n1_ := ka (below_step (kw HB.out) hb); clear BK346; clear HB; have BK346 := n0_; have HB := n1_; clear n0_ n1_; (try clear hb); (try clear hb2); (try clear hk); (try clear hi)) | ((with_reducible refine gate_dst (N := 3) rfl ?_); refine kx (N := 3) (cs := #[.int .i64 0, .int .i64 0, .int .i64 0]) (t := 53) ?_; intro gb351 hg w89 hbox hb; have n0_ := ka (blk_below (g := gb346) (kz BK346.out) hb); have n1_ := ka (below_step (kw HB.out) hb); have n2_ := ka (hbox); have n3_ := ka ((by rw [hg]; exact (below_size (kw HB.out)) : w.heap.size ≤ gb351)); have n4_ := n3_; have n5_ := ka ((by rw [hg]; exact Nat.ne_of_lt (blk_lt (g := gb346) (kz BK346.out)) : gb346 ≠ gb351)); have n6_ := ka n5_.out.symm; clear BK346; clear HB; have BK346 := n0_; have HB := n1_; have BK351 := n2_; have GW351 := n3_; have GE351 := n4_; have NB346_351 := n5_; have NB351_346 := n6_; clear n0_ n1_ n2_ n3_ n4_ n5_ n6_; clear hb hbox hg; have hnb90 := NB351_346.out; have hnc90 := NB346_351.out; have hcz91 := blkAll3 BK351.out; have hcz92 := blkAll15 BK346.out) | ((with_reducible refine gate_callee (f := 29) rfl ?_); refine kg (some 14) rfl rfl Try.func29 (by kernel_rfl) rfl #[.agg #[.int .i64 a0_0, .int .i64 a0_1, .int .i64 a0_2, .int .i64 a0_3, .int .i64 a0_4, .int .i64 a0_5, .int .i64 a0_6, .int .i64 a0_7, .int .i64 a0_8]] rfl ?_; (with_reducible refine (trivetref11_May_s.calls a0_0 a0_1 a0_2 a0_3 a0_4 a0_5 a0_6 a0_7 a0_8 false _ A3.out).mono ?_); rintro e w93 ⟨rfl, hb⟩; refine ⟨_, rfl, ?_⟩; have n0_ := ka (blk_below (g := gb346) (o := .cells #[.int .i64 a0_0, .int .i64 a0_1, .int .i64 a0_2, .int .i64 a0_3, .int .i64 a0_4, .int .i64 a0_5, .int .i64 a0_6, .int .i64 a0_7, .int .i64 a0_8, .int .i64 a0_9, .int .i64 a0_10, .int .i64 a0_11, .int .i64 a0_12, .int .i64 a0_13, .int .i64 a0_14] 25 (0, 0)) (by (with_reducible repeat (first | apply kb1 | apply kb2 | apply kb3 | refine kb4 ?_ NB346_351.out _)); exact BK346.out) hb); have n1_ := ka (blk_below (g := gb351) (o := .cells #[.int .i64 t347, .int .i64 t348, .int .i64 t349] 53 (0, 0)) (by (with_reducible repeat (first | apply kb1 | apply kb2 | apply kb3 | apply blkPut3_2 | apply blkPut3_1 | apply blkPut3_0)); exact BK351.out) hb); have n2_ := ka (below_step (kw HB.out) hb); clear BK346; clear BK351; clear HB; have BK346 := n0_; have BK351 := n1_; have HB := n2_; clear n0_ n1_ n2_; (try clear hb); (try clear hb2); (try clear hk); (try clear hi); have hcz94 := blkAll3 BK351.out))
    go_ret
    exact ⟨by first | rfl | (simp [errW_none, errW_some] <;> rfl) | (simp [*, errW_none, errW_some] <;> rfl), by repeat (first | (with_reducible first | exact HB.out | apply kc1 | apply kc2 | apply kc3 | refine kc4 ?_ GE346.out | refine kc4 ?_ GE351.out) | exact HB.out)⟩
  ·rw [if_neg c5] at H
   have c5b0 : (t349 == 1) = false := beq_eq_false_iff_ne.mpr c5
   have c5b1 : (t349 != 1) = true := bne_iff_ne.mpr c5
   obtain rfl := Option.some.inj H
   go_enter Try.func15, Try.ntmps15
   go_wp2_with (first | ((with_reducible refine gate_dst (N := 1) rfl ?_); refine kx (N := 1) (cs := #[.int .i64 a0_0, .int .i64 a0_1, .int .i64 a0_2, .int .i64 a0_3, .int .i64 a0_4, .int .i64 a0_5, .int .i64 a0_6, .int .i64 a0_7, .int .i64 a0_8, .int .i64 a0_9, .int .i64 a0_10, .int .i64 a0_11, .int .i64 a0_12, .int .i64 a0_13, .int .i64 a0_14]) (t := 25) ?_; intro gb346 hg w95 hbox hb; have n0_ := ka (below_step (kw HB.out) hb); have n1_ := ka (hbox); have n2_ := ka ((by rw [hg]; exact (below_size (kw HB.out)) : w.heap.size ≤ gb346)); have n3_ := n2_; clear HB; have HB := n0_; have BK346 := n1_; have GW346 := n2_; have GE346 := n3_; clear n0_ n1_ n2_ n3_; clear hb hbox hg; have hcz96 := blkAll15 BK346.out) | ((with_reducible refine gate_callee (f := 24) rfl ?_); refine kg (some 9) rfl rfl Try.func24 (by kernel_rfl) rfl #[.int .i64 a0_11] rfl ?_; (with_reducible refine (trivetref04_Of_s.calls a0_11 t347 t348 t349 true _ A2.out).mono ?_); rintro e w97 ⟨rfl, hb⟩; refine ⟨_, rfl, ?_⟩; have n0_ := ka (blk_below (g := gb346) (kz BK346.out) hb); have n1_ := ka (below_step (kw HB.out) hb); clear BK346; clear HB; have BK346 := n0_; have HB := n1_; clear n0_ n1_; (try clear hb); (try clear hb2); (try clear hk); (try clear hi)) | ((with_reducible refine gate_dst (N := 3) rfl ?_); refine kx (N := 3) (cs := #[.int .i64 0, .int .i64 0, .int .i64 0]) (t := 53) ?_; intro gb351 hg w98 hbox hb; have n0_ := ka (blk_below (g := gb346) (kz BK346.out) hb); have n1_ := ka (below_step (kw HB.out) hb); have n2_ := ka (hbox); have n3_ := ka ((by rw [hg]; exact (below_size (kw HB.out)) : w.heap.size ≤ gb351)); have n4_ := n3_; have n5_ := ka ((by rw [hg]; exact Nat.ne_of_lt (blk_lt (g := gb346) (kz BK346.out)) : gb346 ≠ gb351)); have n6_ := ka n5_.out.symm; clear BK346; clear HB; have BK346 := n0_; have HB := n1_; have BK351 := n2_; have GW351 := n3_; have GE351 := n4_; have NB346_351 := n5_; have NB351_346 := n6_; clear n0_ n1_ n2_ n3_ n4_ n5_ n6_; clear hb hbox hg; have hnb99 := NB351_346.out; have hnc99 := NB346_351.out; have hcz100 := blkAll3 BK351.out; have hcz101 := blkAll15 BK346.out) | ((with_reducible refine gate_callee (f := 29) rfl ?_); refine kg (some 14) rfl rfl Try.func29 (by kernel_rfl) rfl #[.agg #[.int .i64 a0_0, .int .i64 a0_1, .int .i64 a0_2, .int .i64 a0_3, .int .i64 a0_4, .int .i64 a0_5, .int .i64 a0_6, .int .i64 a0_7, .int .i64 a0_8]] rfl ?_; (with_reducible refine (trivetref11_May_s.calls a0_0 a0_1 a0_2 a0_3 a0_4 a0_5 a0_6 a0_7 a0_8 t352 _ A3.out).mono ?_); rintro e w102 ⟨rfl, hb⟩; refine ⟨_, rfl, ?_⟩; have n0_ := ka (blk_below (g := gb346) (o := .cells #[.int .i64 a0_0, .int .i64 a0_1, .int .i64 a0_2, .int .i64 a0_3, .int .i64 a0_4, .int .i64 a0_5, .int .i64 a0_6, .int .i64 a0_7, .int .i64 a0_8, .int .i64 a0_9, .int .i64 a0_10, .int .i64 a0_11, .int .i64 a0_12, .int .i64 a0_13, .int .i64 a0_14] 25 (0, 0)) (by (with_reducible repeat (first | apply kb1 | apply kb2 | apply kb3 | refine kb4 ?_ NB346_351.out _)); exact BK346.out) hb); have n1_ := ka (blk_below (g := gb351) (o := .cells #[.int .i64 t347, .int .i64 t348, .int .i64 t349] 53 (0, 0)) (by (with_reducible repeat (first | apply kb1 | apply kb2 | apply kb3 | apply blkPut3_2 | apply blkPut3_1 | apply blkPut3_0)); exact BK351.out) hb); have n2_ := ka (below_step (kw HB.out) hb); clear BK346; clear BK351; clear HB; have BK346 := n0_; have BK351 := n1_; have HB := n2_; clear n0_ n1_ n2_; (try clear hb); (try clear hb2); (try clear hk); (try clear hi); have hcz103 := blkAll3 BK351.out))
   go_ret
   exact ⟨by first | rfl | (simp [errW_none, errW_some] <;> rfl) | (simp [*, errW_none, errW_some] <;> rfl), by repeat (first | (with_reducible first | exact HB.out | apply kc1 | apply kc2 | apply kc3 | refine kc4 ?_ GE346.out | refine kc4 ?_ GE351.out) | exact HB.out)⟩
 ·replace c4 := Bool.eq_false_iff.mpr c4
  subst c4
  have H1 : (some false) = some r := by rw [if_neg (show ¬ (false = true) by decide)] at H; exact H
  clear H
  have H := H1
  clear H1
  obtain rfl := Option.some.inj H
  go_enter Try.func15, Try.ntmps15
  go_wp2_with (first | ((with_reducible refine gate_dst (N := 1) rfl ?_); refine kx (N := 1) (cs := #[.int .i64 a0_0, .int .i64 a0_1, .int .i64 a0_2, .int .i64 a0_3, .int .i64 a0_4, .int .i64 a0_5, .int .i64 a0_6, .int .i64 a0_7, .int .i64 a0_8, .int .i64 a0_9, .int .i64 a0_10, .int .i64 a0_11, .int .i64 a0_12, .int .i64 a0_13, .int .i64 a0_14]) (t := 25) ?_; intro gb346 hg w104 hbox hb; have n0_ := ka (below_step (kw HB.out) hb); have n1_ := ka (hbox); have n2_ := ka ((by rw [hg]; exact (below_size (kw HB.out)) : w.heap.size ≤ gb346)); have n3_ := n2_; clear HB; have HB := n0_; have BK346 := n1_; have GW346 := n2_; have GE346 := n3_; clear n0_ n1_ n2_ n3_; clear hb hbox hg; have hcz105 := blkAll15 BK346.out) | ((with_reducible refine gate_callee (f := 24) rfl ?_); refine kg (some 9) rfl rfl Try.func24 (by kernel_rfl) rfl #[.int .i64 a0_11] rfl ?_; (with_reducible refine (trivetref04_Of_s.calls a0_11 t347 t348 t349 false _ A2.out).mono ?_); rintro e w106 ⟨rfl, hb⟩; refine ⟨_, rfl, ?_⟩; have n0_ := ka (blk_below (g := gb346) (kz BK346.out) hb); have n1_ := ka (below_step (kw HB.out) hb); clear BK346; clear HB; have BK346 := n0_; have HB := n1_; clear n0_ n1_; (try clear hb); (try clear hb2); (try clear hk); (try clear hi)) | ((with_reducible refine gate_dst (N := 3) rfl ?_); refine kx (N := 3) (cs := #[.int .i64 0, .int .i64 0, .int .i64 0]) (t := 53) ?_; intro gb351 hg w107 hbox hb; have n0_ := ka (blk_below (g := gb346) (kz BK346.out) hb); have n1_ := ka (below_step (kw HB.out) hb); have n2_ := ka (hbox); have n3_ := ka ((by rw [hg]; exact (below_size (kw HB.out)) : w.heap.size ≤ gb351)); have n4_ := n3_; have n5_ := ka ((by rw [hg]; exact Nat.ne_of_lt (blk_lt (g := gb346) (kz BK346.out)) : gb346 ≠ gb351)); have n6_ := ka n5_.out.symm; clear BK346; clear HB; have BK346 := n0_; have HB := n1_; have BK351 := n2_; have GW351 := n3_; have GE351 := n4_; have NB346_351 := n5_; have NB351_346 := n6_; clear n0_ n1_ n2_ n3_ n4_ n5_ n6_; clear hb hbox hg; have hnb108 := NB351_346.out; have hnc108 := NB346_351.out; have hcz109 := blkAll3 BK351.out; have hcz110 := blkAll15 BK346.out) | ((with_reducible refine gate_callee (f := 29) rfl ?_); refine kg (some 14) rfl rfl Try.func29 (by kernel_rfl) rfl #[.agg #[.int .i64 a0_0, .int .i64 a0_1, .int .i64 a0_2, .int .i64 a0_3, .int .i64 a0_4, .int .i64 a0_5, .int .i64 a0_6, .int .i64 a0_7, .int .i64 a0_8]] rfl ?_; (with_reducible refine (trivetref11_May_s.calls a0_0 a0_1 a0_2 a0_3 a0_4 a0_5 a0_6 a0_7 a0_8 t352 _ A3.out).mono ?_); rintro e w111 ⟨rfl, hb⟩; refine ⟨_, rfl, ?_⟩; have n0_ := ka (blk_below (g := gb346) (o := .cells #[.int .i64 a0_0, .int .i64 a0_1, .int .i64 a0_2, .int .i64 a0_3, .int .i64 a0_4, .int .i64 a0_5, .int .i64 a0_6, .int .i64 a0_7, .int .i64 a0_8, .int .i64 a0_9, .int .i64 a0_10, .int .i64 a0_11, .int .i64 a0_12, .int .i64 a0_13, .int .i64 a0_14] 25 (0, 0)) (by (with_reducible repeat (first | apply kb1 | apply kb2 | apply kb3 | refine kb4 ?_ NB346_351.out _)); exact BK346.out) hb); have n1_ := ka (blk_below (g := gb351) (o := .cells #[.int .i64 t347, .int .i64 t348, .int .i64 t349] 53 (0, 0)) (by (with_reducible repeat (first | apply kb1 | apply kb2 | apply kb3 | apply blkPut3_2 | apply blkPut3_1 | apply blkPut3_0)); exact BK351.out) hb); have n2_ := ka (below_step (kw HB.out) hb); clear BK346; clear BK351; clear HB; have BK346 := n0_; have BK351 := n1_; have HB := n2_; clear n0_ n1_ n2_; (try clear hb); (try clear hb2); (try clear hk); (try clear hi)))
  go_ret
  exact ⟨by first | rfl | (simp [errW_none, errW_some] <;> rfl) | (simp [*, errW_none, errW_some] <;> rfl), by repeat (first | (with_reducible first | exact HB.out | apply kc1 | apply kc2 | apply kc3 | refine kc4 ?_ GE346.out | refine kc4 ?_ GE351.out) | exact HB.out)⟩

/-! ### trivetref13_May_s: function 15, told plainly -/
theorem trivetref13_May.tells (b r m f e i w fe g bal lvl du cnt sus late : Int) (h : M.In f ∧ M.In fe ∧ M.In g ∧ M.In du) : trivetref13_May.f b r m f e i w fe g bal lvl du cnt sus late = some (decide (M.loanOk b r m f e i w fe g bal lvl du cnt sus late)) := by
 have out : ¬ M.loanOk b r m f e i w fe g bal lvl du cnt sus late → (some false : Option Bool) = some (decide (M.loanOk b r m f e i w fe g bal lvl du cnt sus late)) := fun hn => by rw [decide_eq_false hn]
 unfold trivetref13_May.f
 by_cases h1 : -25567 ≤ du ∧ du ≤ 84005
 case neg =>
  rw [trivetref04_Of_s.no h.2.2.2 h1, Option.bind_some, trivetref11_May_s.at_ ⟨h.1, h.2.1, h.2.2.1⟩, Option.bind_some, if_neg (by decide)]
  exact out (fun hh => h1 ⟨hh.2.1.1, hh.2.1.2.1⟩)
 rw [trivetref04_Of_s.yes h1, Option.bind_some, trivetref11_May_s.at_ ⟨h.1, h.2.1, h.2.2.1⟩, Option.bind_some, if_pos (show (true = true) from rfl)]
 by_cases h2 : M.dy du = 1
 case neg => rw [if_neg h2]; exact out (fun hh => h2 hh.2.1.2.2)
 rw [if_pos h2]
 by_cases h3 : M.termsOk b r m f e i w fe g
 case neg => rw [if_neg (by simpa using h3)]; exact out (fun hh => h3 hh.1)
 rw [if_pos (decide_eq_true h3), trivetref13_money_s.at_, Option.bind_some]
 by_cases h4 : M.cent bal
 case neg => rw [if_neg (by simpa using h4)]; exact out (fun hh => h4 hh.2.2.1)
 rw [if_pos (decide_eq_true h4)]
 by_cases h5 : lvl ≥ 1
 case neg => rw [if_neg h5]; exact out (fun hh => h5 hh.2.2.2.1)
 rw [if_pos h5]
 by_cases h6 : lvl ≤ 20000000000000
 case neg => rw [if_neg h6]; exact out (fun hh => h6 hh.2.2.2.2.1)
 rw [if_pos h6]
 by_cases h7 : cnt ≥ 0
 case neg => rw [if_neg h7]; exact out (fun hh => h7 hh.2.2.2.2.2.1)
 rw [if_pos h7]
 by_cases h8 : cnt ≤ 480
 case neg => rw [if_neg h8]; exact out (fun hh => h8 hh.2.2.2.2.2.2.1)
 rw [if_pos h8, trivetref13_money_s.at_, Option.bind_some]
 by_cases h9 : M.cent sus
 case neg => rw [if_neg (by simpa using h9)]; exact out (fun hh => h9 hh.2.2.2.2.2.2.2.1)
 rw [if_pos (decide_eq_true h9), trivetref13_money_s.at_, Option.bind_some]
 refine congrArg some (decide_eq_decide.mpr ⟨fun hc => ⟨h3, ⟨h1.1, h1.2, h2⟩, h4, h5, h6, h7, h8, h9, hc⟩, fun hh => hh.2.2.2.2.2.2.2.2⟩)
def trivetref13_May_s.f (b r m f e i w fe g bal lvl du cnt sus late : Int) : Option Bool := if M.In f ∧ M.In fe ∧ M.In g ∧ M.In du then some (decide (M.loanOk b r m f e i w fe g bal lvl du cnt sus late)) else none
theorem trivetref13_May_s.calls (a0_0 : Int) (a0_1 : Int) (a0_2 : Int) (a0_3 : Int) (a0_4 : Int) (a0_5 : Int) (a0_6 : Int) (a0_7 : Int) (a0_8 : Int) (a0_9 : Int) (a0_10 : Int) (a0_11 : Int) (a0_12 : Int) (a0_13 : Int) (a0_14 : Int) (r : Bool) (w : World) (h : trivetref13_May_s.f a0_0 a0_1 a0_2 a0_3 a0_4 a0_5 a0_6 a0_7 a0_8 a0_9 a0_10 a0_11 a0_12 a0_13 a0_14 = some r) :
  Calls Try.prog 15 #[.agg #[.int .i64 a0_0, .int .i64 a0_1, .int .i64 a0_2, .int .i64 a0_3, .int .i64 a0_4, .int .i64 a0_5, .int .i64 a0_6, .int .i64 a0_7, .int .i64 a0_8, .int .i64 a0_9, .int .i64 a0_10, .int .i64 a0_11, .int .i64 a0_12, .int .i64 a0_13, .int .i64 a0_14]] w fun e w' => e = .returned (.bool r) ∧ Below w.heap.size w w' := by
 unfold trivetref13_May_s.f at h
 split at h
 ·rename_i hr
  exact trivetref13_May.calls a0_0 a0_1 a0_2 a0_3 a0_4 a0_5 a0_6 a0_7 a0_8 a0_9 a0_10 a0_11 a0_12 a0_13 a0_14 r w ((trivetref13_May.tells a0_0 a0_1 a0_2 a0_3 a0_4 a0_5 a0_6 a0_7 a0_8 a0_9 a0_10 a0_11 a0_12 a0_13 a0_14 hr).trans h)
 ·cases h
theorem trivetref13_May_s.at_ {b r m f e i w fe g bal lvl du cnt sus late : Int} (h : M.In f ∧ M.In fe ∧ M.In g ∧ M.In du) : trivetref13_May_s.f b r m f e i w fe g bal lvl du cnt sus late = some (decide (M.loanOk b r m f e i w fe g bal lvl du cnt sus late)) := by unfold trivetref13_May_s.f; rw [if_pos h]

/-! ### trivetref13_Asked: function 12 -/
def trivetref13_Asked.f (a0_0 : Int) (a0_1 : Int) (a0_2 : Int) (a0_3 : Int) (a0_4 : Int) (a0_5 : Int) (a0_6 : Int) (a0_7 : Int) (a0_8 : Int) (a0_9 : Int) (a0_10 : Int) (a0_11 : Int) (a0_12 : Int) (a0_13 : Int) (a0_14 : Int) (a1 : Int) (a2 : Int) : Option (Bool) := (trivetref04_Of_s.f a1).bind fun bt357 => ((trivetref13_May_s.f a0_0 a0_1 a0_2 a0_3 a0_4 a0_5 a0_6 a0_7 a0_8 a0_9 a0_10 a0_11 a0_12 a0_13 a0_14).bind fun t362 => (if bt357.2.2.2 = true then (if t362 = true then (if a2 ≥ 1 then (some (decide (a2 ≤ 10000000000000))) else (some false)) else (some false)) else (some false)))
set_option maxHeartbeats 8000000 in
set_option maxRecDepth 100000 in
theorem trivetref13_Asked.calls (a0_0 : Int) (a0_1 : Int) (a0_2 : Int) (a0_3 : Int) (a0_4 : Int) (a0_5 : Int) (a0_6 : Int) (a0_7 : Int) (a0_8 : Int) (a0_9 : Int) (a0_10 : Int) (a0_11 : Int) (a0_12 : Int) (a0_13 : Int) (a0_14 : Int) (a1 : Int) (a2 : Int) (r : Bool) (w : World) (h : trivetref13_Asked.f a0_0 a0_1 a0_2 a0_3 a0_4 a0_5 a0_6 a0_7 a0_8 a0_9 a0_10 a0_11 a0_12 a0_13 a0_14 a1 a2 = some r) :
  Calls Try.prog 12 #[.agg #[.int .i64 a0_0, .int .i64 a0_1, .int .i64 a0_2, .int .i64 a0_3, .int .i64 a0_4, .int .i64 a0_5, .int .i64 a0_6, .int .i64 a0_7, .int .i64 a0_8, .int .i64 a0_9, .int .i64 a0_10, .int .i64 a0_11, .int .i64 a0_12, .int .i64 a0_13, .int .i64 a0_14], .int .i64 a1, .int .i64 a2] w fun e w' => e = .returned (.bool r) ∧ Below w.heap.size w w' := by
 have hu25 := Try.underlying25
 have hu53 := Try.underlying53
 have HB := ka (Below.refl w.heap.size w)
 have H : ((trivetref04_Of_s.f a1).bind fun bt357 => ((trivetref13_May_s.f a0_0 a0_1 a0_2 a0_3 a0_4 a0_5 a0_6 a0_7 a0_8 a0_9 a0_10 a0_11 a0_12 a0_13 a0_14).bind fun t362 => (if bt357.2.2.2 = true then (if t362 = true then (if a2 ≥ 1 then (some (decide (a2 ≤ 10000000000000))) else (some false)) else (some false)) else (some false)))) = some r := h
 clear h
 replace H := Option.bind_eq_some_iff.mp H
 obtain ⟨⟨t357, t358, t359, t360⟩, A40, H⟩ := H
 replace H : ((trivetref13_May_s.f a0_0 a0_1 a0_2 a0_3 a0_4 a0_5 a0_6 a0_7 a0_8 a0_9 a0_10 a0_11 a0_12 a0_13 a0_14).bind fun t362 => (if t360 = true then (if t362 = true then (if a2 ≥ 1 then (some (decide (a2 ≤ 10000000000000))) else (some false)) else (some false)) else (some false))) = some r := H
 have A4 := ka A40
 clear A40
 replace H := Option.bind_eq_some_iff.mp H
 obtain ⟨t362, A50, H⟩ := H
 replace H : (if t360 = true then (if t362 = true then (if a2 ≥ 1 then (some (decide (a2 ≤ 10000000000000))) else (some false)) else (some false)) else (some false)) = some r := H
 have A5 := ka A50
 clear A50
 by_cases c6 : t360 = true
 ·subst c6
  have H1 : (if t362 = true then (if a2 ≥ 1 then (some (decide (a2 ≤ 10000000000000))) else (some false)) else (some false)) = some r := by rw [if_pos rfl] at H; exact H
  clear H
  have H := H1
  clear H1
  by_cases c7 : t362 = true
  ·subst c7
   have H1 : (if a2 ≥ 1 then (some (decide (a2 ≤ 10000000000000))) else (some false)) = some r := by rw [if_pos rfl] at H; exact H
   clear H
   have H := H1
   clear H1
   by_cases c8 : a2 ≥ 1
   ·rw [if_pos c8] at H
    have c8b0 : decide (1 ≤ a2) = true := decide_eq_true c8
    clear c8
    obtain rfl := Option.some.inj H
    go_enter Try.func12, Try.ntmps12
    go_wp2_with (first | ((with_reducible refine gate_dst (N := 3) rfl ?_); refine kx (N := 3) (cs := #[.int .i64 a0_0, .int .i64 a0_1, .int .i64 a0_2, .int .i64 a0_3, .int .i64 a0_4, .int .i64 a0_5, .int .i64 a0_6, .int .i64 a0_7, .int .i64 a0_8, .int .i64 a0_9, .int .i64 a0_10, .int .i64 a0_11, .int .i64 a0_12, .int .i64 a0_13, .int .i64 a0_14]) (t := 25) ?_; intro gb356 hg w9 hbox hb; have n0_ := ka (below_step (kw HB.out) hb); have n1_ := ka (hbox); have n2_ := ka ((by rw [hg]; exact (below_size (kw HB.out)) : w.heap.size ≤ gb356)); have n3_ := n2_; clear HB; have HB := n0_; have BK356 := n1_; have GW356 := n2_; have GE356 := n3_; clear n0_ n1_ n2_ n3_; clear hb hbox hg) | ((with_reducible refine gate_callee (f := 24) rfl ?_); refine kg (some 12) rfl rfl Try.func24 (by kernel_rfl) rfl #[.int .i64 a1] rfl ?_; (with_reducible refine (trivetref04_Of_s.calls a1 t357 t358 t359 true _ A4.out).mono ?_); rintro e w10 ⟨rfl, hb⟩; refine ⟨_, rfl, ?_⟩; have n0_ := ka (blk_below (g := gb356) (kz BK356.out) hb); have n1_ := ka (below_step (kw HB.out) hb); clear BK356; clear HB; have BK356 := n0_; have HB := n1_; clear n0_ n1_; (try clear hb); (try clear hb2); (try clear hk); (try clear hi)) | ((with_reducible refine gate_dst (N := 7) rfl ?_); refine kx (N := 7) (cs := #[.int .i64 0, .int .i64 0, .int .i64 0]) (t := 53) ?_; intro gb361 hg w11 hbox hb; have n0_ := ka (blk_below (g := gb356) (kz BK356.out) hb); have n1_ := ka (below_step (kw HB.out) hb); have n2_ := ka (hbox); have n3_ := ka ((by rw [hg]; exact (below_size (kw HB.out)) : w.heap.size ≤ gb361)); have n4_ := n3_; have n5_ := ka ((by rw [hg]; exact Nat.ne_of_lt (blk_lt (g := gb356) (kz BK356.out)) : gb356 ≠ gb361)); have n6_ := ka n5_.out.symm; clear BK356; clear HB; have BK356 := n0_; have HB := n1_; have BK361 := n2_; have GW361 := n3_; have GE361 := n4_; have NB356_361 := n5_; have NB361_356 := n6_; clear n0_ n1_ n2_ n3_ n4_ n5_ n6_; clear hb hbox hg; have hnb12 := NB361_356.out; have hnc12 := NB356_361.out; have hcz13 := blkAll3 BK361.out; have hcz14 := blkAll15 BK356.out) | ((with_reducible refine gate_callee (f := 15) rfl ?_); refine kg (some 16) rfl rfl Try.func15 (by kernel_rfl) rfl #[.agg #[.int .i64 a0_0, .int .i64 a0_1, .int .i64 a0_2, .int .i64 a0_3, .int .i64 a0_4, .int .i64 a0_5, .int .i64 a0_6, .int .i64 a0_7, .int .i64 a0_8, .int .i64 a0_9, .int .i64 a0_10, .int .i64 a0_11, .int .i64 a0_12, .int .i64 a0_13, .int .i64 a0_14]] rfl ?_; (with_reducible refine (trivetref13_May_s.calls a0_0 a0_1 a0_2 a0_3 a0_4 a0_5 a0_6 a0_7 a0_8 a0_9 a0_10 a0_11 a0_12 a0_13 a0_14 true _ A5.out).mono ?_); rintro e w15 ⟨rfl, hb⟩; refine ⟨_, rfl, ?_⟩; have n0_ := ka (blk_below (g := gb356) (o := .cells #[.int .i64 a0_0, .int .i64 a0_1, .int .i64 a0_2, .int .i64 a0_3, .int .i64 a0_4, .int .i64 a0_5, .int .i64 a0_6, .int .i64 a0_7, .int .i64 a0_8, .int .i64 a0_9, .int .i64 a0_10, .int .i64 a0_11, .int .i64 a0_12, .int .i64 a0_13, .int .i64 a0_14] 25 (0, 0)) (by (with_reducible repeat (first | apply kb1 | apply kb2 | apply kb3 | refine kb4 ?_ NB356_361.out _)); exact BK356.out) hb); have n1_ := ka (blk_below (g := gb361) (o := .cells #[.int .i64 t357, .int .i64 t358, .int .i64 t359] 53 (0, 0)) (by (with_reducible repeat (first | apply kb1 | apply kb2 | apply kb3 | apply blkPut3_2 | apply blkPut3_1 | apply blkPut3_0)); exact BK361.out) hb); have n2_ := ka (below_step (kw HB.out) hb); clear BK356; clear BK361; clear HB; have BK356 := n0_; have BK361 := n1_; have HB := n2_; clear n0_ n1_ n2_; (try clear hb); (try clear hb2); (try clear hk); (try clear hi)) | ((with_reducible refine gate_load (T := 25) rfl ?_); first | refine load_event (g := gb356) rfl rfl rfl Try.underlying25 rfl (by (with_reducible repeat (first | apply kb1 | apply kb2 | apply kb3)); with_reducible exact BK356.out) (by kernel_rfl) ?_))
    go_ret
    exact ⟨by first | rfl | (simp [errW_none, errW_some] <;> rfl) | (simp [*, errW_none, errW_some] <;> rfl), by repeat (first | (with_reducible first | exact HB.out | apply kc1 | apply kc2 | apply kc3 | refine kc4 ?_ GE356.out | refine kc4 ?_ GE361.out) | exact HB.out)⟩
   ·rw [if_neg c8] at H
    have c8b0 : decide (1 ≤ a2) = false := decide_eq_false c8
    clear c8
    obtain rfl := Option.some.inj H
    go_enter Try.func12, Try.ntmps12
    go_wp2_with (first | ((with_reducible refine gate_dst (N := 3) rfl ?_); refine kx (N := 3) (cs := #[.int .i64 a0_0, .int .i64 a0_1, .int .i64 a0_2, .int .i64 a0_3, .int .i64 a0_4, .int .i64 a0_5, .int .i64 a0_6, .int .i64 a0_7, .int .i64 a0_8, .int .i64 a0_9, .int .i64 a0_10, .int .i64 a0_11, .int .i64 a0_12, .int .i64 a0_13, .int .i64 a0_14]) (t := 25) ?_; intro gb356 hg w16 hbox hb; have n0_ := ka (below_step (kw HB.out) hb); have n1_ := ka (hbox); have n2_ := ka ((by rw [hg]; exact (below_size (kw HB.out)) : w.heap.size ≤ gb356)); have n3_ := n2_; clear HB; have HB := n0_; have BK356 := n1_; have GW356 := n2_; have GE356 := n3_; clear n0_ n1_ n2_ n3_; clear hb hbox hg) | ((with_reducible refine gate_callee (f := 24) rfl ?_); refine kg (some 12) rfl rfl Try.func24 (by kernel_rfl) rfl #[.int .i64 a1] rfl ?_; (with_reducible refine (trivetref04_Of_s.calls a1 t357 t358 t359 true _ A4.out).mono ?_); rintro e w17 ⟨rfl, hb⟩; refine ⟨_, rfl, ?_⟩; have n0_ := ka (blk_below (g := gb356) (kz BK356.out) hb); have n1_ := ka (below_step (kw HB.out) hb); clear BK356; clear HB; have BK356 := n0_; have HB := n1_; clear n0_ n1_; (try clear hb); (try clear hb2); (try clear hk); (try clear hi)) | ((with_reducible refine gate_dst (N := 7) rfl ?_); refine kx (N := 7) (cs := #[.int .i64 0, .int .i64 0, .int .i64 0]) (t := 53) ?_; intro gb361 hg w18 hbox hb; have n0_ := ka (blk_below (g := gb356) (kz BK356.out) hb); have n1_ := ka (below_step (kw HB.out) hb); have n2_ := ka (hbox); have n3_ := ka ((by rw [hg]; exact (below_size (kw HB.out)) : w.heap.size ≤ gb361)); have n4_ := n3_; have n5_ := ka ((by rw [hg]; exact Nat.ne_of_lt (blk_lt (g := gb356) (kz BK356.out)) : gb356 ≠ gb361)); have n6_ := ka n5_.out.symm; clear BK356; clear HB; have BK356 := n0_; have HB := n1_; have BK361 := n2_; have GW361 := n3_; have GE361 := n4_; have NB356_361 := n5_; have NB361_356 := n6_; clear n0_ n1_ n2_ n3_ n4_ n5_ n6_; clear hb hbox hg; have hnb19 := NB361_356.out; have hnc19 := NB356_361.out; have hcz20 := blkAll3 BK361.out; have hcz21 := blkAll15 BK356.out) | ((with_reducible refine gate_callee (f := 15) rfl ?_); refine kg (some 16) rfl rfl Try.func15 (by kernel_rfl) rfl #[.agg #[.int .i64 a0_0, .int .i64 a0_1, .int .i64 a0_2, .int .i64 a0_3, .int .i64 a0_4, .int .i64 a0_5, .int .i64 a0_6, .int .i64 a0_7, .int .i64 a0_8, .int .i64 a0_9, .int .i64 a0_10, .int .i64 a0_11, .int .i64 a0_12, .int .i64 a0_13, .int .i64 a0_14]] rfl ?_; (with_reducible refine (trivetref13_May_s.calls a0_0 a0_1 a0_2 a0_3 a0_4 a0_5 a0_6 a0_7 a0_8 a0_9 a0_10 a0_11 a0_12 a0_13 a0_14 true _ A5.out).mono ?_); rintro e w22 ⟨rfl, hb⟩; refine ⟨_, rfl, ?_⟩; have n0_ := ka (blk_below (g := gb356) (o := .cells #[.int .i64 a0_0, .int .i64 a0_1, .int .i64 a0_2, .int .i64 a0_3, .int .i64 a0_4, .int .i64 a0_5, .int .i64 a0_6, .int .i64 a0_7, .int .i64 a0_8, .int .i64 a0_9, .int .i64 a0_10, .int .i64 a0_11, .int .i64 a0_12, .int .i64 a0_13, .int .i64 a0_14] 25 (0, 0)) (by (with_reducible repeat (first | apply kb1 | apply kb2 | apply kb3 | refine kb4 ?_ NB356_361.out _)); exact BK356.out) hb); have n1_ := ka (blk_below (g := gb361) (o := .cells #[.int .i64 t357, .int .i64 t358, .int .i64 t359] 53 (0, 0)) (by (with_reducible repeat (first | apply kb1 | apply kb2 | apply kb3 | apply blkPut3_2 | apply blkPut3_1 | apply blkPut3_0)); exact BK361.out) hb); have n2_ := ka (below_step (kw HB.out) hb); clear BK356; clear BK361; clear HB; have BK356 := n0_; have BK361 := n1_; have HB := n2_; clear n0_ n1_ n2_; (try clear hb); (try clear hb2); (try clear hk); (try clear hi)) | ((with_reducible refine gate_load (T := 25) rfl ?_); first | refine load_event (g := gb356) rfl rfl rfl Try.underlying25 rfl (by (with_reducible repeat (first | apply kb1 | apply kb2 | apply kb3)); with_reducible exact BK356.out) (by kernel_rfl) ?_))
    go_ret
    exact ⟨by first | rfl | (simp [errW_none, errW_some] <;> rfl) | (simp [*, errW_none, errW_some] <;> rfl), by repeat (first | (with_reducible first | exact HB.out | apply kc1 | apply kc2 | apply kc3 | refine kc4 ?_ GE356.out | refine kc4 ?_ GE361.out) | exact HB.out)⟩
  ·replace c7 := Bool.eq_false_iff.mpr c7
   subst c7
   have H1 : (some false) = some r := by rw [if_neg (show ¬ (false = true) by decide)] at H; exact H
   clear H
   have H := H1
   clear H1
   obtain rfl := Option.some.inj H
   go_enter Try.func12, Try.ntmps12
   go_wp2_with (first | ((with_reducible refine gate_dst (N := 3) rfl ?_); refine kx (N := 3) (cs := #[.int .i64 a0_0, .int .i64 a0_1, .int .i64 a0_2, .int .i64 a0_3, .int .i64 a0_4, .int .i64 a0_5, .int .i64 a0_6, .int .i64 a0_7, .int .i64 a0_8, .int .i64 a0_9, .int .i64 a0_10, .int .i64 a0_11, .int .i64 a0_12, .int .i64 a0_13, .int .i64 a0_14]) (t := 25) ?_; intro gb356 hg w23 hbox hb; have n0_ := ka (below_step (kw HB.out) hb); have n1_ := ka (hbox); have n2_ := ka ((by rw [hg]; exact (below_size (kw HB.out)) : w.heap.size ≤ gb356)); have n3_ := n2_; clear HB; have HB := n0_; have BK356 := n1_; have GW356 := n2_; have GE356 := n3_; clear n0_ n1_ n2_ n3_; clear hb hbox hg) | ((with_reducible refine gate_callee (f := 24) rfl ?_); refine kg (some 12) rfl rfl Try.func24 (by kernel_rfl) rfl #[.int .i64 a1] rfl ?_; (with_reducible refine (trivetref04_Of_s.calls a1 t357 t358 t359 true _ A4.out).mono ?_); rintro e w24 ⟨rfl, hb⟩; refine ⟨_, rfl, ?_⟩; have n0_ := ka (blk_below (g := gb356) (kz BK356.out) hb); have n1_ := ka (below_step (kw HB.out) hb); clear BK356; clear HB; have BK356 := n0_; have HB := n1_; clear n0_ n1_; (try clear hb); (try clear hb2); (try clear hk); (try clear hi)) | ((with_reducible refine gate_dst (N := 7) rfl ?_); refine kx (N := 7) (cs := #[.int .i64 0, .int .i64 0, .int .i64 0]) (t := 53) ?_; intro gb361 hg w25 hbox hb; have n0_ := ka (blk_below (g := gb356) (kz BK356.out) hb); have n1_ := ka (below_step (kw HB.out) hb); have n2_ := ka (hbox); have n3_ := ka ((by rw [hg]; exact (below_size (kw HB.out)) : w.heap.size ≤ gb361)); have n4_ := n3_; have n5_ := ka ((by rw [hg]; exact Nat.ne_of_lt (blk_lt (g := gb356) (kz BK356.out)) : gb356 ≠ gb361)); have n6_ := ka n5_.out.symm; clear BK356; clear HB; have BK356 := n0_; have HB := n1_; have BK361 := n2_; have GW361 := n3_; have GE361 := n4_; have NB356_361 := n5_; have NB361_356 := n6_; clear n0_ n1_ n2_ n3_ n4_ n5_ n6_; clear hb hbox hg; have hnb26 := NB361_356.out; have hnc26 := NB356_361.out; have hcz27 := blkAll3 BK361.out; have hcz28 := blkAll15 BK356.out) | ((with_reducible refine gate_callee (f := 15) rfl ?_); refine kg (some 16) rfl rfl Try.func15 (by kernel_rfl) rfl #[.agg #[.int .i64 a0_0, .int .i64 a0_1, .int .i64 a0_2, .int .i64 a0_3, .int .i64 a0_4, .int .i64 a0_5, .int .i64 a0_6, .int .i64 a0_7, .int .i64 a0_8, .int .i64 a0_9, .int .i64 a0_10, .int .i64 a0_11, .int .i64 a0_12, .int .i64 a0_13, .int .i64 a0_14]] rfl ?_; (with_reducible refine (trivetref13_May_s.calls a0_0 a0_1 a0_2 a0_3 a0_4 a0_5 a0_6 a0_7 a0_8 a0_9 a0_10 a0_11 a0_12 a0_13 a0_14 false _ A5.out).mono ?_); rintro e w29 ⟨rfl, hb⟩; refine ⟨_, rfl, ?_⟩; have n0_ := ka (blk_below (g := gb356) (o := .cells #[.int .i64 a0_0, .int .i64 a0_1, .int .i64 a0_2, .int .i64 a0_3, .int .i64 a0_4, .int .i64 a0_5, .int .i64 a0_6, .int .i64 a0_7, .int .i64 a0_8, .int .i64 a0_9, .int .i64 a0_10, .int .i64 a0_11, .int .i64 a0_12, .int .i64 a0_13, .int .i64 a0_14] 25 (0, 0)) (by (with_reducible repeat (first | apply kb1 | apply kb2 | apply kb3 | refine kb4 ?_ NB356_361.out _)); exact BK356.out) hb); have n1_ := ka (blk_below (g := gb361) (o := .cells #[.int .i64 t357, .int .i64 t358, .int .i64 t359] 53 (0, 0)) (by (with_reducible repeat (first | apply kb1 | apply kb2 | apply kb3 | apply blkPut3_2 | apply blkPut3_1 | apply blkPut3_0)); exact BK361.out) hb); have n2_ := ka (below_step (kw HB.out) hb); clear BK356; clear BK361; clear HB; have BK356 := n0_; have BK361 := n1_; have HB := n2_; clear n0_ n1_ n2_; (try clear hb); (try clear hb2); (try clear hk); (try clear hi)) | ((with_reducible refine gate_load (T := 25) rfl ?_); first | refine load_event (g := gb356) rfl rfl rfl Try.underlying25 rfl (by (with_reducible repeat (first | apply kb1 | apply kb2 | apply kb3)); with_reducible exact BK356.out) (by kernel_rfl) ?_))
   go_ret
   exact ⟨by first | rfl | (simp [errW_none, errW_some] <;> rfl) | (simp [*, errW_none, errW_some] <;> rfl), by repeat (first | (with_reducible first | exact HB.out | apply kc1 | apply kc2 | apply kc3 | refine kc4 ?_ GE356.out | refine kc4 ?_ GE361.out) | exact HB.out)⟩
 ·replace c6 := Bool.eq_false_iff.mpr c6
  subst c6
  have H1 : (some false) = some r := by rw [if_neg (show ¬ (false = true) by decide)] at H; exact H
  clear H
  have H := H1
  clear H1
  obtain rfl := Option.some.inj H
  go_enter Try.func12, Try.ntmps12
  go_wp2_with (first | ((with_reducible refine gate_dst (N := 3) rfl ?_); refine kx (N := 3) (cs := #[.int .i64 a0_0, .int .i64 a0_1, .int .i64 a0_2, .int .i64 a0_3, .int .i64 a0_4, .int .i64 a0_5, .int .i64 a0_6, .int .i64 a0_7, .int .i64 a0_8, .int .i64 a0_9, .int .i64 a0_10, .int .i64 a0_11, .int .i64 a0_12, .int .i64 a0_13, .int .i64 a0_14]) (t := 25) ?_; intro gb356 hg w30 hbox hb; have n0_ := ka (below_step (kw HB.out) hb); have n1_ := ka (hbox); have n2_ := ka ((by rw [hg]; exact (below_size (kw HB.out)) : w.heap.size ≤ gb356)); have n3_ := n2_; clear HB; have HB := n0_; have BK356 := n1_; have GW356 := n2_; have GE356 := n3_; clear n0_ n1_ n2_ n3_; clear hb hbox hg) | ((with_reducible refine gate_callee (f := 24) rfl ?_); refine kg (some 12) rfl rfl Try.func24 (by kernel_rfl) rfl #[.int .i64 a1] rfl ?_; (with_reducible refine (trivetref04_Of_s.calls a1 t357 t358 t359 false _ A4.out).mono ?_); rintro e w31 ⟨rfl, hb⟩; refine ⟨_, rfl, ?_⟩; have n0_ := ka (blk_below (g := gb356) (kz BK356.out) hb); have n1_ := ka (below_step (kw HB.out) hb); clear BK356; clear HB; have BK356 := n0_; have HB := n1_; clear n0_ n1_; (try clear hb); (try clear hb2); (try clear hk); (try clear hi)) | ((with_reducible refine gate_dst (N := 7) rfl ?_); refine kx (N := 7) (cs := #[.int .i64 0, .int .i64 0, .int .i64 0]) (t := 53) ?_; intro gb361 hg w32 hbox hb; have n0_ := ka (blk_below (g := gb356) (kz BK356.out) hb); have n1_ := ka (below_step (kw HB.out) hb); have n2_ := ka (hbox); have n3_ := ka ((by rw [hg]; exact (below_size (kw HB.out)) : w.heap.size ≤ gb361)); have n4_ := n3_; have n5_ := ka ((by rw [hg]; exact Nat.ne_of_lt (blk_lt (g := gb356) (kz BK356.out)) : gb356 ≠ gb361)); have n6_ := ka n5_.out.symm; clear BK356; clear HB; have BK356 := n0_; have HB := n1_; have BK361 := n2_; have GW361 := n3_; have GE361 := n4_; have NB356_361 := n5_; have NB361_356 := n6_; clear n0_ n1_ n2_ n3_ n4_ n5_ n6_; clear hb hbox hg; have hnb33 := NB361_356.out; have hnc33 := NB356_361.out; have hcz34 := blkAll3 BK361.out; have hcz35 := blkAll15 BK356.out) | ((with_reducible refine gate_callee (f := 15) rfl ?_); refine kg (some 16) rfl rfl Try.func15 (by kernel_rfl) rfl #[.agg #[.int .i64 a0_0, .int .i64 a0_1, .int .i64 a0_2, .int .i64 a0_3, .int .i64 a0_4, .int .i64 a0_5, .int .i64 a0_6, .int .i64 a0_7, .int .i64 a0_8, .int .i64 a0_9, .int .i64 a0_10, .int .i64 a0_11, .int .i64 a0_12, .int .i64 a0_13, .int .i64 a0_14]] rfl ?_; (with_reducible refine (trivetref13_May_s.calls a0_0 a0_1 a0_2 a0_3 a0_4 a0_5 a0_6 a0_7 a0_8 a0_9 a0_10 a0_11 a0_12 a0_13 a0_14 t362 _ A5.out).mono ?_); rintro e w36 ⟨rfl, hb⟩; refine ⟨_, rfl, ?_⟩; have n0_ := ka (blk_below (g := gb356) (o := .cells #[.int .i64 a0_0, .int .i64 a0_1, .int .i64 a0_2, .int .i64 a0_3, .int .i64 a0_4, .int .i64 a0_5, .int .i64 a0_6, .int .i64 a0_7, .int .i64 a0_8, .int .i64 a0_9, .int .i64 a0_10, .int .i64 a0_11, .int .i64 a0_12, .int .i64 a0_13, .int .i64 a0_14] 25 (0, 0)) (by (with_reducible repeat (first | apply kb1 | apply kb2 | apply kb3 | refine kb4 ?_ NB356_361.out _)); exact BK356.out) hb); have n1_ := ka (blk_below (g := gb361) (o := .cells #[.int .i64 t357, .int .i64 t358, .int .i64 t359] 53 (0, 0)) (by (with_reducible repeat (first | apply kb1 | apply kb2 | apply kb3 | apply blkPut3_2 | apply blkPut3_1 | apply blkPut3_0)); exact BK361.out) hb); have n2_ := ka (below_step (kw HB.out) hb); clear BK356; clear BK361; clear HB; have BK356 := n0_; have BK361 := n1_; have HB := n2_; clear n0_ n1_ n2_; (try clear hb); (try clear hb2); (try clear hk); (try clear hi)) | ((with_reducible refine gate_load (T := 25) rfl ?_); first | refine load_event (g := gb356) rfl rfl rfl Try.underlying25 rfl (by (with_reducible repeat (first | apply kb1 | apply kb2 | apply kb3)); with_reducible exact BK356.out) (by kernel_rfl) ?_))
  go_ret
  exact ⟨by first | rfl | (simp [errW_none, errW_some] <;> rfl) | (simp [*, errW_none, errW_some] <;> rfl), by repeat (first | (with_reducible first | exact HB.out | apply kc1 | apply kc2 | apply kc3 | refine kc4 ?_ GE356.out | refine kc4 ?_ GE361.out) | exact HB.out)⟩

/-! ### trivetref13_Asked_s: function 12, told plainly -/
theorem trivetref13_Asked.tells (b r m f e i w fe g bal lvl du cnt sus late day a : Int) (h : (M.In f ∧ M.In fe ∧ M.In g ∧ M.In du) ∧ M.In day) : trivetref13_Asked.f b r m f e i w fe g bal lvl du cnt sus late day a = some (decide (M.askOk b r m f e i w fe g bal lvl du cnt sus late day a)) := by
 have out : ¬ M.askOk b r m f e i w fe g bal lvl du cnt sus late day a → (some false : Option Bool) = some (decide (M.askOk b r m f e i w fe g bal lvl du cnt sus late day a)) := fun hn => by rw [decide_eq_false hn]
 unfold trivetref13_Asked.f
 by_cases h1 : -25567 ≤ day ∧ day ≤ 84005
 case neg =>
  rw [trivetref04_Of_s.no h.2 h1, Option.bind_some, trivetref13_May_s.at_ h.1, Option.bind_some, if_neg (by decide)]
  exact out (fun hh => h1 hh.2.1)
 rw [trivetref04_Of_s.yes h1, Option.bind_some, trivetref13_May_s.at_ h.1, Option.bind_some, if_pos (show (true = true) from rfl)]
 by_cases h2 : M.loanOk b r m f e i w fe g bal lvl du cnt sus late
 case neg => rw [if_neg (by simpa using h2)]; exact out (fun hh => h2 hh.1)
 rw [if_pos (decide_eq_true h2)]
 by_cases h3 : a ≥ 1
 case neg => rw [if_neg h3]; exact out (fun hh => h3 hh.2.2.1)
 rw [if_pos h3]
 refine congrArg some (decide_eq_decide.mpr ⟨fun hc => ⟨h2, h1, h3, hc⟩, fun hh => hh.2.2.2⟩)
def trivetref13_Asked_s.f (b r m f e i w fe g bal lvl du cnt sus late day a : Int) : Option Bool := if (M.In f ∧ M.In fe ∧ M.In g ∧ M.In du) ∧ M.In day then some (decide (M.askOk b r m f e i w fe g bal lvl du cnt sus late day a)) else none
theorem trivetref13_Asked_s.calls (a0_0 : Int) (a0_1 : Int) (a0_2 : Int) (a0_3 : Int) (a0_4 : Int) (a0_5 : Int) (a0_6 : Int) (a0_7 : Int) (a0_8 : Int) (a0_9 : Int) (a0_10 : Int) (a0_11 : Int) (a0_12 : Int) (a0_13 : Int) (a0_14 : Int) (a1 : Int) (a2 : Int) (r : Bool) (w : World) (h : trivetref13_Asked_s.f a0_0 a0_1 a0_2 a0_3 a0_4 a0_5 a0_6 a0_7 a0_8 a0_9 a0_10 a0_11 a0_12 a0_13 a0_14 a1 a2 = some r) :
  Calls Try.prog 12 #[.agg #[.int .i64 a0_0, .int .i64 a0_1, .int .i64 a0_2, .int .i64 a0_3, .int .i64 a0_4, .int .i64 a0_5, .int .i64 a0_6, .int .i64 a0_7, .int .i64 a0_8, .int .i64 a0_9, .int .i64 a0_10, .int .i64 a0_11, .int .i64 a0_12, .int .i64 a0_13, .int .i64 a0_14], .int .i64 a1, .int .i64 a2] w fun e w' => e = .returned (.bool r) ∧ Below w.heap.size w w' := by
 unfold trivetref13_Asked_s.f at h
 split at h
 ·rename_i hr
  exact trivetref13_Asked.calls a0_0 a0_1 a0_2 a0_3 a0_4 a0_5 a0_6 a0_7 a0_8 a0_9 a0_10 a0_11 a0_12 a0_13 a0_14 a1 a2 r w ((trivetref13_Asked.tells a0_0 a0_1 a0_2 a0_3 a0_4 a0_5 a0_6 a0_7 a0_8 a0_9 a0_10 a0_11 a0_12 a0_13 a0_14 a1 a2 hr).trans h)
 ·cases h
theorem trivetref13_Asked_s.at_ {b r m f e i w fe g bal lvl du cnt sus late day a : Int} (h : (M.In f ∧ M.In fe ∧ M.In g ∧ M.In du) ∧ M.In day) : trivetref13_Asked_s.f b r m f e i w fe g bal lvl du cnt sus late day a = some (decide (M.askOk b r m f e i w fe g bal lvl du cnt sus late day a)) := by unfold trivetref13_Asked_s.f; rw [if_pos h]

/-! ### trivetref02_Month: function 31 -/
def trivetref02_Month.f (a0 : Int) (a1 : Int) : Option (Int) := if (Int.tmod (wrap64 (a0 * a1)) 12000000) > 6000000 then (some (wrap64 ((wrap64 (Int.tdiv (wrap64 (a0 * a1)) 12000000)) + 1))) else (if (Int.tmod (wrap64 (a0 * a1)) 12000000) = 6000000 then (if (Int.tmod (wrap64 (Int.tdiv (wrap64 (a0 * a1)) 12000000)) 2) = 1 then (some (wrap64 ((wrap64 (Int.tdiv (wrap64 (a0 * a1)) 12000000)) + 1))) else (some (wrap64 (Int.tdiv (wrap64 (a0 * a1)) 12000000)))) else (some (wrap64 (Int.tdiv (wrap64 (a0 * a1)) 12000000))))
set_option maxHeartbeats 8000000 in
set_option maxRecDepth 100000 in
theorem trivetref02_Month.calls (a0 : Int) (a1 : Int) (r : Int) (w : World) (h : trivetref02_Month.f a0 a1 = some r) :
  Calls Try.prog 31 #[.int .i64 a0, .int .i64 a1] w fun e w' => e = .returned (.int .i64 r) ∧ Drawn0 w w' := by
 have H : (if (Int.tmod (wrap64 (a0 * a1)) 12000000) > 6000000 then (some (wrap64 ((wrap64 (Int.tdiv (wrap64 (a0 * a1)) 12000000)) + 1))) else (if (Int.tmod (wrap64 (a0 * a1)) 12000000) = 6000000 then (if (Int.tmod (wrap64 (Int.tdiv (wrap64 (a0 * a1)) 12000000)) 2) = 1 then (some (wrap64 ((wrap64 (Int.tdiv (wrap64 (a0 * a1)) 12000000)) + 1))) else (some (wrap64 (Int.tdiv (wrap64 (a0 * a1)) 12000000)))) else (some (wrap64 (Int.tdiv (wrap64 (a0 * a1)) 12000000))))) = some r := h
 clear h
 by_cases c3 : (Int.tmod (wrap64 (a0 * a1)) 12000000) > 6000000
 ·rw [if_pos c3] at H
  have c3b0 : decide (6000000 < (Int.tmod (wrap64 (a0 * a1)) 12000000)) = true := decide_eq_true c3
  clear c3
  obtain rfl := Option.some.inj H
  go_enter Try.func31, Try.ntmps31
  go_wp2
  go_ret
  exact ⟨by first | rfl | (simp; done) | (simp [*]; done), by repeat (first | exact Drawn0.refl _ | apply Drawn0.step)⟩
 ·rw [if_neg c3] at H
  have c3b0 : decide (6000000 < (Int.tmod (wrap64 (a0 * a1)) 12000000)) = false := decide_eq_false c3
  clear c3
  by_cases c4 : (Int.tmod (wrap64 (a0 * a1)) 12000000) = 6000000
  ·rw [if_pos c4] at H
   have c4b0 : ((Int.tmod (wrap64 (a0 * a1)) 12000000) == 6000000) = true := beq_iff_eq.mpr c4
   have c4b1 : ((Int.tmod (wrap64 (a0 * a1)) 12000000) != 6000000) = false := bne_eq_false_iff_eq.mpr c4
   clear c4
   by_cases c5 : (Int.tmod (wrap64 (Int.tdiv (wrap64 (a0 * a1)) 12000000)) 2) = 1
   ·rw [if_pos c5] at H
    have c5b0 : ((Int.tmod (wrap64 (Int.tdiv (wrap64 (a0 * a1)) 12000000)) 2) == 1) = true := beq_iff_eq.mpr c5
    have c5b1 : ((Int.tmod (wrap64 (Int.tdiv (wrap64 (a0 * a1)) 12000000)) 2) != 1) = false := bne_eq_false_iff_eq.mpr c5
    clear c5
    obtain rfl := Option.some.inj H
    go_enter Try.func31, Try.ntmps31
    go_wp2
    go_ret
    exact ⟨by first | rfl | (simp; done) | (simp [*]; done), by repeat (first | exact Drawn0.refl _ | apply Drawn0.step)⟩
   ·rw [if_neg c5] at H
    have c5b0 : ((Int.tmod (wrap64 (Int.tdiv (wrap64 (a0 * a1)) 12000000)) 2) == 1) = false := beq_eq_false_iff_ne.mpr c5
    have c5b1 : ((Int.tmod (wrap64 (Int.tdiv (wrap64 (a0 * a1)) 12000000)) 2) != 1) = true := bne_iff_ne.mpr c5
    obtain rfl := Option.some.inj H
    go_enter Try.func31, Try.ntmps31
    go_wp2
    go_ret
    exact ⟨by first | rfl | (simp; done) | (simp [*]; done), by repeat (first | exact Drawn0.refl _ | apply Drawn0.step)⟩
  ·rw [if_neg c4] at H
   have c4b0 : ((Int.tmod (wrap64 (a0 * a1)) 12000000) == 6000000) = false := beq_eq_false_iff_ne.mpr c4
   have c4b1 : ((Int.tmod (wrap64 (a0 * a1)) 12000000) != 6000000) = true := bne_iff_ne.mpr c4
   obtain rfl := Option.some.inj H
   go_enter Try.func31, Try.ntmps31
   go_wp2
   go_ret
   exact ⟨by first | rfl | (simp; done) | (simp [*]; done), by repeat (first | exact Drawn0.refl _ | apply Drawn0.step)⟩

/-! ### trivetref02_Month_s: function 31, told plainly -/
theorem trivetref02_Month.tells (b r : Int) (h : M.may b r) : trivetref02_Month.f b r = some (M.month b r) := by
 have hp := M.prod_bd h
 unfold trivetref02_Month.f M.month
 rw [M.quo4 _ _ (by decide), M.w64_id (n := b * r) (by omega) (by omega), M.tdivu hp.1, M.tmodu hp.1, M.w64_id (n := b * r / 12000000) (by omega) (by omega), M.tmodu (a := b * r / 12000000) (by omega), M.w64_id (n := b * r / 12000000 + 1) (by omega) (by omega)]
 generalize b * r = n at *
 by_cases h1 : n % 12000000 > 6000000
 ·rw [if_pos h1, if_pos (.inl (by omega))]
 ·rw [if_neg h1]
  by_cases h2 : n % 12000000 = 6000000
  ·rw [if_pos h2]
   by_cases h3 : n / 12000000 % 2 = 1
   ·rw [if_pos h3, if_pos (.inr ⟨by omega, h3⟩)]
   ·rw [if_neg h3, if_neg (by omega), Int.add_zero]
  ·rw [if_neg h2, if_neg (by omega), Int.add_zero]
def trivetref02_Month_s.f (b r : Int) : Option Int := if M.may b r then some (M.month b r) else none
theorem trivetref02_Month_s.calls (a0 : Int) (a1 : Int) (r : Int) (w : World) (h : trivetref02_Month_s.f a0 a1 = some r) :
  Calls Try.prog 31 #[.int .i64 a0, .int .i64 a1] w fun e w' => e = .returned (.int .i64 r) ∧ Drawn0 w w' := by
 unfold trivetref02_Month_s.f at h
 split at h
 ·rename_i hr
  exact trivetref02_Month.calls a0 a1 r w ((trivetref02_Month.tells a0 a1 hr).trans h)
 ·cases h
theorem trivetref02_Month_s.yes {b r : Int} (h : M.may b r) : trivetref02_Month_s.f b r = some (M.month b r) := by unfold trivetref02_Month_s.f; rw [if_pos h]

/-! ### trivetref13_Next: function 16 -/
def trivetref13_Next.f (a0_0 : Int) (a0_1 : Int) (a0_2 : Int) (a0_3 : Int) (a0_4 : Int) (a0_5 : Int) (a0_6 : Int) (a0_7 : Int) (a0_8 : Int) (a0_9 : Int) (a0_10 : Int) (a0_11 : Int) (a0_12 : Int) (a0_13 : Int) (a0_14 : Int) : Option (Int × Int × Int × Int × Int × Int) := (trivetref02_Month_s.f a0_9 a0_1).bind fun t365 => (if (wrap64 (a0_10 - t365)) < 0 then (if 0 > a0_9 then (some (1, t365, a0_9, a0_4, 0, 0)) else (some (1, t365, 0, a0_4, 0, wrap64 (a0_9)))) else (if (wrap64 (a0_10 - t365)) > a0_9 then (some (1, t365, a0_9, a0_4, 0, 0)) else (some (1, t365, wrap64 (a0_10 - t365), a0_4, 0, wrap64 (a0_9 - (wrap64 (a0_10 - t365)))))))
set_option maxHeartbeats 8000000 in
set_option maxRecDepth 100000 in
theorem trivetref13_Next.calls (a0_0 : Int) (a0_1 : Int) (a0_2 : Int) (a0_3 : Int) (a0_4 : Int) (a0_5 : Int) (a0_6 : Int) (a0_7 : Int) (a0_8 : Int) (a0_9 : Int) (a0_10 : Int) (a0_11 : Int) (a0_12 : Int) (a0_13 : Int) (a0_14 : Int) (r1 : Int) (r2 : Int) (r3 : Int) (r4 : Int) (r5 : Int) (r6 : Int) (w : World) (h : trivetref13_Next.f a0_0 a0_1 a0_2 a0_3 a0_4 a0_5 a0_6 a0_7 a0_8 a0_9 a0_10 a0_11 a0_12 a0_13 a0_14 = some (r1, r2, r3, r4, r5, r6)) :
  Calls Try.prog 16 #[.agg #[.int .i64 a0_0, .int .i64 a0_1, .int .i64 a0_2, .int .i64 a0_3, .int .i64 a0_4, .int .i64 a0_5, .int .i64 a0_6, .int .i64 a0_7, .int .i64 a0_8, .int .i64 a0_9, .int .i64 a0_10, .int .i64 a0_11, .int .i64 a0_12, .int .i64 a0_13, .int .i64 a0_14]] w fun e w' => e = .returned (.agg #[.int .i64 r1, .int .i64 r2, .int .i64 r3, .int .i64 r4, .int .i64 r5, .int .i64 r6]) ∧ Below w.heap.size w w' := by
 have hu25 := Try.underlying25
 have hu28 := Try.underlying28
 have HB := ka (Below.refl w.heap.size w)
 have H : ((trivetref02_Month_s.f a0_9 a0_1).bind fun t365 => (if (wrap64 (a0_10 - t365)) < 0 then (if 0 > a0_9 then (some (1, t365, a0_9, a0_4, 0, 0)) else (some (1, t365, 0, a0_4, 0, wrap64 (a0_9)))) else (if (wrap64 (a0_10 - t365)) > a0_9 then (some (1, t365, a0_9, a0_4, 0, 0)) else (some (1, t365, wrap64 (a0_10 - t365), a0_4, 0, wrap64 (a0_9 - (wrap64 (a0_10 - t365)))))))) = some (r1, r2, r3, r4, r5, r6) := h
 clear h
 replace H := Option.bind_eq_some_iff.mp H
 obtain ⟨t365, A20, H⟩ := H
 replace H : (if (wrap64 (a0_10 - t365)) < 0 then (if 0 > a0_9 then (some (1, t365, a0_9, a0_4, 0, 0)) else (some (1, t365, 0, a0_4, 0, wrap64 (a0_9)))) else (if (wrap64 (a0_10 - t365)) > a0_9 then (some (1, t365, a0_9, a0_4, 0, 0)) else (some (1, t365, wrap64 (a0_10 - t365), a0_4, 0, wrap64 (a0_9 - (wrap64 (a0_10 - t365))))))) = some (r1, r2, r3, r4, r5, r6) := H
 have A2 := ka A20
 clear A20
 by_cases c3 : (wrap64 (a0_10 - t365)) < 0
 ·rw [if_pos c3] at H
  have c3b0 : decide ((wrap64 (a0_10 - t365)) < 0) = true := decide_eq_true c3
  clear c3
  by_cases c4 : 0 > a0_9
  ·rw [if_pos c4] at H
   have c4b0 : decide (a0_9 < 0) = true := decide_eq_true c4
   clear c4
   simp only [Option.some.injEq, Prod.mk.injEq] at H
   obtain ⟨rfl, rfl, rfl, rfl, rfl, rfl⟩ := H
   go_enter Try.func16, Try.ntmps16
   go_wp2_with (first | ((with_reducible refine gate_dst (N := 1) rfl ?_); refine kx (N := 1) (cs := #[.int .i64 a0_0, .int .i64 a0_1, .int .i64 a0_2, .int .i64 a0_3, .int .i64 a0_4, .int .i64 a0_5, .int .i64 a0_6, .int .i64 a0_7, .int .i64 a0_8, .int .i64 a0_9, .int .i64 a0_10, .int .i64 a0_11, .int .i64 a0_12, .int .i64 a0_13, .int .i64 a0_14]) (t := 25) ?_; intro gb363 hg w5 hbox hb; have n0_ := ka (below_step (kw HB.out) hb); have n1_ := ka (hbox); have n2_ := ka ((by rw [hg]; exact (below_size (kw HB.out)) : w.heap.size ≤ gb363)); have n3_ := n2_; clear HB; have HB := n0_; have BK363 := n1_; have GW363 := n2_; have GE363 := n3_; clear n0_ n1_ n2_ n3_; clear hb hbox hg) | ((with_reducible refine gate_dst (N := 2) rfl ?_); refine kx (N := 2) (cs := #[.int .i64 0, .int .i64 0, .int .i64 0, .int .i64 0, .int .i64 0, .int .i64 0]) (t := 28) ?_; intro gb364 hg w6 hbox hb; have n0_ := ka (blk_below (g := gb363) (kz BK363.out) hb); have n1_ := ka (below_step (kw HB.out) hb); have n2_ := ka (hbox); have n3_ := ka ((by rw [hg]; exact (below_size (kw HB.out)) : w.heap.size ≤ gb364)); have n4_ := n3_; have n5_ := ka ((by rw [hg]; exact Nat.ne_of_lt (blk_lt (g := gb363) (kz BK363.out)) : gb363 ≠ gb364)); have n6_ := ka n5_.out.symm; clear BK363; clear HB; have BK363 := n0_; have HB := n1_; have BK364 := n2_; have GW364 := n3_; have GE364 := n4_; have NB363_364 := n5_; have NB364_363 := n6_; clear n0_ n1_ n2_ n3_ n4_ n5_ n6_; clear hb hbox hg; have hnb7 := NB363_364.out; have hnc7 := NB364_363.out; have hcz8 := blkAll15 BK363.out) | ((with_reducible refine gate_callee (f := 31) rfl ?_); refine kg (some 10) rfl rfl Try.func31 (by kernel_rfl) rfl #[.int .i64 a0_9, .int .i64 a0_1] rfl ?_; (with_reducible refine (trivetref02_Month_s.calls a0_9 a0_1 t365 _ A2.out).mono ?_); rintro e w' ⟨rfl, ⟨nd, rfl⟩⟩; refine ⟨_, rfl, ?_⟩; (try (rw [drewN_self w6]; generalize hq_ : World.drewN w6 _ = w6; have n0_ : Aside0 (w6.heap[gb363]? = some (.cells #[.int .i64 a0_0, .int .i64 a0_1, .int .i64 a0_2, .int .i64 a0_3, .int .i64 a0_4, .int .i64 a0_5, .int .i64 a0_6, .int .i64 a0_7, .int .i64 a0_8, .int .i64 a0_9, .int .i64 a0_10, .int .i64 a0_11, .int .i64 a0_12, .int .i64 a0_13, .int .i64 a0_14] 25 (0, 0))) := ⟨by rw [← hq_]; exact (kz BK363.out)⟩; have n1_ : Aside0 (w6.heap[gb364]? = some (.cells #[.int .i64 0, .int .i64 0, .int .i64 0, .int .i64 0, .int .i64 0, .int .i64 0] 28 (0, 0))) := ⟨by rw [← hq_]; exact (kz BK364.out)⟩; have n2_ : Aside0 (Below w.heap.size w w6) := ⟨by rw [← hq_]; exact (kw HB.out)⟩; clear BK363 BK364 HB hq_; have BK363 := n0_; have BK364 := n1_; have HB := n2_; clear n0_ n1_ n2_)); have hcz9 := blkAll15 BK363.out; have hcz10 := blkAll6 BK364.out))
   refine bodyPost_ret (results_cell_row rfl _ _ gb364 28 #[.int .i64 1, .int .i64 t365, .int .i64 a0_9, .int .i64 a0_4, .int .i64 0, .int .i64 0] (0, 0) _ rfl (by (with_reducible repeat (first | apply kb1 | apply kb2 | apply kb3 | apply blkPut6_5 | apply blkPut6_4 | apply blkPut6_3 | apply blkPut6_2 | apply blkPut6_1 | apply blkPut6_0)); exact BK364.out) Try.underlying28 rfl (by kernel_rfl)) rfl ?_
   exact ⟨by first | rfl | (simp [errW_none, errW_some] <;> rfl) | (simp [*, errW_none, errW_some] <;> rfl), by repeat (first | (with_reducible first | exact HB.out | apply kc1 | apply kc2 | apply kc3 | refine kc4 ?_ GE363.out | refine kc4 ?_ GE364.out) | exact HB.out)⟩
  ·rw [if_neg c4] at H
   have c4b0 : decide (a0_9 < 0) = false := decide_eq_false c4
   clear c4
   simp only [Option.some.injEq, Prod.mk.injEq] at H
   obtain ⟨rfl, rfl, rfl, rfl, rfl, rfl⟩ := H
   go_enter Try.func16, Try.ntmps16
   go_wp2_with (first | ((with_reducible refine gate_dst (N := 1) rfl ?_); refine kx (N := 1) (cs := #[.int .i64 a0_0, .int .i64 a0_1, .int .i64 a0_2, .int .i64 a0_3, .int .i64 a0_4, .int .i64 a0_5, .int .i64 a0_6, .int .i64 a0_7, .int .i64 a0_8, .int .i64 a0_9, .int .i64 a0_10, .int .i64 a0_11, .int .i64 a0_12, .int .i64 a0_13, .int .i64 a0_14]) (t := 25) ?_; intro gb363 hg w11 hbox hb; have n0_ := ka (below_step (kw HB.out) hb); have n1_ := ka (hbox); have n2_ := ka ((by rw [hg]; exact (below_size (kw HB.out)) : w.heap.size ≤ gb363)); have n3_ := n2_; clear HB; have HB := n0_; have BK363 := n1_; have GW363 := n2_; have GE363 := n3_; clear n0_ n1_ n2_ n3_; clear hb hbox hg) | ((with_reducible refine gate_dst (N := 2) rfl ?_); refine kx (N := 2) (cs := #[.int .i64 0, .int .i64 0, .int .i64 0, .int .i64 0, .int .i64 0, .int .i64 0]) (t := 28) ?_; intro gb364 hg w12 hbox hb; have n0_ := ka (blk_below (g := gb363) (kz BK363.out) hb); have n1_ := ka (below_step (kw HB.out) hb); have n2_ := ka (hbox); have n3_ := ka ((by rw [hg]; exact (below_size (kw HB.out)) : w.heap.size ≤ gb364)); have n4_ := n3_; have n5_ := ka ((by rw [hg]; exact Nat.ne_of_lt (blk_lt (g := gb363) (kz BK363.out)) : gb363 ≠ gb364)); have n6_ := ka n5_.out.symm; clear BK363; clear HB; have BK363 := n0_; have HB := n1_; have BK364 := n2_; have GW364 := n3_; have GE364 := n4_; have NB363_364 := n5_; have NB364_363 := n6_; clear n0_ n1_ n2_ n3_ n4_ n5_ n6_; clear hb hbox hg; have hnb13 := NB363_364.out; have hnc13 := NB364_363.out; have hcz14 := blkAll15 BK363.out) | ((with_reducible refine gate_callee (f := 31) rfl ?_); refine kg (some 10) rfl rfl Try.func31 (by kernel_rfl) rfl #[.int .i64 a0_9, .int .i64 a0_1] rfl ?_; (with_reducible refine (trivetref02_Month_s.calls a0_9 a0_1 t365 _ A2.out).mono ?_); rintro e w' ⟨rfl, ⟨nd, rfl⟩⟩; refine ⟨_, rfl, ?_⟩; (try (rw [drewN_self w12]; generalize hq_ : World.drewN w12 _ = w12; have n0_ : Aside0 (w12.heap[gb363]? = some (.cells #[.int .i64 a0_0, .int .i64 a0_1, .int .i64 a0_2, .int .i64 a0_3, .int .i64 a0_4, .int .i64 a0_5, .int .i64 a0_6, .int .i64 a0_7, .int .i64 a0_8, .int .i64 a0_9, .int .i64 a0_10, .int .i64 a0_11, .int .i64 a0_12, .int .i64 a0_13, .int .i64 a0_14] 25 (0, 0))) := ⟨by rw [← hq_]; exact (kz BK363.out)⟩; have n1_ : Aside0 (w12.heap[gb364]? = some (.cells #[.int .i64 0, .int .i64 0, .int .i64 0, .int .i64 0, .int .i64 0, .int .i64 0] 28 (0, 0))) := ⟨by rw [← hq_]; exact (kz BK364.out)⟩; have n2_ : Aside0 (Below w.heap.size w w12) := ⟨by rw [← hq_]; exact (kw HB.out)⟩; clear BK363 BK364 HB hq_; have BK363 := n0_; have BK364 := n1_; have HB := n2_; clear n0_ n1_ n2_)); have hcz15 := blkAll15 BK363.out; have hcz16 := blkAll6 BK364.out))
   refine bodyPost_ret (results_cell_row rfl _ _ gb364 28 #[.int .i64 1, .int .i64 t365, .int .i64 0, .int .i64 a0_4, .int .i64 0, .int .i64 (wrap64 (a0_9))] (0, 0) _ rfl (by (with_reducible repeat (first | apply kb1 | apply kb2 | apply kb3 | apply blkPut6_5 | apply blkPut6_4 | apply blkPut6_3 | apply blkPut6_2 | apply blkPut6_1 | apply blkPut6_0)); exact BK364.out) Try.underlying28 rfl (by kernel_rfl)) rfl ?_
   exact ⟨by first | rfl | (simp [errW_none, errW_some] <;> rfl) | (simp [*, errW_none, errW_some] <;> rfl), by repeat (first | (with_reducible first | exact HB.out | apply kc1 | apply kc2 | apply kc3 | refine kc4 ?_ GE363.out | refine kc4 ?_ GE364.out) | exact HB.out)⟩
 ·rw [if_neg c3] at H
  have c3b0 : decide ((wrap64 (a0_10 - t365)) < 0) = false := decide_eq_false c3
  clear c3
  by_cases c17 : (wrap64 (a0_10 - t365)) > a0_9
  ·rw [if_pos c17] at H
   have c17b0 : decide (a0_9 < (wrap64 (a0_10 - t365))) = true := decide_eq_true c17
   clear c17
   simp only [Option.some.injEq, Prod.mk.injEq] at H
   obtain ⟨rfl, rfl, rfl, rfl, rfl, rfl⟩ := H
   go_enter Try.func16, Try.ntmps16
   go_wp2_with (first | ((with_reducible refine gate_dst (N := 1) rfl ?_); refine kx (N := 1) (cs := #[.int .i64 a0_0, .int .i64 a0_1, .int .i64 a0_2, .int .i64 a0_3, .int .i64 a0_4, .int .i64 a0_5, .int .i64 a0_6, .int .i64 a0_7, .int .i64 a0_8, .int .i64 a0_9, .int .i64 a0_10, .int .i64 a0_11, .int .i64 a0_12, .int .i64 a0_13, .int .i64 a0_14]) (t := 25) ?_; intro gb363 hg w18 hbox hb; have n0_ := ka (below_step (kw HB.out) hb); have n1_ := ka (hbox); have n2_ := ka ((by rw [hg]; exact (below_size (kw HB.out)) : w.heap.size ≤ gb363)); have n3_ := n2_; clear HB; have HB := n0_; have BK363 := n1_; have GW363 := n2_; have GE363 := n3_; clear n0_ n1_ n2_ n3_; clear hb hbox hg) | ((with_reducible refine gate_dst (N := 2) rfl ?_); refine kx (N := 2) (cs := #[.int .i64 0, .int .i64 0, .int .i64 0, .int .i64 0, .int .i64 0, .int .i64 0]) (t := 28) ?_; intro gb364 hg w19 hbox hb; have n0_ := ka (blk_below (g := gb363) (kz BK363.out) hb); have n1_ := ka (below_step (kw HB.out) hb); have n2_ := ka (hbox); have n3_ := ka ((by rw [hg]; exact (below_size (kw HB.out)) : w.heap.size ≤ gb364)); have n4_ := n3_; have n5_ := ka ((by rw [hg]; exact Nat.ne_of_lt (blk_lt (g := gb363) (kz BK363.out)) : gb363 ≠ gb364)); have n6_ := ka n5_.out.symm; clear BK363; clear HB; have BK363 := n0_; have HB := n1_; have BK364 := n2_; have GW364 := n3_; have GE364 := n4_; have NB363_364 := n5_; have NB364_363 := n6_; clear n0_ n1_ n2_ n3_ n4_ n5_ n6_; clear hb hbox hg; have hnb20 := NB363_364.out; have hnc20 := NB364_363.out; have hcz21 := blkAll15 BK363.out) | ((with_reducible refine gate_callee (f := 31) rfl ?_); refine kg (some 10) rfl rfl Try.func31 (by kernel_rfl) rfl #[.int .i64 a0_9, .int .i64 a0_1] rfl ?_; (with_reducible refine (trivetref02_Month_s.calls a0_9 a0_1 t365 _ A2.out).mono ?_); rintro e w' ⟨rfl, ⟨nd, rfl⟩⟩; refine ⟨_, rfl, ?_⟩; (try (rw [drewN_self w19]; generalize hq_ : World.drewN w19 _ = w19; have n0_ : Aside0 (w19.heap[gb363]? = some (.cells #[.int .i64 a0_0, .int .i64 a0_1, .int .i64 a0_2, .int .i64 a0_3, .int .i64 a0_4, .int .i64 a0_5, .int .i64 a0_6, .int .i64 a0_7, .int .i64 a0_8, .int .i64 a0_9, .int .i64 a0_10, .int .i64 a0_11, .int .i64 a0_12, .int .i64 a0_13, .int .i64 a0_14] 25 (0, 0))) := ⟨by rw [← hq_]; exact (kz BK363.out)⟩; have n1_ : Aside0 (w19.heap[gb364]? = some (.cells #[.int .i64 0, .int .i64 0, .int .i64 0, .int .i64 0, .int .i64 0, .int .i64 0] 28 (0, 0))) := ⟨by rw [← hq_]; exact (kz BK364.out)⟩; have n2_ : Aside0 (Below w.heap.size w w19) := ⟨by rw [← hq_]; exact (kw HB.out)⟩; clear BK363 BK364 HB hq_; have BK363 := n0_; have BK364 := n1_; have HB := n2_; clear n0_ n1_ n2_)); have hcz22 := blkAll15 BK363.out; have hcz23 := blkAll6 BK364.out))
   refine bodyPost_ret (results_cell_row rfl _ _ gb364 28 #[.int .i64 1, .int .i64 t365, .int .i64 a0_9, .int .i64 a0_4, .int .i64 0, .int .i64 0] (0, 0) _ rfl (by (with_reducible repeat (first | apply kb1 | apply kb2 | apply kb3 | apply blkPut6_5 | apply blkPut6_4 | apply blkPut6_3 | apply blkPut6_2 | apply blkPut6_1 | apply blkPut6_0)); exact BK364.out) Try.underlying28 rfl (by kernel_rfl)) rfl ?_
   exact ⟨by first | rfl | (simp [errW_none, errW_some] <;> rfl) | (simp [*, errW_none, errW_some] <;> rfl), by repeat (first | (with_reducible first | exact HB.out | apply kc1 | apply kc2 | apply kc3 | refine kc4 ?_ GE363.out | refine kc4 ?_ GE364.out) | exact HB.out)⟩
  ·rw [if_neg c17] at H
   have c17b0 : decide (a0_9 < (wrap64 (a0_10 - t365))) = false := decide_eq_false c17
   clear c17
   simp only [Option.some.injEq, Prod.mk.injEq] at H
   obtain ⟨rfl, rfl, rfl, rfl, rfl, rfl⟩ := H
   go_enter Try.func16, Try.ntmps16
   go_wp2_with (first | ((with_reducible refine gate_dst (N := 1) rfl ?_); refine kx (N := 1) (cs := #[.int .i64 a0_0, .int .i64 a0_1, .int .i64 a0_2, .int .i64 a0_3, .int .i64 a0_4, .int .i64 a0_5, .int .i64 a0_6, .int .i64 a0_7, .int .i64 a0_8, .int .i64 a0_9, .int .i64 a0_10, .int .i64 a0_11, .int .i64 a0_12, .int .i64 a0_13, .int .i64 a0_14]) (t := 25) ?_; intro gb363 hg w24 hbox hb; have n0_ := ka (below_step (kw HB.out) hb); have n1_ := ka (hbox); have n2_ := ka ((by rw [hg]; exact (below_size (kw HB.out)) : w.heap.size ≤ gb363)); have n3_ := n2_; clear HB; have HB := n0_; have BK363 := n1_; have GW363 := n2_; have GE363 := n3_; clear n0_ n1_ n2_ n3_; clear hb hbox hg) | ((with_reducible refine gate_dst (N := 2) rfl ?_); refine kx (N := 2) (cs := #[.int .i64 0, .int .i64 0, .int .i64 0, .int .i64 0, .int .i64 0, .int .i64 0]) (t := 28) ?_; intro gb364 hg w25 hbox hb; have n0_ := ka (blk_below (g := gb363) (kz BK363.out) hb); have n1_ := ka (below_step (kw HB.out) hb); have n2_ := ka (hbox); have n3_ := ka ((by rw [hg]; exact (below_size (kw HB.out)) : w.heap.size ≤ gb364)); have n4_ := n3_; have n5_ := ka ((by rw [hg]; exact Nat.ne_of_lt (blk_lt (g := gb363) (kz BK363.out)) : gb363 ≠ gb364)); have n6_ := ka n5_.out.symm; clear BK363; clear HB; have BK363 := n0_; have HB := n1_; have BK364 := n2_; have GW364 := n3_; have GE364 := n4_; have NB363_364 := n5_; have NB364_363 := n6_; clear n0_ n1_ n2_ n3_ n4_ n5_ n6_; clear hb hbox hg; have hnb26 := NB363_364.out; have hnc26 := NB364_363.out; have hcz27 := blkAll15 BK363.out) | ((with_reducible refine gate_callee (f := 31) rfl ?_); refine kg (some 10) rfl rfl Try.func31 (by kernel_rfl) rfl #[.int .i64 a0_9, .int .i64 a0_1] rfl ?_; (with_reducible refine (trivetref02_Month_s.calls a0_9 a0_1 t365 _ A2.out).mono ?_); rintro e w' ⟨rfl, ⟨nd, rfl⟩⟩; refine ⟨_, rfl, ?_⟩; (try (rw [drewN_self w25]; generalize hq_ : World.drewN w25 _ = w25; have n0_ : Aside0 (w25.heap[gb363]? = some (.cells #[.int .i64 a0_0, .int .i64 a0_1, .int .i64 a0_2, .int .i64 a0_3, .int .i64 a0_4, .int .i64 a0_5, .int .i64 a0_6, .int .i64 a0_7, .int .i64 a0_8, .int .i64 a0_9, .int .i64 a0_10, .int .i64 a0_11, .int .i64 a0_12, .int .i64 a0_13, .int .i64 a0_14] 25 (0, 0))) := ⟨by rw [← hq_]; exact (kz BK363.out)⟩; have n1_ : Aside0 (w25.heap[gb364]? = some (.cells #[.int .i64 0, .int .i64 0, .int .i64 0, .int .i64 0, .int .i64 0, .int .i64 0] 28 (0, 0))) := ⟨by rw [← hq_]; exact (kz BK364.out)⟩; have n2_ : Aside0 (Below w.heap.size w w25) := ⟨by rw [← hq_]; exact (kw HB.out)⟩; clear BK363 BK364 HB hq_; have BK363 := n0_; have BK364 := n1_; have HB := n2_; clear n0_ n1_ n2_)); have hcz28 := blkAll15 BK363.out; have hcz29 := blkAll6 BK364.out))
   refine bodyPost_ret (results_cell_row rfl _ _ gb364 28 #[.int .i64 1, .int .i64 t365, .int .i64 (wrap64 (a0_10 - t365)), .int .i64 a0_4, .int .i64 0, .int .i64 (wrap64 (a0_9 - (wrap64 (a0_10 - t365))))] (0, 0) _ rfl (by (with_reducible repeat (first | apply kb1 | apply kb2 | apply kb3 | apply blkPut6_5 | apply blkPut6_4 | apply blkPut6_3 | apply blkPut6_2 | apply blkPut6_1 | apply blkPut6_0)); exact BK364.out) Try.underlying28 rfl (by kernel_rfl)) rfl ?_
   exact ⟨by first | rfl | (simp [errW_none, errW_some] <;> rfl) | (simp [*, errW_none, errW_some] <;> rfl), by repeat (first | (with_reducible first | exact HB.out | apply kc1 | apply kc2 | apply kc3 | refine kc4 ?_ GE363.out | refine kc4 ?_ GE364.out) | exact HB.out)⟩

/-! ### trivetref13_Next_s: function 16, told plainly -/
theorem trivetref13_Next.tells (b r m f e i w fe g bal lvl du cnt sus late : Int) (h : M.may bal r ∧ 0 ≤ lvl ∧ lvl ≤ 20000000000000) : trivetref13_Next.f b r m f e i w fe g bal lvl du cnt sus late = some (1, M.month bal r, M.prin bal r lvl, e, 0, bal - M.prin bal r lvl) := by
 obtain ⟨h1, h2, h3⟩ := h
 have a := M.month_nonneg h1
 have c := M.month_le h1
 have d := h1.2.1
 have d0 := h1.1
 unfold trivetref13_Next.f M.prin
 rw [trivetref02_Month_s.yes h1, Option.bind_some, M.w64_id (n := lvl - M.month bal r) (by omega) (by omega)]
 by_cases c1 : lvl - M.month bal r < 0
 ·rw [if_pos c1, if_pos c1, if_neg (show ¬ 0 > bal by omega), Int.sub_zero, M.w64_id (n := bal) (by omega) (by omega)]
 ·rw [if_neg c1, if_neg c1]
  by_cases c2 : lvl - M.month bal r > bal
  ·rw [if_pos c2, if_pos c2, Int.sub_self]
  ·rw [if_neg c2, if_neg c2, M.w64_id (n := bal - (lvl - M.month bal r)) (by omega) (by omega)]
def trivetref13_Next_s.f (b r m f e i w fe g bal lvl du cnt sus late : Int) : Option (Int × Int × Int × Int × Int × Int) := if M.may bal r ∧ 0 ≤ lvl ∧ lvl ≤ 20000000000000 then some (1, M.month bal r, M.prin bal r lvl, e, 0, bal - M.prin bal r lvl) else none
theorem trivetref13_Next_s.calls (a0_0 : Int) (a0_1 : Int) (a0_2 : Int) (a0_3 : Int) (a0_4 : Int) (a0_5 : Int) (a0_6 : Int) (a0_7 : Int) (a0_8 : Int) (a0_9 : Int) (a0_10 : Int) (a0_11 : Int) (a0_12 : Int) (a0_13 : Int) (a0_14 : Int) (r1 : Int) (r2 : Int) (r3 : Int) (r4 : Int) (r5 : Int) (r6 : Int) (w : World) (h : trivetref13_Next_s.f a0_0 a0_1 a0_2 a0_3 a0_4 a0_5 a0_6 a0_7 a0_8 a0_9 a0_10 a0_11 a0_12 a0_13 a0_14 = some (r1, r2, r3, r4, r5, r6)) :
  Calls Try.prog 16 #[.agg #[.int .i64 a0_0, .int .i64 a0_1, .int .i64 a0_2, .int .i64 a0_3, .int .i64 a0_4, .int .i64 a0_5, .int .i64 a0_6, .int .i64 a0_7, .int .i64 a0_8, .int .i64 a0_9, .int .i64 a0_10, .int .i64 a0_11, .int .i64 a0_12, .int .i64 a0_13, .int .i64 a0_14]] w fun e w' => e = .returned (.agg #[.int .i64 r1, .int .i64 r2, .int .i64 r3, .int .i64 r4, .int .i64 r5, .int .i64 r6]) ∧ Below w.heap.size w w' := by
 unfold trivetref13_Next_s.f at h
 split at h
 ·rename_i hr
  exact trivetref13_Next.calls a0_0 a0_1 a0_2 a0_3 a0_4 a0_5 a0_6 a0_7 a0_8 a0_9 a0_10 a0_11 a0_12 a0_13 a0_14 r1 r2 r3 r4 r5 r6 w ((trivetref13_Next.tells a0_0 a0_1 a0_2 a0_3 a0_4 a0_5 a0_6 a0_7 a0_8 a0_9 a0_10 a0_11 a0_12 a0_13 a0_14 hr).trans h)
 ·cases h
theorem trivetref13_Next_s.yes {b r m f e i w fe g bal lvl du cnt sus late : Int} (h : M.may bal r ∧ 0 ≤ lvl ∧ lvl ≤ 20000000000000) : trivetref13_Next_s.f b r m f e i w fe g bal lvl du cnt sus late = some (1, M.month bal r, M.prin bal r lvl, e, 0, bal - M.prin bal r lvl) := by unfold trivetref13_Next_s.f; rw [if_pos h]

/-! ### trivetref13_current: function 25 -/
def trivetref13_current.f (a0_0 : Int) (a0_1 : Int) (a0_2 : Int) (a0_3 : Int) (a0_4 : Int) (a0_5 : Int) (a0_6 : Int) (a0_7 : Int) (a0_8 : Int) (a0_9 : Int) (a0_10 : Int) (a0_11 : Int) (a0_12 : Int) (a0_13 : Int) (a0_14 : Int) (a1 : Int) : Option (Bool) := if a0_9 = 0 then (some true) else (some (decide (a0_11 > a1)))
set_option maxHeartbeats 8000000 in
set_option maxRecDepth 100000 in
theorem trivetref13_current.calls (a0_0 : Int) (a0_1 : Int) (a0_2 : Int) (a0_3 : Int) (a0_4 : Int) (a0_5 : Int) (a0_6 : Int) (a0_7 : Int) (a0_8 : Int) (a0_9 : Int) (a0_10 : Int) (a0_11 : Int) (a0_12 : Int) (a0_13 : Int) (a0_14 : Int) (a1 : Int) (r : Bool) (w : World) (h : trivetref13_current.f a0_0 a0_1 a0_2 a0_3 a0_4 a0_5 a0_6 a0_7 a0_8 a0_9 a0_10 a0_11 a0_12 a0_13 a0_14 a1 = some r) :
  Calls Try.prog 25 #[.agg #[.int .i64 a0_0, .int .i64 a0_1, .int .i64 a0_2, .int .i64 a0_3, .int .i64 a0_4, .int .i64 a0_5, .int .i64 a0_6, .int .i64 a0_7, .int .i64 a0_8, .int .i64 a0_9, .int .i64 a0_10, .int .i64 a0_11, .int .i64 a0_12, .int .i64 a0_13, .int .i64 a0_14], .int .i64 a1] w fun e w' => e = .returned (.bool r) ∧ Below w.heap.size w w' := by
 have hu25 := Try.underlying25
 have HB := ka (Below.refl w.heap.size w)
 have H : (if a0_9 = 0 then (some true) else (some (decide (a0_11 > a1)))) = some r := h
 clear h
 by_cases c3 : a0_9 = 0
 ·rw [if_pos c3] at H
  have c3b0 : (a0_9 == 0) = true := beq_iff_eq.mpr c3
  have c3b1 : (a0_9 != 0) = false := bne_eq_false_iff_eq.mpr c3
  clear c3
  obtain rfl := Option.some.inj H
  go_enter Try.func25, Try.ntmps25
  go_wp2_with (first | ((with_reducible refine gate_dst (N := 2) rfl ?_); refine kx (N := 2) (cs := #[.int .i64 a0_0, .int .i64 a0_1, .int .i64 a0_2, .int .i64 a0_3, .int .i64 a0_4, .int .i64 a0_5, .int .i64 a0_6, .int .i64 a0_7, .int .i64 a0_8, .int .i64 a0_9, .int .i64 a0_10, .int .i64 a0_11, .int .i64 a0_12, .int .i64 a0_13, .int .i64 a0_14]) (t := 25) ?_; intro gb366 hg w4 hbox hb; have n0_ := ka (below_step (kw HB.out) hb); have n1_ := ka (hbox); have n2_ := ka ((by rw [hg]; exact (below_size (kw HB.out)) : w.heap.size ≤ gb366)); have n3_ := n2_; clear HB; have HB := n0_; have BK366 := n1_; have GW366 := n2_; have GE366 := n3_; clear n0_ n1_ n2_ n3_; clear hb hbox hg; have hcz5 := blkAll15 BK366.out))
  go_ret
  exact ⟨by first | rfl | (simp [errW_none, errW_some] <;> rfl) | (simp [*, errW_none, errW_some] <;> rfl), by repeat (first | (with_reducible first | exact HB.out | apply kc1 | apply kc2 | apply kc3 | refine kc4 ?_ GE366.out) | exact HB.out)⟩
 ·rw [if_neg c3] at H
  have c3b0 : (a0_9 == 0) = false := beq_eq_false_iff_ne.mpr c3
  have c3b1 : (a0_9 != 0) = true := bne_iff_ne.mpr c3
  obtain rfl := Option.some.inj H
  go_enter Try.func25, Try.ntmps25
  go_wp2_with (first | ((with_reducible refine gate_dst (N := 2) rfl ?_); refine kx (N := 2) (cs := #[.int .i64 a0_0, .int .i64 a0_1, .int .i64 a0_2, .int .i64 a0_3, .int .i64 a0_4, .int .i64 a0_5, .int .i64 a0_6, .int .i64 a0_7, .int .i64 a0_8, .int .i64 a0_9, .int .i64 a0_10, .int .i64 a0_11, .int .i64 a0_12, .int .i64 a0_13, .int .i64 a0_14]) (t := 25) ?_; intro gb366 hg w6 hbox hb; have n0_ := ka (below_step (kw HB.out) hb); have n1_ := ka (hbox); have n2_ := ka ((by rw [hg]; exact (below_size (kw HB.out)) : w.heap.size ≤ gb366)); have n3_ := n2_; clear HB; have HB := n0_; have BK366 := n1_; have GW366 := n2_; have GE366 := n3_; clear n0_ n1_ n2_ n3_; clear hb hbox hg; have hcz7 := blkAll15 BK366.out))
  go_ret
  exact ⟨by first | rfl | (simp [errW_none, errW_some] <;> rfl) | (simp [*, errW_none, errW_some] <;> rfl), by repeat (first | (with_reducible first | exact HB.out | apply kc1 | apply kc2 | apply kc3 | refine kc4 ?_ GE366.out) | exact HB.out)⟩

/-! ### trivetref13_later: function 26 -/
def trivetref13_later.f (a0 : Int) : Option (Int × Bool) := (trivetref04_Of_s.f a0).bind fun bt367 => ((trivetref04_Months_s.f bt367.1 bt367.2.1 bt367.2.2.1 1).bind fun bt372 => (if bt372.2.2.2 = true then ((trivetref04_Number_s.f bt372.1 bt372.2.1 bt372.2.2.1).bind fun t377 => (some (t377, true))) else (some (0, false))))
set_option maxHeartbeats 8000000 in
set_option maxRecDepth 100000 in
theorem trivetref13_later.calls (a0 : Int) (r1 : Int) (r2 : Bool) (w : World) (h : trivetref13_later.f a0 = some (r1, r2)) :
  Calls Try.prog 26 #[.int .i64 a0] w fun e w' => e = .returned (.tuple #[.int .i64 r1, .bool r2]) ∧ Below w.heap.size w w' := by
 have hu53 := Try.underlying53
 have HB := ka (Below.refl w.heap.size w)
 have H : ((trivetref04_Of_s.f a0).bind fun bt367 => ((trivetref04_Months_s.f bt367.1 bt367.2.1 bt367.2.2.1 1).bind fun bt372 => (if bt372.2.2.2 = true then ((trivetref04_Number_s.f bt372.1 bt372.2.1 bt372.2.2.1).bind fun t377 => (some (t377, true))) else (some (0, false))))) = some (r1, r2) := h
 clear h
 replace H := Option.bind_eq_some_iff.mp H
 obtain ⟨⟨t367, t368, t369, t370⟩, A20, H⟩ := H
 replace H : ((trivetref04_Months_s.f t367 t368 t369 1).bind fun bt372 => (if bt372.2.2.2 = true then ((trivetref04_Number_s.f bt372.1 bt372.2.1 bt372.2.2.1).bind fun t377 => (some (t377, true))) else (some (0, false)))) = some (r1, r2) := H
 have A2 := ka A20
 clear A20
 replace H := Option.bind_eq_some_iff.mp H
 obtain ⟨⟨t372, t373, t374, t375⟩, A30, H⟩ := H
 replace H : (if t375 = true then ((trivetref04_Number_s.f t372 t373 t374).bind fun t377 => (some (t377, true))) else (some (0, false))) = some (r1, r2) := H
 have A3 := ka A30
 clear A30
 by_cases c4 : t375 = true
 ·subst c4
  have H1 : ((trivetref04_Number_s.f t372 t373 t374).bind fun t377 => (some (t377, true))) = some (r1, r2) := by rw [if_pos rfl] at H; exact H
  clear H
  have H := H1
  clear H1
  replace H := Option.bind_eq_some_iff.mp H
  obtain ⟨t377, A50, H⟩ := H
  replace H : (some (t377, true)) = some (r1, r2) := H
  have A5 := ka A50
  clear A50
  simp only [Option.some.injEq, Prod.mk.injEq] at H
  obtain ⟨rfl, rfl⟩ := H
  go_enter Try.func26, Try.ntmps26
  go_wp2_with (first | ((with_reducible refine gate_callee (f := 24) rfl ?_); refine kg (some 10) rfl rfl Try.func24 (by kernel_rfl) rfl #[.int .i64 a0] rfl ?_; (with_reducible refine (trivetref04_Of_s.calls a0 t367 t368 t369 t370 _ A2.out).mono ?_); rintro e w6 ⟨rfl, hb⟩; refine ⟨_, rfl, ?_⟩; have n0_ := ka (below_step (kw HB.out) hb); clear HB; have HB := n0_; clear n0_; (try clear hb); (try clear hb2); (try clear hk); (try clear hi)) | ((with_reducible refine gate_dst (N := 4) rfl ?_); refine kx (N := 4) (cs := #[.int .i64 0, .int .i64 0, .int .i64 0]) (t := 53) ?_; intro gb371 hg w7 hbox hb; have n0_ := ka (below_step (kw HB.out) hb); have n1_ := ka (hbox); have n2_ := ka ((by rw [hg]; exact (below_size (kw HB.out)) : w.heap.size ≤ gb371)); have n3_ := n2_; clear HB; have HB := n0_; have BK371 := n1_; have GW371 := n2_; have GE371 := n3_; clear n0_ n1_ n2_ n3_; clear hb hbox hg; have hcz8 := blkAll3 BK371.out) | ((with_reducible refine gate_callee (f := 40) rfl ?_); refine kg (some 15) rfl rfl Try.func40 (by kernel_rfl) rfl #[.agg #[.int .i64 t367, .int .i64 t368, .int .i64 t369], .int .i64 1] rfl ?_; (with_reducible refine (trivetref04_Months_s.calls t367 t368 t369 1 t372 t373 t374 true _ A3.out).mono ?_); rintro e w9 ⟨rfl, hb⟩; refine ⟨_, rfl, ?_⟩; have n0_ := ka (blk_below (g := gb371) (o := .cells #[.int .i64 t367, .int .i64 t368, .int .i64 t369] 53 (0, 0)) (by (with_reducible repeat (first | apply kb1 | apply kb2 | apply kb3 | apply blkPut3_2 | apply blkPut3_1 | apply blkPut3_0)); exact BK371.out) hb); have n1_ := ka (below_step (kw HB.out) hb); clear BK371; clear HB; have BK371 := n0_; have HB := n1_; clear n0_ n1_; (try clear hb); (try clear hb2); (try clear hk); (try clear hi)) | ((with_reducible refine gate_dst (N := 6) rfl ?_); refine kx (N := 6) (cs := #[.int .i64 0, .int .i64 0, .int .i64 0]) (t := 53) ?_; intro gb376 hg w10 hbox hb; have n0_ := ka (blk_below (g := gb371) (kz BK371.out) hb); have n1_ := ka (below_step (kw HB.out) hb); have n2_ := ka (hbox); have n3_ := ka ((by rw [hg]; exact (below_size (kw HB.out)) : w.heap.size ≤ gb376)); have n4_ := n3_; have n5_ := ka ((by rw [hg]; exact Nat.ne_of_lt (blk_lt (g := gb371) (kz BK371.out)) : gb371 ≠ gb376)); have n6_ := ka n5_.out.symm; clear BK371; clear HB; have BK371 := n0_; have HB := n1_; have BK376 := n2_; have GW376 := n3_; have GE376 := n4_; have NB371_376 := n5_; have NB376_371 := n6_; clear n0_ n1_ n2_ n3_ n4_ n5_ n6_; clear hb hbox hg; have hnb11 := NB376_371.out; have hnc11 := NB371_376.out; have hcz12 := blkAll3 BK376.out) | ((with_reducible refine gate_callee (f := 37) rfl ?_); refine kg (some 21) rfl rfl Try.func37 (by kernel_rfl) rfl #[.agg #[.int .i64 t372, .int .i64 t373, .int .i64 t374]] rfl ?_; (with_reducible refine (trivetref04_Number_s.calls t372 t373 t374 t377 _ A5.out).mono ?_); rintro e w13 ⟨rfl, hb⟩; refine ⟨_, rfl, ?_⟩; have n0_ := ka (blk_below (g := gb371) (o := .cells #[.int .i64 t367, .int .i64 t368, .int .i64 t369] 53 (0, 0)) (by (with_reducible repeat (first | apply kb1 | apply kb2 | apply kb3 | refine kb4 ?_ NB371_376.out _)); exact BK371.out) hb); have n1_ := ka (blk_below (g := gb376) (o := .cells #[.int .i64 t372, .int .i64 t373, .int .i64 t374] 53 (0, 0)) (by (with_reducible repeat (first | apply kb1 | apply kb2 | apply kb3 | apply blkPut3_2 | apply blkPut3_1 | apply blkPut3_0)); exact BK376.out) hb); have n2_ := ka (below_step (kw HB.out) hb); clear BK371; clear BK376; clear HB; have BK371 := n0_; have BK376 := n1_; have HB := n2_; clear n0_ n1_ n2_; (try clear hb); (try clear hb2); (try clear hk); (try clear hi)))
  go_ret2
  exact ⟨by first | rfl | (simp [errW_none, errW_some] <;> rfl) | (simp [*, errW_none, errW_some] <;> rfl), by repeat (first | (with_reducible first | exact HB.out | apply kc1 | apply kc2 | apply kc3 | refine kc4 ?_ GE371.out | refine kc4 ?_ GE376.out) | exact HB.out)⟩
 ·replace c4 := Bool.eq_false_iff.mpr c4
  subst c4
  have H1 : (some (0, false)) = some (r1, r2) := by rw [if_neg (show ¬ (false = true) by decide)] at H; exact H
  clear H
  have H := H1
  clear H1
  simp only [Option.some.injEq, Prod.mk.injEq] at H
  obtain ⟨rfl, rfl⟩ := H
  go_enter Try.func26, Try.ntmps26
  go_wp2_with (first | ((with_reducible refine gate_callee (f := 24) rfl ?_); refine kg (some 10) rfl rfl Try.func24 (by kernel_rfl) rfl #[.int .i64 a0] rfl ?_; (with_reducible refine (trivetref04_Of_s.calls a0 t367 t368 t369 t370 _ A2.out).mono ?_); rintro e w14 ⟨rfl, hb⟩; refine ⟨_, rfl, ?_⟩; have n0_ := ka (below_step (kw HB.out) hb); clear HB; have HB := n0_; clear n0_; (try clear hb); (try clear hb2); (try clear hk); (try clear hi)) | ((with_reducible refine gate_dst (N := 4) rfl ?_); refine kx (N := 4) (cs := #[.int .i64 0, .int .i64 0, .int .i64 0]) (t := 53) ?_; intro gb371 hg w15 hbox hb; have n0_ := ka (below_step (kw HB.out) hb); have n1_ := ka (hbox); have n2_ := ka ((by rw [hg]; exact (below_size (kw HB.out)) : w.heap.size ≤ gb371)); have n3_ := n2_; clear HB; have HB := n0_; have BK371 := n1_; have GW371 := n2_; have GE371 := n3_; clear n0_ n1_ n2_ n3_; clear hb hbox hg; have hcz16 := blkAll3 BK371.out) | ((with_reducible refine gate_callee (f := 40) rfl ?_); refine kg (some 15) rfl rfl Try.func40 (by kernel_rfl) rfl #[.agg #[.int .i64 t367, .int .i64 t368, .int .i64 t369], .int .i64 1] rfl ?_; (with_reducible refine (trivetref04_Months_s.calls t367 t368 t369 1 t372 t373 t374 false _ A3.out).mono ?_); rintro e w17 ⟨rfl, hb⟩; refine ⟨_, rfl, ?_⟩; have n0_ := ka (blk_below (g := gb371) (o := .cells #[.int .i64 t367, .int .i64 t368, .int .i64 t369] 53 (0, 0)) (by (with_reducible repeat (first | apply kb1 | apply kb2 | apply kb3 | apply blkPut3_2 | apply blkPut3_1 | apply blkPut3_0)); exact BK371.out) hb); have n1_ := ka (below_step (kw HB.out) hb); clear BK371; clear HB; have BK371 := n0_; have HB := n1_; clear n0_ n1_; (try clear hb); (try clear hb2); (try clear hk); (try clear hi)) | ((with_reducible refine gate_dst (N := 6) rfl ?_); refine kx (N := 6) (cs := #[.int .i64 0, .int .i64 0, .int .i64 0]) (t := 53) ?_; intro gb376 hg w18 hbox hb; have n0_ := ka (blk_below (g := gb371) (kz BK371.out) hb); have n1_ := ka (below_step (kw HB.out) hb); have n2_ := ka (hbox); have n3_ := ka ((by rw [hg]; exact (below_size (kw HB.out)) : w.heap.size ≤ gb376)); have n4_ := n3_; have n5_ := ka ((by rw [hg]; exact Nat.ne_of_lt (blk_lt (g := gb371) (kz BK371.out)) : gb371 ≠ gb376)); have n6_ := ka n5_.out.symm; clear BK371; clear HB; have BK371 := n0_; have HB := n1_; have BK376 := n2_; have GW376 := n3_; have GE376 := n4_; have NB371_376 := n5_; have NB376_371 := n6_; clear n0_ n1_ n2_ n3_ n4_ n5_ n6_; clear hb hbox hg; have hnb19 := NB376_371.out; have hnc19 := NB371_376.out; have hcz20 := blkAll3 BK376.out))
  go_ret2
  exact ⟨by first | rfl | (simp [errW_none, errW_some] <;> rfl) | (simp [*, errW_none, errW_some] <;> rfl), by repeat (first | (with_reducible first | exact HB.out | apply kc1 | apply kc2 | apply kc3 | refine kc4 ?_ GE371.out | refine kc4 ?_ GE376.out) | exact HB.out)⟩

/-! ### trivetref13_later_s: function 26, told plainly -/
theorem trivetref13_later.tells (d : Int) (h : M.firstOk d) : trivetref13_later.f d = some (if M.more d then (M.due d 1, true) else (0, false)) := by
 have fd := M.first_date h
 unfold trivetref13_later.f
 rw [trivetref04_Of_s.yes ⟨h.1, h.2.1⟩, Option.bind_some]
 simp only []
 rw [h.2.2]
 have e1 : M.mt (M.yr d) (M.mo d) = M.m0 d := rfl
 by_cases hm : M.more d
 ·have md := M.month_date (f := d) (n := 1) hm
  rw [trivetref04_Months_s.yes fd.1 ⟨by omega, by omega, hm⟩, Option.bind_some, if_pos (show (true = true) from rfl)]
  simp only []
  rw [e1, md.2.2, trivetref04_Number_s.yes md.1, Option.bind_some, md.2.1, if_pos hm]
  rfl
 ·rw [trivetref04_Months_s.no fd.1 (fun hh => hm hh.2.2), Option.bind_some, if_neg hm]
  rfl
def trivetref13_later_s.f (d : Int) : Option (Int × Bool) := if M.firstOk d then some (if M.more d then (M.due d 1, true) else (0, false)) else none
theorem trivetref13_later_s.calls (a0 : Int) (r1 : Int) (r2 : Bool) (w : World) (h : trivetref13_later_s.f a0 = some (r1, r2)) :
  Calls Try.prog 26 #[.int .i64 a0] w fun e w' => e = .returned (.tuple #[.int .i64 r1, .bool r2]) ∧ Below w.heap.size w w' := by
 unfold trivetref13_later_s.f at h
 split at h
 ·rename_i hr
  exact trivetref13_later.calls a0 r1 r2 w ((trivetref13_later.tells a0 hr).trans h)
 ·cases h
theorem trivetref13_later_s.at_ {d : Int} (h : M.firstOk d) : trivetref13_later_s.f d = some (if M.more d then (M.due d 1, true) else (0, false)) := by unfold trivetref13_later_s.f; rw [if_pos h]

end Go.Proofs.Ytimobafoidplaaa.P
