-- Written by a program of this session out of the translation of the seat: Lean functions and the proofs that the Go functions come to them.
import Derived.Test.YtimobafoidplaaaPx0
import Derived.Test.YtimobafoidplaaaPx1
import Derived.Test.YtimobafoidplaaaPx13
import Derived.Test.YtimobafoidplaaaPx14
import Derived.Test.YtimobafoidplaaaPx15
import Derived.Test.YtimobafoidplaaaPx16
namespace Go.Proofs.Ytimobafoidplaaa.P
open Go.RowKit Go.Proofs.YtimobafoidplaaaW.PrintWords Go.Proofs.YtimobafoidplaaaW.PrintLast Go.Proofs.YtimobafoidplaaaW.PrintMore
attribute [local go_sem] max2_int min2_int max_two min_two max_three min_three max_four min_four   -- for this text's walks alone
set_option linter.unusedVariables false
set_option linter.unusedSimpArgs false

attribute [local go_sem high] eqA28
/-! ### trivetref11_May_s: function 29, told plainly -/
theorem trivetref11_May.tells (b r m f e i w fe g : Int) (h : M.In f ∧ M.In fe ∧ M.In g) (k : Nat) (hk : 4 ≤ k) : trivetref11_May.f k b r m f e i w fe g = some (decide (M.termsOk b r m f e i w fe g)) := by
 obtain ⟨k, rfl⟩ : ∃ m, k = m + 4 := ⟨k - 4, by omega⟩
 have out : ¬ M.termsOk b r m f e i w fe g → ∀ x y z, trivetref11_May.j0 (k + 4) true b r m f e i w fe g x y z = some (decide (M.termsOk b r m f e i w fe g)) := by
  intro hn x y z
  rw [decide_eq_false hn]
  simp [trivetref11_May.j0]
 unfold trivetref11_May.f
 by_cases h1 : -25567 ≤ f ∧ f ≤ 84005
 ·rw [trivetref04_Of_s.yes h1, Option.bind_some]
  simp only [if_true]
  by_cases h2 : M.dy f = 1
  ·have hf : M.firstOk f := ⟨h1.1, h1.2, h2⟩
   have fd := M.first_date hf
   rw [if_pos h2]
   by_cases h4 : m < 1
   ·rw [if_pos h4]; exact out (fun hh => by have := hh.2.2; omega) _ _ _
   rw [if_neg h4]
   by_cases h5 : m > 480
   ·rw [decide_eq_true h5]; exact out (fun hh => by have := hh.2.2; omega) _ _ _
   rw [decide_eq_false h5]
   simp only [trivetref11_May.j0]
   rw [if_neg (by decide), h2]
   have rest : ∀ x : Bool, (x = true ↔ M.inYears (M.m0 f + m)) → (if b ≥ 1 then (if b ≤ 10000000000000 then (if e ≥ 0 then trivetref11_May.j1 (k + 3) x (decide (e ≤ 10000000000000)) b r m f e i w fe g else trivetref11_May.j1 (k + 3) x false b r m f e i w fe g) else trivetref11_May.j1 (k + 3) x false b r m f e i w fe g) else trivetref11_May.j1 (k + 3) x false b r m f e i w fe g) = some (decide (M.termsOk b r m f e i w fe g)) := by
    intro x hx
    have j3 : ∀ z : Bool, trivetref11_May.j3 (k + 1) z = some z := fun z => by simp [trivetref11_May.j3]
    have j2 : ∀ p q : Bool, trivetref11_May.j2 (k + 2) x p q b r m f e i w fe g = some (decide (x = true ∧ p = true ∧ q = true ∧ i ≥ 1 ∧ i ≤ 64 ∧ w ≥ 1 ∧ w ≤ 3)) := by
     intro p q
     simp only [trivetref11_May.j2, j3, M.and_if]
    have j1 : ∀ p : Bool, trivetref11_May.j1 (k + 3) x p b r m f e i w fe g = some (decide (x = true ∧ p = true ∧ (r ≥ 0 ∧ r ≤ 300000 ∧ fe ≥ 0 ∧ g ≥ 0 ∧ fe ≤ 300000 ∧ g ≤ 300000 ∧ wrap64 (fe + g) ≤ r) ∧ i ≥ 1 ∧ i ≤ 64 ∧ w ≥ 1 ∧ w ≤ 3)) := by
     intro p
     simp only [trivetref11_May.j1, j2]
     by_cases c1 : r ≥ 0 <;> by_cases c2 : r ≤ 300000 <;> by_cases c3 : fe ≥ 0 <;> by_cases c4 : g ≥ 0 <;> simp only [c1, c2, c3, c4, if_true, if_false, true_and, false_and, and_false, Bool.false_eq_true, decide_eq_true_eq]
     by_cases c5 : fe ≤ 300000 <;> by_cases c6 : g ≤ 300000 <;> simp only [c5, c6, if_true, if_false, true_and, false_and, and_false, Bool.false_eq_true, decide_eq_true_eq]
    simp only [j1]
    have fin : ∀ p : Bool, (p = true ↔ (b ≥ 1 ∧ b ≤ 10000000000000 ∧ e ≥ 0 ∧ e ≤ 10000000000000)) → some (decide (x = true ∧ p = true ∧ (r ≥ 0 ∧ r ≤ 300000 ∧ fe ≥ 0 ∧ g ≥ 0 ∧ fe ≤ 300000 ∧ g ≤ 300000 ∧ wrap64 (fe + g) ≤ r) ∧ i ≥ 1 ∧ i ≤ 64 ∧ w ≥ 1 ∧ w ≤ 3)) = some (decide (M.termsOk b r m f e i w fe g)) := by
     intro p hp
     refine congrArg some (decide_eq_decide.mpr ?_)
     rw [hx, hp]
     unfold M.termsOk M.moneyOk
     constructor
     ·rintro ⟨a1, a2, a3, a4⟩
      have := a3.2.2.2.2.2.2
      rw [M.w64_id (by omega) (by omega)] at this
      exact ⟨hf, by omega, by omega, by omega, by omega, by omega, by omega, by omega, a1⟩
     ·rintro ⟨a1, a2, a3, a4, a5, a6, a7, a8, a9⟩
      rw [M.w64_id (by omega) (by omega)]
      exact ⟨a9, by omega, by omega, by omega⟩
    by_cases c1 : b ≥ 1
    ·rw [if_pos c1]
     by_cases c2 : b ≤ 10000000000000
     ·rw [if_pos c2]
      by_cases c3 : e ≥ 0
      ·rw [if_pos c3]; exact fin _ (by simp only [decide_eq_true_eq]; omega)
      ·rw [if_neg c3]; exact fin _ (by simp only [Bool.false_eq_true, false_iff]; omega)
     ·rw [if_neg c2]; exact fin _ (by simp only [Bool.false_eq_true, false_iff]; omega)
    ·rw [if_neg c1]; exact fin _ (by simp only [Bool.false_eq_true, false_iff]; omega)
   by_cases hy : M.inYears (M.m0 f + m)
   ·rw [trivetref04_Months_s.yes fd.1 ⟨by omega, by omega, hy⟩, Option.bind_some]
    exact rest true ⟨fun _ => hy, fun _ => rfl⟩
   ·rw [trivetref04_Months_s.no fd.1 (fun hh => hy hh.2.2), Option.bind_some]
    exact rest false ⟨fun hh => (by cases hh), fun hh => absurd hh hy⟩
  ·rw [if_neg h2]
   exact out (fun hh => h2 hh.1.2.2) _ _ _
 ·rw [trivetref04_Of_s.no h.1 h1, Option.bind_some]
  simp only [Bool.false_eq_true, if_false]
  exact out (fun hh => h1 ⟨hh.1.1, hh.1.2.1⟩) _ _ _
def trivetref11_May_s.f (b r m f e i w fe g : Int) : Option Bool := if M.In f ∧ M.In fe ∧ M.In g then some (decide (M.termsOk b r m f e i w fe g)) else none
theorem trivetref11_May_s.calls (a0_0 : Int) (a0_1 : Int) (a0_2 : Int) (a0_3 : Int) (a0_4 : Int) (a0_5 : Int) (a0_6 : Int) (a0_7 : Int) (a0_8 : Int) (r : Bool) (w : World) (h : trivetref11_May_s.f a0_0 a0_1 a0_2 a0_3 a0_4 a0_5 a0_6 a0_7 a0_8 = some r) :
  Calls Try.prog 29 #[.agg #[.int .i64 a0_0, .int .i64 a0_1, .int .i64 a0_2, .int .i64 a0_3, .int .i64 a0_4, .int .i64 a0_5, .int .i64 a0_6, .int .i64 a0_7, .int .i64 a0_8]] w fun e w' => e = .returned (.bool r) ∧ Below w.heap.size w w' := by
 unfold trivetref11_May_s.f at h
 split at h
 ·rename_i hr
  exact trivetref11_May.calls (4) a0_0 a0_1 a0_2 a0_3 a0_4 a0_5 a0_6 a0_7 a0_8 r w ((trivetref11_May.tells a0_0 a0_1 a0_2 a0_3 a0_4 a0_5 a0_6 a0_7 a0_8 hr (4) (Nat.le_refl _)).trans h)
 ·cases h
theorem trivetref11_May_s.at_ {b r m f e i w fe g : Int} (h : M.In f ∧ M.In fe ∧ M.In g) : trivetref11_May_s.f b r m f e i w fe g = some (decide (M.termsOk b r m f e i w fe g)) := by unfold trivetref11_May_s.f; rw [if_pos h]

/-! ### trivetref13_money: function 30 -/
def trivetref13_money.f (a0 : Int) : Option (Bool) := if a0 ≥ 0 then (some (decide (a0 ≤ 10000000000000))) else (some false)
set_option maxHeartbeats 8000000 in
set_option maxRecDepth 100000 in
theorem trivetref13_money.calls (a0 : Int) (r : Bool) (w : World) (h : trivetref13_money.f a0 = some r) :
  Calls Try.prog 30 #[.int .i64 a0] w fun e w' => e = .returned (.bool r) ∧ Drawn0 w w' := by
 have H : (if a0 ≥ 0 then (some (decide (a0 ≤ 10000000000000))) else (some false)) = some r := h
 clear h
 by_cases c2 : a0 ≥ 0
 ·rw [if_pos c2] at H
  have c2b0 : decide (0 ≤ a0) = true := decide_eq_true c2
  clear c2
  obtain rfl := Option.some.inj H
  go_enter Try.func30, Try.ntmps30
  go_wp2
  go_ret
  exact ⟨by first | rfl | (simp; done) | (simp [*]; done), by repeat (first | exact Drawn0.refl _ | apply Drawn0.step)⟩
 ·rw [if_neg c2] at H
  have c2b0 : decide (0 ≤ a0) = false := decide_eq_false c2
  clear c2
  obtain rfl := Option.some.inj H
  go_enter Try.func30, Try.ntmps30
  go_wp2
  go_ret
  exact ⟨by first | rfl | (simp; done) | (simp [*]; done), by repeat (first | exact Drawn0.refl _ | apply Drawn0.step)⟩

/-! ### trivetref13_money_s: function 30, told plainly -/
theorem trivetref13_money.tells (v : Int) : trivetref13_money.f v = some (decide (M.cent v)) := by
 unfold trivetref13_money.f M.cent
 exact M.and_if _ _
def trivetref13_money_s.f (v : Int) : Option Bool := some (decide (M.cent v))
theorem trivetref13_money_s.calls (a0 : Int) (r : Bool) (w : World) (h : trivetref13_money_s.f a0 = some r) :
  Calls Try.prog 30 #[.int .i64 a0] w fun e w' => e = .returned (.bool r) ∧ Drawn0 w w' := by
 exact trivetref13_money.calls a0 r w ((trivetref13_money.tells a0).trans h)
theorem trivetref13_money_s.at_ (v : Int) : trivetref13_money_s.f v = some (decide (M.cent v)) := rfl

/-! ### trivetref13_May: function 15 -/
def trivetref13_May.f (a0_0 : Int) (a0_1 : Int) (a0_2 : Int) (a0_3 : Int) (a0_4 : Int) (a0_5 : Int) (a0_6 : Int) (a0_7 : Int) (a0_8 : Int) (a0_9 : Int) (a0_10 : Int) (a0_11 : Int) (a0_12 : Int) (a0_13 : Int) (a0_14 : Int) : Option (Bool) := (trivetref04_Of_s.f a0_11).bind fun bt358 => ((trivetref11_May_s.f a0_0 a0_1 a0_2 a0_3 a0_4 a0_5 a0_6 a0_7 a0_8).bind fun t363 => (if bt358.2.2.2 = true then (if bt358.2.2.1 = 1 then (if t363 = true then ((trivetref13_money_s.f a0_9).bind fun t364 => (if t364 = true then (if a0_10 ≥ 1 then (if a0_10 ≤ 20000000000000 then (if a0_12 ≥ 0 then (if a0_12 ≤ 480 then ((trivetref13_money_s.f a0_13).bind fun t365 => (if t365 = true then ((trivetref13_money_s.f a0_14).bind fun t366 => (some t366)) else (some false))) else (some false)) else (some false)) else (some false)) else (some false)) else (some false))) else (some false)) else (some false)) else (some false)))
set_option maxHeartbeats 8000000 in
set_option maxRecDepth 100000 in
theorem trivetref13_May.calls (a0_0 : Int) (a0_1 : Int) (a0_2 : Int) (a0_3 : Int) (a0_4 : Int) (a0_5 : Int) (a0_6 : Int) (a0_7 : Int) (a0_8 : Int) (a0_9 : Int) (a0_10 : Int) (a0_11 : Int) (a0_12 : Int) (a0_13 : Int) (a0_14 : Int) (r : Bool) (w : World) (h : trivetref13_May.f a0_0 a0_1 a0_2 a0_3 a0_4 a0_5 a0_6 a0_7 a0_8 a0_9 a0_10 a0_11 a0_12 a0_13 a0_14 = some r) :
  Calls Try.prog 15 #[.agg #[.int .i64 a0_0, .int .i64 a0_1, .int .i64 a0_2, .int .i64 a0_3, .int .i64 a0_4, .int .i64 a0_5, .int .i64 a0_6, .int .i64 a0_7, .int .i64 a0_8, .int .i64 a0_9, .int .i64 a0_10, .int .i64 a0_11, .int .i64 a0_12, .int .i64 a0_13, .int .i64 a0_14]] w fun e w' => e = .returned (.bool r) ∧ Below w.heap.size w w' := by
 have hu25 := Try.underlying25
 have hu53 := Try.underlying53
 have hu23 := Try.underlying23
 have HB := ka (Below.refl w.heap.size w)
 have H : ((trivetref04_Of_s.f a0_11).bind fun bt358 => ((trivetref11_May_s.f a0_0 a0_1 a0_2 a0_3 a0_4 a0_5 a0_6 a0_7 a0_8).bind fun t363 => (if bt358.2.2.2 = true then (if bt358.2.2.1 = 1 then (if t363 = true then ((trivetref13_money_s.f a0_9).bind fun t364 => (if t364 = true then (if a0_10 ≥ 1 then (if a0_10 ≤ 20000000000000 then (if a0_12 ≥ 0 then (if a0_12 ≤ 480 then ((trivetref13_money_s.f a0_13).bind fun t365 => (if t365 = true then ((trivetref13_money_s.f a0_14).bind fun t366 => (some t366)) else (some false))) else (some false)) else (some false)) else (some false)) else (some false)) else (some false))) else (some false)) else (some false)) else (some false)))) = some r := h
 clear h
 replace H := Option.bind_eq_some_iff.mp H
 obtain ⟨⟨t358, t359, t360, t361⟩, A20, H⟩ := H
 replace H : ((trivetref11_May_s.f a0_0 a0_1 a0_2 a0_3 a0_4 a0_5 a0_6 a0_7 a0_8).bind fun t363 => (if t361 = true then (if t360 = 1 then (if t363 = true then ((trivetref13_money_s.f a0_9).bind fun t364 => (if t364 = true then (if a0_10 ≥ 1 then (if a0_10 ≤ 20000000000000 then (if a0_12 ≥ 0 then (if a0_12 ≤ 480 then ((trivetref13_money_s.f a0_13).bind fun t365 => (if t365 = true then ((trivetref13_money_s.f a0_14).bind fun t366 => (some t366)) else (some false))) else (some false)) else (some false)) else (some false)) else (some false)) else (some false))) else (some false)) else (some false)) else (some false))) = some r := H
 have A2 := ka A20
 clear A20
 replace H := Option.bind_eq_some_iff.mp H
 obtain ⟨t363, A30, H⟩ := H
 replace H : (if t361 = true then (if t360 = 1 then (if t363 = true then ((trivetref13_money_s.f a0_9).bind fun t364 => (if t364 = true then (if a0_10 ≥ 1 then (if a0_10 ≤ 20000000000000 then (if a0_12 ≥ 0 then (if a0_12 ≤ 480 then ((trivetref13_money_s.f a0_13).bind fun t365 => (if t365 = true then ((trivetref13_money_s.f a0_14).bind fun t366 => (some t366)) else (some false))) else (some false)) else (some false)) else (some false)) else (some false)) else (some false))) else (some false)) else (some false)) else (some false)) = some r := H
 have A3 := ka A30
 clear A30
 by_cases c4 : t361 = true
 ·subst c4
  have H1 : (if t360 = 1 then (if t363 = true then ((trivetref13_money_s.f a0_9).bind fun t364 => (if t364 = true then (if a0_10 ≥ 1 then (if a0_10 ≤ 20000000000000 then (if a0_12 ≥ 0 then (if a0_12 ≤ 480 then ((trivetref13_money_s.f a0_13).bind fun t365 => (if t365 = true then ((trivetref13_money_s.f a0_14).bind fun t366 => (some t366)) else (some false))) else (some false)) else (some false)) else (some false)) else (some false)) else (some false))) else (some false)) else (some false)) = some r := by rw [if_pos rfl] at H; exact H
  clear H
  have H := H1
  clear H1
  by_cases c5 : t360 = 1
  ·rw [if_pos c5] at H
   have c5b0 : (t360 == 1) = true := beq_iff_eq.mpr c5
   have c5b1 : (t360 != 1) = false := bne_eq_false_iff_eq.mpr c5
   clear c5
   by_cases c6 : t363 = true
   ·subst c6
    have H1 : ((trivetref13_money_s.f a0_9).bind fun t364 => (if t364 = true then (if a0_10 ≥ 1 then (if a0_10 ≤ 20000000000000 then (if a0_12 ≥ 0 then (if a0_12 ≤ 480 then ((trivetref13_money_s.f a0_13).bind fun t365 => (if t365 = true then ((trivetref13_money_s.f a0_14).bind fun t366 => (some t366)) else (some false))) else (some false)) else (some false)) else (some false)) else (some false)) else (some false))) = some r := by rw [if_pos rfl] at H; exact H
    clear H
    have H := H1
    clear H1
    replace H := Option.bind_eq_some_iff.mp H
    obtain ⟨t364, A70, H⟩ := H
    replace H : (if t364 = true then (if a0_10 ≥ 1 then (if a0_10 ≤ 20000000000000 then (if a0_12 ≥ 0 then (if a0_12 ≤ 480 then ((trivetref13_money_s.f a0_13).bind fun t365 => (if t365 = true then ((trivetref13_money_s.f a0_14).bind fun t366 => (some t366)) else (some false))) else (some false)) else (some false)) else (some false)) else (some false)) else (some false)) = some r := H
    have A7 := ka A70
    clear A70
    by_cases c8 : t364 = true
    ·subst c8
     have H1 : (if a0_10 ≥ 1 then (if a0_10 ≤ 20000000000000 then (if a0_12 ≥ 0 then (if a0_12 ≤ 480 then ((trivetref13_money_s.f a0_13).bind fun t365 => (if t365 = true then ((trivetref13_money_s.f a0_14).bind fun t366 => (some t366)) else (some false))) else (some false)) else (some false)) else (some false)) else (some false)) = some r := by rw [if_pos rfl] at H; exact H
     clear H
     have H := H1
     clear H1
     by_cases c9 : a0_10 ≥ 1
     ·rw [if_pos c9] at H
      have c9b0 : decide (1 ≤ a0_10) = true := decide_eq_true c9
      clear c9
      by_cases c10 : a0_10 ≤ 20000000000000
      ·rw [if_pos c10] at H
       have c10b0 : decide (a0_10 ≤ 20000000000000) = true := decide_eq_true c10
       clear c10
       by_cases c11 : a0_12 ≥ 0
       ·rw [if_pos c11] at H
        have c11b0 : decide (0 ≤ a0_12) = true := decide_eq_true c11
        clear c11
        by_cases c12 : a0_12 ≤ 480
        ·rw [if_pos c12] at H
         have c12b0 : decide (a0_12 ≤ 480) = true := decide_eq_true c12
         clear c12
         replace H := Option.bind_eq_some_iff.mp H
         obtain ⟨t365, A130, H⟩ := H
         replace H : (if t365 = true then ((trivetref13_money_s.f a0_14).bind fun t366 => (some t366)) else (some false)) = some r := H
         have A13 := ka A130
         clear A130
         by_cases c14 : t365 = true
         ·subst c14
          have H1 : ((trivetref13_money_s.f a0_14).bind fun t366 => (some t366)) = some r := by rw [if_pos rfl] at H; exact H
          clear H
          have H := H1
          clear H1
          replace H := Option.bind_eq_some_iff.mp H
          obtain ⟨t366, A150, H⟩ := H
          replace H : (some t366) = some r := H
          have A15 := ka A150
          clear A150
          obtain rfl := Option.some.inj H
          go_enter Try.func15, Try.ntmps15
          go_wp2_with (first | ((with_reducible refine gate_dst (N := 1) rfl ?_); refine kx (N := 1) (cs := #[.int .i64 a0_0, .int .i64 a0_1, .int .i64 a0_2, .int .i64 a0_3, .int .i64 a0_4, .int .i64 a0_5, .int .i64 a0_6, .int .i64 a0_7, .int .i64 a0_8, .int .i64 a0_9, .int .i64 a0_10, .int .i64 a0_11, .int .i64 a0_12, .int .i64 a0_13, .int .i64 a0_14]) (t := 25) ?_; intro gb357 hg w16 hbox hb; have n0_ := ka (below_step (kw HB.out) hb); have n1_ := ka (hbox); have n2_ := ka ((by rw [hg]; exact (below_size (kw HB.out)) : w.heap.size ≤ gb357)); have n3_ := n2_; clear HB; have HB := n0_; have BK357 := n1_; have GW357 := n2_; have GE357 := n3_; clear n0_ n1_ n2_ n3_; clear hb hbox hg; have hcz17 := blkAll15 BK357.out) | ((with_reducible refine gate_callee (f := 24) rfl ?_); refine kg (some 9) rfl rfl Try.func24 (by kernel_rfl) rfl #[.int .i64 a0_11] rfl ?_; (with_reducible refine (trivetref04_Of_s.calls a0_11 t358 t359 t360 true _ A2.out).mono ?_); rintro e w18 ⟨rfl, hb⟩; refine ⟨_, rfl, ?_⟩; have n0_ := ka (blk_below (g := gb357) (kz BK357.out) hb); have n1_ := ka (below_step (kw HB.out) hb); clear BK357; clear HB; have BK357 := n0_; have HB := n1_; clear n0_ n1_; (try clear hb); (try clear hb2); (try clear hk); (try clear hi)) | ((with_reducible refine gate_dst (N := 3) rfl ?_); refine kx (N := 3) (cs := #[.int .i64 0, .int .i64 0, .int .i64 0]) (t := 53) ?_; intro gb362 hg w19 hbox hb; have n0_ := ka (blk_below (g := gb357) (kz BK357.out) hb); have n1_ := ka (below_step (kw HB.out) hb); have n2_ := ka (hbox); have n3_ := ka ((by rw [hg]; exact (below_size (kw HB.out)) : w.heap.size ≤ gb362)); have n4_ := n3_; have n5_ := ka ((by rw [hg]; exact Nat.ne_of_lt (blk_lt (g := gb357) (kz BK357.out)) : gb357 ≠ gb362)); have n6_ := ka n5_.out.symm; clear BK357; clear HB; have BK357 := n0_; have HB := n1_; have BK362 := n2_; have GW362 := n3_; have GE362 := n4_; have NB357_362 := n5_; have NB362_357 := n6_; clear n0_ n1_ n2_ n3_ n4_ n5_ n6_; clear hb hbox hg; have hnb20 := NB362_357.out; have hnc20 := NB357_362.out; have hcz21 := blkAll3 BK362.out; have hcz22 := blkAll15 BK357.out) | ((with_reducible refine gate_callee (f := 29) rfl ?_); refine kg (some 14) rfl rfl Try.func29 (by kernel_rfl) rfl #[.agg #[.int .i64 a0_0, .int .i64 a0_1, .int .i64 a0_2, .int .i64 a0_3, .int .i64 a0_4, .int .i64 a0_5, .int .i64 a0_6, .int .i64 a0_7, .int .i64 a0_8]] rfl ?_; (with_reducible refine (trivetref11_May_s.calls a0_0 a0_1 a0_2 a0_3 a0_4 a0_5 a0_6 a0_7 a0_8 true _ A3.out).mono ?_); rintro e w23 ⟨rfl, hb⟩; refine ⟨_, rfl, ?_⟩; have n0_ := ka (blk_below (g := gb357) (o := .cells #[.int .i64 a0_0, .int .i64 a0_1, .int .i64 a0_2, .int .i64 a0_3, .int .i64 a0_4, .int .i64 a0_5, .int .i64 a0_6, .int .i64 a0_7, .int .i64 a0_8, .int .i64 a0_9, .int .i64 a0_10, .int .i64 a0_11, .int .i64 a0_12, .int .i64 a0_13, .int .i64 a0_14] 25 (0, 0)) (by (with_reducible repeat (first | apply kb1 | apply kb2 | apply kb3 | refine kb4 ?_ NB357_362.out _)); exact BK357.out) hb); have n1_ := ka (blk_below (g := gb362) (o := .cells #[.int .i64 t358, .int .i64 t359, .int .i64 t360] 53 (0, 0)) (by (with_reducible repeat (first | apply kb1 | apply kb2 | apply kb3 | apply blkPut3_2 | apply blkPut3_1 | apply blkPut3_0)); exact BK362.out) hb); have n2_ := ka (below_step (kw HB.out) hb); clear BK357; clear BK362; clear HB; have BK357 := n0_; have BK362 := n1_; have HB := n2_; clear n0_ n1_ n2_; (try clear hb); (try clear hb2); (try clear hk); (try clear hi); have hcz24 := blkAll3 BK362.out; have hcz25 := blkAll15 BK357.out) | (go_at_call 30; (with_reducible refine (trivetref13_money_s.calls a0_9 true _ A7.out).mono ?_); rintro e w' ⟨rfl, ⟨nd, rfl⟩⟩) | (go_at_call 30; (with_reducible refine (trivetref13_money_s.calls a0_13 true _ A13.out).mono ?_); rintro e w' ⟨rfl, ⟨nd, rfl⟩⟩) | (go_at_call 30; (with_reducible refine (trivetref13_money_s.calls a0_14 t366 _ A15.out).mono ?_); rintro e w' ⟨rfl, ⟨nd, rfl⟩⟩))
          go_ret
          exact ⟨by first | rfl | (simp [errW_none, errW_some] <;> rfl) | (simp [*, errW_none, errW_some] <;> rfl), by repeat (first | (with_reducible first | exact HB.out | apply kc1 | apply kc2 | apply kc3 | refine kc4 ?_ GE357.out | refine kc4 ?_ GE362.out) | exact HB.out)⟩
         ·replace c14 := Bool.eq_false_iff.mpr c14
          subst c14
          have H1 : (some false) = some r := by rw [if_neg (show ¬ (false = true) by decide)] at H; exact H
          clear H
          have H := H1
          clear H1
          obtain rfl := Option.some.inj H
          go_enter Try.func15, Try.ntmps15
          go_wp2_with (first | ((with_reducible refine gate_dst (N := 1) rfl ?_); refine kx (N := 1) (cs := #[.int .i64 a0_0, .int .i64 a0_1, .int .i64 a0_2, .int .i64 a0_3, .int .i64 a0_4, .int .i64 a0_5, .int .i64 a0_6, .int .i64 a0_7, .int .i64 a0_8, .int .i64 a0_9, .int .i64 a0_10, .int .i64 a0_11, .int .i64 a0_12, .int .i64 a0_13, .int .i64 a0_14]) (t := 25) ?_; intro gb357 hg w26 hbox hb; have n0_ := ka (below_step (kw HB.out) hb); have n1_ := ka (hbox); have n2_ := ka ((by rw [hg]; exact (below_size (kw HB.out)) : w.heap.size ≤ gb357)); have n3_ := n2_; clear HB; have HB := n0_; have BK357 := n1_; have GW357 := n2_; have GE357 := n3_; clear n0_ n1_ n2_ n3_; clear hb hbox hg; have hcz27 := blkAll15 BK357.out) | ((with_reducible refine gate_callee (f := 24) rfl ?_); refine kg (some 9) rfl rfl Try.func24 (by kernel_rfl) rfl #[.int .i64 a0_11] rfl ?_; (with_reducible refine (trivetref04_Of_s.calls a0_11 t358 t359 t360 true _ A2.out).mono ?_); rintro e w28 ⟨rfl, hb⟩; refine ⟨_, rfl, ?_⟩; have n0_ := ka (blk_below (g := gb357) (kz BK357.out) hb); have n1_ := ka (below_step (kw HB.out) hb); clear BK357; clear HB; have BK357 := n0_; have HB := n1_; clear n0_ n1_; (try clear hb); (try clear hb2); (try clear hk); (try clear hi)) | ((with_reducible refine gate_dst (N := 3) rfl ?_); refine kx (N := 3) (cs := #[.int .i64 0, .int .i64 0, .int .i64 0]) (t := 53) ?_; intro gb362 hg w29 hbox hb; have n0_ := ka (blk_below (g := gb357) (kz BK357.out) hb); have n1_ := ka (below_step (kw HB.out) hb); have n2_ := ka (hbox); have n3_ := ka ((by rw [hg]; exact (below_size (kw HB.out)) : w.heap.size ≤ gb362)); have n4_ := n3_; have n5_ := ka ((by rw [hg]; exact Nat.ne_of_lt (blk_lt (g := gb357) (kz BK357.out)) : gb357 ≠ gb362)); have n6_ := ka n5_.out.symm; clear BK357; clear HB; have BK357 := n0_; have HB := n1_; have BK362 := n2_; have GW362 := n3_; have GE362 := n4_; have NB357_362 := n5_; have NB362_357 := n6_; clear n0_ n1_ n2_ n3_ n4_ n5_ n6_; clear hb hbox hg; have hnb30 := NB362_357.out; have hnc30 := NB357_362.out; have hcz31 := blkAll3 BK362.out; have hcz32 := blkAll15 BK357.out) | ((with_reducible refine gate_callee (f := 29) rfl ?_); refine kg (some 14) rfl rfl Try.func29 (by kernel_rfl) rfl #[.agg #[.int .i64 a0_0, .int .i64 a0_1, .int .i64 a0_2, .int .i64 a0_3, .int .i64 a0_4, .int .i64 a0_5, .int .i64 a0_6, .int .i64 a0_7, .int .i64 a0_8]] rfl ?_; (with_reducible refine (trivetref11_May_s.calls a0_0 a0_1 a0_2 a0_3 a0_4 a0_5 a0_6 a0_7 a0_8 true _ A3.out).mono ?_); rintro e w33 ⟨rfl, hb⟩; refine ⟨_, rfl, ?_⟩; have n0_ := ka (blk_below (g := gb357) (o := .cells #[.int .i64 a0_0, .int .i64 a0_1, .int .i64 a0_2, .int .i64 a0_3, .int .i64 a0_4, .int .i64 a0_5, .int .i64 a0_6, .int .i64 a0_7, .int .i64 a0_8, .int .i64 a0_9, .int .i64 a0_10, .int .i64 a0_11, .int .i64 a0_12, .int .i64 a0_13, .int .i64 a0_14] 25 (0, 0)) (by (with_reducible repeat (first | apply kb1 | apply kb2 | apply kb3 | refine kb4 ?_ NB357_362.out _)); exact BK357.out) hb); have n1_ := ka (blk_below (g := gb362) (o := .cells #[.int .i64 t358, .int .i64 t359, .int .i64 t360] 53 (0, 0)) (by (with_reducible repeat (first | apply kb1 | apply kb2 | apply kb3 | apply blkPut3_2 | apply blkPut3_1 | apply blkPut3_0)); exact BK362.out) hb); have n2_ := ka (below_step (kw HB.out) hb); clear BK357; clear BK362; clear HB; have BK357 := n0_; have BK362 := n1_; have HB := n2_; clear n0_ n1_ n2_; (try clear hb); (try clear hb2); (try clear hk); (try clear hi); have hcz34 := blkAll3 BK362.out; have hcz35 := blkAll15 BK357.out) | (go_at_call 30; (with_reducible refine (trivetref13_money_s.calls a0_9 true _ A7.out).mono ?_); rintro e w' ⟨rfl, ⟨nd, rfl⟩⟩) | (go_at_call 30; (with_reducible refine (trivetref13_money_s.calls a0_13 false _ A13.out).mono ?_); rintro e w' ⟨rfl, ⟨nd, rfl⟩⟩))
          go_ret
          exact ⟨by first | rfl | (simp [errW_none, errW_some] <;> rfl) | (simp [*, errW_none, errW_some] <;> rfl), by repeat (first | (with_reducible first | exact HB.out | apply kc1 | apply kc2 | apply kc3 | refine kc4 ?_ GE357.out | refine kc4 ?_ GE362.out) | exact HB.out)⟩
        ·rw [if_neg c12] at H
         have c12b0 : decide (a0_12 ≤ 480) = false := decide_eq_false c12
         clear c12
         obtain rfl := Option.some.inj H
         go_enter Try.func15, Try.ntmps15
         go_wp2_with (first | ((with_reducible refine gate_dst (N := 1) rfl ?_); refine kx (N := 1) (cs := #[.int .i64 a0_0, .int .i64 a0_1, .int .i64 a0_2, .int .i64 a0_3, .int .i64 a0_4, .int .i64 a0_5, .int .i64 a0_6, .int .i64 a0_7, .int .i64 a0_8, .int .i64 a0_9, .int .i64 a0_10, .int .i64 a0_11, .int .i64 a0_12, .int .i64 a0_13, .int .i64 a0_14]) (t := 25) ?_; intro gb357 hg w36 hbox hb; have n0_ := ka (below_step (kw HB.out) hb); have n1_ := ka (hbox); have n2_ := ka ((by rw [hg]; exact (below_size (kw HB.out)) : w.heap.size ≤ gb357)); have n3_ := n2_; clear HB; have HB := n0_; have BK357 := n1_; have GW357 := n2_; have GE357 := n3_; clear n0_ n1_ n2_ n3_; clear hb hbox hg; have hcz37 := blkAll15 BK357.out) | ((with_reducible refine gate_callee (f := 24) rfl ?_); refine kg (some 9) rfl rfl Try.func24 (by kernel_rfl) rfl #[.int .i64 a0_11] rfl ?_; (with_reducible refine (trivetref04_Of_s.calls a0_11 t358 t359 t360 true _ A2.out).mono ?_); rintro e w38 ⟨rfl, hb⟩; refine ⟨_, rfl, ?_⟩; have n0_ := ka (blk_below (g := gb357) (kz BK357.out) hb); have n1_ := ka (below_step (kw HB.out) hb); clear BK357; clear HB; have BK357 := n0_; have HB := n1_; clear n0_ n1_; (try clear hb); (try clear hb2); (try clear hk); (try clear hi)) | ((with_reducible refine gate_dst (N := 3) rfl ?_); refine kx (N := 3) (cs := #[.int .i64 0, .int .i64 0, .int .i64 0]) (t := 53) ?_; intro gb362 hg w39 hbox hb; have n0_ := ka (blk_below (g := gb357) (kz BK357.out) hb); have n1_ := ka (below_step (kw HB.out) hb); have n2_ := ka (hbox); have n3_ := ka ((by rw [hg]; exact (below_size (kw HB.out)) : w.heap.size ≤ gb362)); have n4_ := n3_; have n5_ := ka ((by rw [hg]; exact Nat.ne_of_lt (blk_lt (g := gb357) (kz BK357.out)) : gb357 ≠ gb362)); have n6_ := ka n5_.out.symm; clear BK357; clear HB; have BK357 := n0_; have HB := n1_; have BK362 := n2_; have GW362 := n3_; have GE362 := n4_; have NB357_362 := n5_; have NB362_357 := n6_; clear n0_ n1_ n2_ n3_ n4_ n5_ n6_; clear hb hbox hg; have hnb40 := NB362_357.out; have hnc40 := NB357_362.out; have hcz41 := blkAll3 BK362.out; have hcz42 := blkAll15 BK357.out) | ((with_reducible refine gate_callee (f := 29) rfl ?_); refine kg (some 14) rfl rfl Try.func29 (by kernel_rfl) rfl #[.agg #[.int .i64 a0_0, .int .i64 a0_1, .int .i64 a0_2, .int .i64 a0_3, .int .i64 a0_4, .int .i64 a0_5, .int .i64 a0_6, .int .i64 a0_7, .int .i64 a0_8]] rfl ?_; (with_reducible refine (trivetref11_May_s.calls a0_0 a0_1 a0_2 a0_3 a0_4 a0_5 a0_6 a0_7 a0_8 true _ A3.out).mono ?_); rintro e w43 ⟨rfl, hb⟩; refine ⟨_, rfl, ?_⟩; have n0_ := ka (blk_below (g := gb357) (o := .cells #[.int .i64 a0_0, .int .i64 a0_1, .int .i64 a0_2, .int .i64 a0_3, .int .i64 a0_4, .int .i64 a0_5, .int .i64 a0_6, .int .i64 a0_7, .int .i64 a0_8, .int .i64 a0_9, .int .i64 a0_10, .int .i64 a0_11, .int .i64 a0_12, .int .i64 a0_13, .int .i64 a0_14] 25 (0, 0)) (by (with_reducible repeat (first | apply kb1 | apply kb2 | apply kb3 | refine kb4 ?_ NB357_362.out _)); exact BK357.out) hb); have n1_ := ka (blk_below (g := gb362) (o := .cells #[.int .i64 t358, .int .i64 t359, .int .i64 t360] 53 (0, 0)) (by (with_reducible repeat (first | apply kb1 | apply kb2 | apply kb3 | apply blkPut3_2 | apply blkPut3_1 | apply blkPut3_0)); exact BK362.out) hb); have n2_ := ka (below_step (kw HB.out) hb); clear BK357; clear BK362; clear HB; have BK357 := n0_; have BK362 := n1_; have HB := n2_; clear n0_ n1_ n2_; (try clear hb); (try clear hb2); (try clear hk); (try clear hi); have hcz44 := blkAll3 BK362.out; have hcz45 := blkAll15 BK357.out) | (go_at_call 30; (with_reducible refine (trivetref13_money_s.calls a0_9 true _ A7.out).mono ?_); rintro e w' ⟨rfl, ⟨nd, rfl⟩⟩))
         go_ret
         exact ⟨by first | rfl | (simp [errW_none, errW_some] <;> rfl) | (simp [*, errW_none, errW_some] <;> rfl), by repeat (first | (with_reducible first | exact HB.out | apply kc1 | apply kc2 | apply kc3 | refine kc4 ?_ GE357.out | refine kc4 ?_ GE362.out) | exact HB.out)⟩
       ·rw [if_neg c11] at H
        have c11b0 : decide (0 ≤ a0_12) = false := decide_eq_false c11
        clear c11
        obtain rfl := Option.some.inj H
        go_enter Try.func15, Try.ntmps15
        go_wp2_with (first | ((with_reducible refine gate_dst (N := 1) rfl ?_); refine kx (N := 1) (cs := #[.int .i64 a0_0, .int .i64 a0_1, .int .i64 a0_2, .int .i64 a0_3, .int .i64 a0_4, .int .i64 a0_5, .int .i64 a0_6, .int .i64 a0_7, .int .i64 a0_8, .int .i64 a0_9, .int .i64 a0_10, .int .i64 a0_11, .int .i64 a0_12, .int .i64 a0_13, .int .i64 a0_14]) (t := 25) ?_; intro gb357 hg w46 hbox hb; have n0_ := ka (below_step (kw HB.out) hb); have n1_ := ka (hbox); have n2_ := ka ((by rw [hg]; exact (below_size (kw HB.out)) : w.heap.size ≤ gb357)); have n3_ := n2_; clear HB; have HB := n0_; have BK357 := n1_; have GW357 := n2_; have GE357 := n3_; clear n0_ n1_ n2_ n3_; clear hb hbox hg; have hcz47 := blkAll15 BK357.out) | ((with_reducible refine gate_callee (f := 24) rfl ?_); refine kg (some 9) rfl rfl Try.func24 (by kernel_rfl) rfl #[.int .i64 a0_11] rfl ?_; (with_reducible refine (trivetref04_Of_s.calls a0_11 t358 t359 t360 true _ A2.out).mono ?_); rintro e w48 ⟨rfl, hb⟩; refine ⟨_, rfl, ?_⟩; have n0_ := ka (blk_below (g := gb357) (kz BK357.out) hb); have n1_ := ka (below_step (kw HB.out) hb); clear BK357; clear HB; have BK357 := n0_; have HB := n1_; clear n0_ n1_; (try clear hb); (try clear hb2); (try clear hk); (try clear hi)) | ((with_reducible refine gate_dst (N := 3) rfl ?_); refine kx (N := 3) (cs := #[.int .i64 0, .int .i64 0, .int .i64 0]) (t := 53) ?_; intro gb362 hg w49 hbox hb; have n0_ := ka (blk_below (g := gb357) (kz BK357.out) hb); have n1_ := ka (below_step (kw HB.out) hb); have n2_ := ka (hbox); have n3_ := ka ((by rw [hg]; exact (below_size (kw HB.out)) : w.heap.size ≤ gb362)); have n4_ := n3_; have n5_ := ka ((by rw [hg]; exact Nat.ne_of_lt (blk_lt (g := gb357) (kz BK357.out)) : gb357 ≠ gb362)); have n6_ := ka n5_.out.symm; clear BK357; clear HB; have BK357 := n0_; have HB := n1_; have BK362 := n2_; have GW362 := n3_; have GE362 := n4_; have NB357_362 := n5_; have NB362_357 := n6_; clear n0_ n1_ n2_ n3_ n4_ n5_ n6_; clear hb hbox hg; have hnb50 := NB362_357.out; have hnc50 := NB357_362.out; have hcz51 := blkAll3 BK362.out; have hcz52 := blkAll15 BK357.out) | ((with_reducible refine gate_callee (f := 29) rfl ?_); refine kg (some 14) rfl rfl Try.func29 (by kernel_rfl) rfl #[.agg #[.int .i64 a0_0, .int .i64 a0_1, .int .i64 a0_2, .int .i64 a0_3, .int .i64 a0_4, .int .i64 a0_5, .int .i64 a0_6, .int .i64 a0_7, .int .i64 a0_8]] rfl ?_; (with_reducible refine (trivetref11_May_s.calls a0_0 a0_1 a0_2 a0_3 a0_4 a0_5 a0_6 a0_7 a0_8 true _ A3.out).mono ?_); rintro e w53 ⟨rfl, hb⟩; refine ⟨_, rfl, ?_⟩; have n0_ := ka (blk_below (g := gb357) (o := .cells #[.int .i64 a0_0, .int .i64 a0_1, .int .i64 a0_2, .int .i64 a0_3, .int .i64 a0_4, .int .i64 a0_5, .int .i64 a0_6, .int .i64 a0_7, .int .i64 a0_8, .int .i64 a0_9, .int .i64 a0_10, .int .i64 a0_11, .int .i64 a0_12, .int .i64 a0_13, .int .i64 a0_14] 25 (0, 0)) (by (with_reducible repeat (first | apply kb1 | apply kb2 | apply kb3 | refine kb4 ?_ NB357_362.out _)); exact BK357.out) hb); have n1_ := ka (blk_below (g := gb362) (o := .cells #[.int .i64 t358, .int .i64 t359, .int .i64 t360] 53 (0, 0)) (by (with_reducible repeat (first | apply kb1 | apply kb2 | apply kb3 | apply blkPut3_2 | apply blkPut3_1 | apply blkPut3_0)); exact BK362.out) hb); have n2_ := ka (below_step (kw HB.out) hb); clear BK357; clear BK362; clear HB; have BK357 := n0_; have BK362 := n1_; have HB := n2_; clear n0_ n1_ n2_; (try clear hb); (try clear hb2); (try clear hk); (try clear hi); have hcz54 := blkAll3 BK362.out; have hcz55 := blkAll15 BK357.out) | (go_at_call 30; (with_reducible refine (trivetref13_money_s.calls a0_9 true _ A7.out).mono ?_); rintro e w' ⟨rfl, ⟨nd, rfl⟩⟩))
        go_ret
        exact ⟨by first | rfl | (simp [errW_none, errW_some] <;> rfl) | (simp [*, errW_none, errW_some] <;> rfl), by repeat (first | (with_reducible first | exact HB.out | apply kc1 | apply kc2 | apply kc3 | refine kc4 ?_ GE357.out | refine kc4 ?_ GE362.out) | exact HB.out)⟩
      ·rw [if_neg c10] at H
       have c10b0 : decide (a0_10 ≤ 20000000000000) = false := decide_eq_false c10
       clear c10
       obtain rfl := Option.some.inj H
       go_enter Try.func15, Try.ntmps15
       go_wp2_with (first | ((with_reducible refine gate_dst (N := 1) rfl ?_); refine kx (N := 1) (cs := #[.int .i64 a0_0, .int .i64 a0_1, .int .i64 a0_2, .int .i64 a0_3, .int .i64 a0_4, .int .i64 a0_5, .int .i64 a0_6, .int .i64 a0_7, .int .i64 a0_8, .int .i64 a0_9, .int .i64 a0_10, .int .i64 a0_11, .int .i64 a0_12, .int .i64 a0_13, .int .i64 a0_14]) (t := 25) ?_; intro gb357 hg w56 hbox hb; have n0_ := ka (below_step (kw HB.out) hb); have n1_ := ka (hbox); have n2_ := ka ((by rw [hg]; exact (below_size (kw HB.out)) : w.heap.size ≤ gb357)); have n3_ := n2_; clear HB; have HB := n0_; have BK357 := n1_; have GW357 := n2_; have GE357 := n3_; clear n0_ n1_ n2_ n3_; clear hb hbox hg; have hcz57 := blkAll15 BK357.out) | ((with_reducible refine gate_callee (f := 24) rfl ?_); refine kg (some 9) rfl rfl Try.func24 (by kernel_rfl) rfl #[.int .i64 a0_11] rfl ?_; (with_reducible refine (trivetref04_Of_s.calls a0_11 t358 t359 t360 true _ A2.out).mono ?_); rintro e w58 ⟨rfl, hb⟩; refine ⟨_, rfl, ?_⟩; have n0_ := ka (blk_below (g := gb357) (kz BK357.out) hb); have n1_ := ka (below_step (kw HB.out) hb); clear BK357; clear HB; have BK357 := n0_; have HB := n1_; clear n0_ n1_; (try clear hb); (try clear hb2); (try clear hk); (try clear hi)) | ((with_reducible refine gate_dst (N := 3) rfl ?_); refine kx (N := 3) (cs := #[.int .i64 0, .int .i64 0, .int .i64 0]) (t := 53) ?_; intro gb362 hg w59 hbox hb; have n0_ := ka (blk_below (g := gb357) (kz BK357.out) hb); have n1_ := ka (below_step (kw HB.out) hb); have n2_ := ka (hbox); have n3_ := ka ((by rw [hg]; exact (below_size (kw HB.out)) : w.heap.size ≤ gb362)); have n4_ := n3_; have n5_ := ka ((by rw [hg]; exact Nat.ne_of_lt (blk_lt (g := gb357) (kz BK357.out)) : gb357 ≠ gb362)); have n6_ := ka n5_.out.symm; clear BK357; clear HB; have BK357 := n0_; have HB := n1_; have BK362 := n2_; have GW362 := n3_; have GE362 := n4_; have NB357_362 := n5_; have NB362_357 := n6_; clear n0_ n1_ n2_ n3_ n4_ n5_ n6_; clear hb hbox hg; have hnb60 := NB362_357.out; have hnc60 := NB357_362.out; have hcz61 := blkAll3 BK362.out; have hcz62 := blkAll15 BK357.out) | ((with_reducible refine gate_callee (f := 29) rfl ?_); refine kg (some 14) rfl rfl Try.func29 (by kernel_rfl) rfl #[.agg #[.int .i64 a0_0, .int .i64 a0_1, .int .i64 a0_2, .int .i64 a0_3, .int .i64 a0_4, .int .i64 a0_5, .int .i64 a0_6, .int .i64 a0_7, .int .i64 a0_8]] rfl ?_; (with_reducible refine (trivetref11_May_s.calls a0_0 a0_1 a0_2 a0_3 a0_4 a0_5 a0_6 a0_7 a0_8 true _ A3.out).mono ?_); rintro e w63 ⟨rfl, hb⟩; refine ⟨_, rfl, ?_⟩; have n0_ := ka (blk_below (g := gb357) (o := .cells #[.int .i64 a0_0, .int .i64 a0_1, .int .i64 a0_2, .int .i64 a0_3, .int .i64 a0_4, .int .i64 a0_5, .int .i64 a0_6, .int .i64 a0_7, .int .i64 a0_8, .int .i64 a0_9, .int .i64 a0_10, .int .i64 a0_11, .int .i64 a0_12, .int .i64 a0_13, .int .i64 a0_14] 25 (0, 0)) (by (with_reducible repeat (first | apply kb1 | apply kb2 | apply kb3 | refine kb4 ?_ NB357_362.out _)); exact BK357.out) hb); have n1_ := ka (blk_below (g := gb362) (o := .cells #[.int .i64 t358, .int .i64 t359, .int .i64 t360] 53 (0, 0)) (by (with_reducible repeat (first | apply kb1 | apply kb2 | apply kb3 | apply blkPut3_2 | apply blkPut3_1 | apply blkPut3_0)); exact BK362.out) hb); have n2_ := ka (below_step (kw HB.out) hb); clear BK357; clear BK362; clear HB; have BK357 := n0_; have BK362 := n1_; have HB := n2_; clear n0_ n1_ n2_; (try clear hb); (try clear hb2); (try clear hk); (try clear hi); have hcz64 := blkAll3 BK362.out; have hcz65 := blkAll15 BK357.out) | (go_at_call 30; (with_reducible refine (trivetref13_money_s.calls a0_9 true _ A7.out).mono ?_); rintro e w' ⟨rfl, ⟨nd, rfl⟩⟩))
       go_ret
       exact ⟨by first | rfl | (simp [errW_none, errW_some] <;> rfl) | (simp [*, errW_none, errW_some] <;> rfl), by repeat (first | (with_reducible first | exact HB.out | apply kc1 | apply kc2 | apply kc3 | refine kc4 ?_ GE357.out | refine kc4 ?_ GE362.out) | exact HB.out)⟩
     ·rw [if_neg c9] at H
      have c9b0 : decide (1 ≤ a0_10) = false := decide_eq_false c9
      clear c9
      obtain rfl := Option.some.inj H
      go_enter Try.func15, Try.ntmps15
      go_wp2_with (first | ((with_reducible refine gate_dst (N := 1) rfl ?_); refine kx (N := 1) (cs := #[.int .i64 a0_0, .int .i64 a0_1, .int .i64 a0_2, .int .i64 a0_3, .int .i64 a0_4, .int .i64 a0_5, .int .i64 a0_6, .int .i64 a0_7, .int .i64 a0_8, .int .i64 a0_9, .int .i64 a0_10, .int .i64 a0_11, .int .i64 a0_12, .int .i64 a0_13, .int .i64 a0_14]) (t := 25) ?_; intro gb357 hg w66 hbox hb; have n0_ := ka (below_step (kw HB.out) hb); have n1_ := ka (hbox); have n2_ := ka ((by rw [hg]; exact (below_size (kw HB.out)) : w.heap.size ≤ gb357)); have n3_ := n2_; clear HB; have HB := n0_; have BK357 := n1_; have GW357 := n2_; have GE357 := n3_; clear n0_ n1_ n2_ n3_; clear hb hbox hg; have hcz67 := blkAll15 BK357.out) | ((with_reducible refine gate_callee (f := 24) rfl ?_); refine kg (some 9) rfl rfl Try.func24 (by kernel_rfl) rfl #[.int .i64 a0_11] rfl ?_; (with_reducible refine (trivetref04_Of_s.calls a0_11 t358 t359 t360 true _ A2.out).mono ?_); rintro e w68 ⟨rfl, hb⟩; refine ⟨_, rfl, ?_⟩; have n0_ := ka (blk_below (g := gb357) (kz BK357.out) hb); have n1_ := ka (below_step (kw HB.out) hb); clear BK357; clear HB; have BK357 := n0_; have HB := n1_; clear n0_ n1_; (try clear hb); (try clear hb2); (try clear hk); (try clear hi)) | ((with_reducible refine gate_dst (N := 3) rfl ?_); refine kx (N := 3) (cs := #[.int .i64 0, .int .i64 0, .int .i64 0]) (t := 53) ?_; intro gb362 hg w69 hbox hb; have n0_ := ka (blk_below (g := gb357) (kz BK357.out) hb); have n1_ := ka (below_step (kw HB.out) hb); have n2_ := ka (hbox); have n3_ := ka ((by rw [hg]; exact (below_size (kw HB.out)) : w.heap.size ≤ gb362)); have n4_ := n3_; have n5_ := ka ((by rw [hg]; exact Nat.ne_of_lt (blk_lt (g := gb357) (kz BK357.out)) : gb357 ≠ gb362)); have n6_ := ka n5_.out.symm; clear BK357; clear HB; have BK357 := n0_; have HB := n1_; have BK362 := n2_; have GW362 := n3_; have GE362 := n4_; have NB357_362 := n5_; have NB362_357 := n6_; clear n0_ n1_ n2_ n3_ n4_ n5_ n6_; clear hb hbox hg; have hnb70 := NB362_357.out; have hnc70 := NB357_362.out; have hcz71 := blkAll3 BK362.out; have hcz72 := blkAll15 BK357.out) | ((with_reducible refine gate_callee (f := 29) rfl ?_); refine kg (some 14) rfl rfl Try.func29 (by kernel_rfl) rfl #[.agg #[.int .i64 a0_0, .int .i64 a0_1, .int .i64 a0_2, .int .i64 a0_3, .int .i64 a0_4, .int .i64 a0_5, .int .i64 a0_6, .int .i64 a0_7, .int .i64 a0_8]] rfl ?_; (with_reducible refine (trivetref11_May_s.calls a0_0 a0_1 a0_2 a0_3 a0_4 a0_5 a0_6 a0_7 a0_8 true _ A3.out).mono ?_); rintro e w73 ⟨rfl, hb⟩; refine ⟨_, rfl, ?_⟩; have n0_ := ka (blk_below (g := gb357) (o := .cells #[.int .i64 a0_0, .int .i64 a0_1, .int .i64 a0_2, .int .i64 a0_3, .int .i64 a0_4, .int .i64 a0_5, .int .i64 a0_6, .int .i64 a0_7, .int .i64 a0_8, .int .i64 a0_9, .int .i64 a0_10, .int .i64 a0_11, .int .i64 a0_12, .int .i64 a0_13, .int .i64 a0_14] 25 (0, 0)) (by (with_reducible repeat (first | apply kb1 | apply kb2 | apply kb3 | refine kb4 ?_ NB357_362.out _)); exact BK357.out) hb); have n1_ := ka (blk_below (g := gb362) (o := .cells #[.int .i64 t358, .int .i64 t359, .int .i64 t360] 53 (0, 0)) (by (with_reducible repeat (first | apply kb1 | apply kb2 | apply kb3 | apply blkPut3_2 | apply blkPut3_1 | apply blkPut3_0)); exact BK362.out) hb); have n2_ := ka (below_step (kw HB.out) hb); clear BK357; clear BK362; clear HB; have BK357 := n0_; have BK362 := n1_; have HB := n2_; clear n0_ n1_ n2_; (try clear hb); (try clear hb2); (try clear hk); (try clear hi); have hcz74 := blkAll3 BK362.out; have hcz75 := blkAll15 BK357.out) | (go_at_call 30; (with_reducible refine (trivetref13_money_s.calls a0_9 true _ A7.out).mono ?_); rintro e w' ⟨rfl, ⟨nd, rfl⟩⟩))
      go_ret
      exact ⟨by first | rfl | (simp [errW_none, errW_some] <;> rfl) | (simp [*, errW_none, errW_some] <;> rfl), by repeat (first | (with_reducible first | exact HB.out | apply kc1 | apply kc2 | apply kc3 | refine kc4 ?_ GE357.out | refine kc4 ?_ GE362.out) | exact HB.out)⟩
    ·replace c8 := Bool.eq_false_iff.mpr c8
     subst c8
     have H1 : (some false) = some r := by rw [if_neg (show ¬ (false = true) by decide)] at H; exact H
     clear H
     have H := H1
     clear H1
     obtain rfl := Option.some.inj H
     go_enter Try.func15, Try.ntmps15
     go_wp2_with (first | ((with_reducible refine gate_dst (N := 1) rfl ?_); refine kx (N := 1) (cs := #[.int .i64 a0_0, .int .i64 a0_1, .int .i64 a0_2, .int .i64 a0_3, .int .i64 a0_4, .int .i64 a0_5, .int .i64 a0_6, .int .i64 a0_7, .int .i64 a0_8, .int .i64 a0_9, .int .i64 a0_10, .int .i64 a0_11, .int .i64 a0_12, .int .i64 a0_13, .int .i64 a0_14]) (t := 25) ?_; intro gb357 hg w76 hbox hb; have n0_ := ka (below_step (kw HB.out) hb); have n1_ := ka (hbox); have n2_ := ka ((by rw [hg]; exact (below_size (kw HB.out)) : w.heap.size ≤ gb357)); have n3_ := n2_; clear HB; have HB := n0_; have BK357 := n1_; have GW357 := n2_; have GE357 := n3_; clear n0_ n1_ n2_ n3_; clear hb hbox hg; have hcz77 := blkAll15 BK357.out) | ((with_reducible refine gate_callee (f := 24) rfl ?_); refine kg (some 9) rfl rfl Try.func24 (by kernel_rfl) rfl #[.int .i64 a0_11] rfl ?_; (with_reducible refine (trivetref04_Of_s.calls a0_11 t358 t359 t360 true _ A2.out).mono ?_); rintro e w78 ⟨rfl, hb⟩; refine ⟨_, rfl, ?_⟩; have n0_ := ka (blk_below (g := gb357) (kz BK357.out) hb); have n1_ := ka (below_step (kw HB.out) hb); clear BK357; clear HB; have BK357 := n0_; have HB := n1_; clear n0_ n1_; (try clear hb); (try clear hb2); (try clear hk); (try clear hi)) | ((with_reducible refine gate_dst (N := 3) rfl ?_); refine kx (N := 3) (cs := #[.int .i64 0, .int .i64 0, .int .i64 0]) (t := 53) ?_; intro gb362 hg w79 hbox hb; have n0_ := ka (blk_below (g := gb357) (kz BK357.out) hb); have n1_ := ka (below_step (kw HB.out) hb); have n2_ := ka (hbox); have n3_ := ka ((by rw [hg]; exact (below_size (kw HB.out)) : w.heap.size ≤ gb362)); have n4_ := n3_; have n5_ := ka ((by rw [hg]; exact Nat.ne_of_lt (blk_lt (g := gb357) (kz BK357.out)) : gb357 ≠ gb362)); have n6_ := ka n5_.out.symm; clear BK357; clear HB; have BK357 := n0_; have HB := n1_; have BK362 := n2_; have GW362 := n3_; have GE362 := n4_; have NB357_362 := n5_; have NB362_357 := n6_; clear n0_ n1_ n2_ n3_ n4_ n5_ n6_; clear hb hbox hg; have hnb80 := NB362_357.out; have hnc80 := NB357_362.out; have hcz81 := blkAll3 BK362.out; have hcz82 := blkAll15 BK357.out) | ((with_reducible refine gate_callee (f := 29) rfl ?_); refine kg (some 14) rfl rfl Try.func29 (by kernel_rfl) rfl #[.agg #[.int .i64 a0_0, .int .i64 a0_1, .int .i64 a0_2, .int .i64 a0_3, .int .i64 a0_4, .int .i64 a0_5, .int .i64 a0_6, .int .i64 a0_7, .int .i64 a0_8]] rfl ?_; (with_reducible refine (trivetref11_May_s.calls a0_0 a0_1 a0_2 a0_3 a0_4 a0_5 a0_6 a0_7 a0_8 true _ A3.out).mono ?_); rintro e w83 ⟨rfl, hb⟩; refine ⟨_, rfl, ?_⟩; have n0_ := ka (blk_below (g := gb357) (o := .cells #[.int .i64 a0_0, .int .i64 a0_1, .int .i64 a0_2, .int .i64 a0_3, .int .i64 a0_4, .int .i64 a0_5, .int .i64 a0_6, .int .i64 a0_7, .int .i64 a0_8, .int .i64 a0_9, .int .i64 a0_10, .int .i64 a0_11, .int .i64 a0_12, .int .i64 a0_13, .int .i64 a0_14] 25 (0, 0)) (by (with_reducible repeat (first | apply kb1 | apply kb2 | apply kb3 | refine kb4 ?_ NB357_362.out _)); exact BK357.out) hb); have n1_ := ka (blk_below (g := gb362) (o := .cells #[.int .i64 t358, .int .i64 t359, .int .i64 t360] 53 (0, 0)) (by (with_reducible repeat (first | apply kb1 | apply kb2 | apply kb3 | apply blkPut3_2 | apply blkPut3_1 | apply blkPut3_0)); exact BK362.out) hb); have n2_ := ka (below_step (kw HB.out) hb); clear BK357; clear BK362; clear HB; have BK357 := n0_; have BK362 := n1_; have HB := n2_; clear n0_ n1_ n2_; (try clear hb); (try clear hb2); (try clear hk); (try clear hi); have hcz84 := blkAll3 BK362.out; have hcz85 := blkAll15 BK357.out) | (go_at_call 30; (with_reducible refine (trivetref13_money_s.calls a0_9 false _ A7.out).mono ?_); rintro e w' ⟨rfl, ⟨nd, rfl⟩⟩))
     go_ret
     exact ⟨by first | rfl | (simp [errW_none, errW_some] <;> rfl) | (simp [*, errW_none, errW_some] <;> rfl), by repeat (first | (with_reducible first | exact HB.out | apply kc1 | apply kc2 | apply kc3 | refine kc4 ?_ GE357.out | refine kc4 ?_ GE362.out) | exact HB.out)⟩
   ·replace c6 := Bool.eq_false_iff.mpr c6
    subst c6
    have H1 : (some false) = some r := by rw [if_neg (show ¬ (false = true) by decide)] at H; exact H
    clear H
    have H := H1
    clear H1
    obtain rfl := Option.some.inj H
    go_enter Try.func15, Try.ntmps15
    go_wp2_with (first | ((with_reducible refine gate_dst (N := 1) rfl ?_); refine kx (N := 1) (cs := #[.int .i64 a0_0, .int .i64 a0_1, .int .i64 a0_2, .int .i64 a0_3, .int .i64 a0_4, .int .i64 a0_5, .int .i64 a0_6, .int .i64 a0_7, .int .i64 a0_8, .int .i64 a0_9, .int .i64 a0_10, .int .i64 a0_11, .int .i64 a0_12, .int .i64 a0_13, .int .i64 a0_14]) (t := 25) ?_; intro gb357 hg w86 hbox hb; have n0_ := ka (below_step (kw HB.out) hb); have n1_ := ka (hbox); have n2_ := ka ((by rw [hg]; exact (below_size (kw HB.out)) : w.heap.size ≤ gb357)); have n3_ := n2_; clear HB; have HB := n0_; have BK357 := n1_; have GW357 := n2_; have GE357 := n3_; clear n0_ n1_ n2_ n3_; clear hb hbox hg; have hcz87 := blkAll15 BK357.out) | ((with_reducible refine gate_callee (f := 24) rfl ?_); refine kg (some 9) rfl rfl Try.func24 (by kernel_rfl) rfl #[.int .i64 a0_11] rfl ?_; (with_reducible refine (trivetref04_Of_s.calls a0_11 t358 t359 t360 true _ A2.out).mono ?_); rintro e w88 ⟨rfl, hb⟩; refine ⟨_, rfl, ?_⟩; have n0_ := ka (blk_below (g := gb357) (kz BK357.out) hb); have n1_ := ka (below_step (kw HB.out) hb); clear BK357; clear HB; have BK357 := n0_; have HB := n1_; clear n0_ n1_; (try clear hb); (try clear hb2); (try clear hk); (try clear hi)) | ((with_reducible refine gate_dst (N := 3) rfl ?_); refine kx (N := 3) (cs := #[.int .i64 0, .int .i64 0, .int .i64 0]) (t := 53) ?_; intro gb362 hg w89 hbox hb; have n0_ := ka (blk_below (g := gb357) (kz BK357.out) hb); have n1_ := ka (below_step (kw HB.out) hb); have n2_ := ka (hbox); have n3_ := ka ((by rw [hg]; exact (below_size (kw HB.out)) : w.heap.size ≤ gb362)); have n4_ := n3_; have n5_ := ka ((by rw [hg]; exact Nat.ne_of_lt (blk_lt (g := gb357) (kz BK357.out)) : gb357 ≠ gb362)); have n6_ := ka n5_.out.symm; clear BK357; clear HB; have BK357 := n0_; have HB := n1_; have BK362 := n2_; have GW362 := n3_; have GE362 := n4_; have NB357_362 := n5_; have NB362_357 := n6_; clear n0_ n1_ n2_ n3_ n4_ n5_ n6_; clear hb hbox hg; have hnb90 := NB362_357.out; have hnc90 := NB357_362.out; have hcz91 := blkAll3 BK362.out; have hcz92 := blkAll15 BK357.out) | ((with_reducible refine gate_callee (f := 29) rfl ?_); refine kg (some 14) rfl rfl Try.func29 (by kernel_rfl) rfl #[.agg #[.int .i64 a0_0, .int .i64 a0_1, .int .i64 a0_2, .int .i64 a0_3, .int .i64 a0_4, .int .i64 a0_5, .int .i64 a0_6, .int .i64 a0_7, .int .i64 a0_8]] rfl ?_; (with_reducible refine (trivetref11_May_s.calls a0_0 a0_1 a0_2 a0_3 a0_4 a0_5 a0_6 a0_7 a0_8 false _ A3.out).mono ?_); rintro e w93 ⟨rfl, hb⟩; refine ⟨_, rfl, ?_⟩; have n0_ := ka (blk_below (g := gb357) (o := .cells #[.int .i64 a0_0, .int .i64 a0_1, .int .i64 a0_2, .int .i64 a0_3, .int .i64 a0_4, .int .i64 a0_5, .int .i64 a0_6, .int .i64 a0_7, .int .i64 a0_8, .int .i64 a0_9, .int .i64 a0_10, .int .i64 a0_11, .int .i64 a0_12, .int .i64 a0_13, .int .i64 a0_14] 25 (0, 0)) (by (with_reducible repeat (first | apply kb1 | apply kb2 | apply kb3 | refine kb4 ?_ NB357_362.out _)); exact BK357.out) hb); have n1_ := ka (blk_below (g := gb362) (o := .cells #[.int .i64 t358, .int .i64 t359, .int .i64 t360] 53 (0, 0)) (by (with_reducible repeat (first | apply kb1 | apply kb2 | apply kb3 | apply blkPut3_2 | apply blkPut3_1 | apply blkPut3_0)); exact BK362.out) hb); have n2_ := ka (below_step (kw HB.out) hb); clear BK357; clear BK362; clear HB; have BK357 := n0_; have BK362 := n1_; have HB := n2_; clear n0_ n1_ n2_; (try clear hb); (try clear hb2); (try clear hk); (try clear hi); have hcz94 := blkAll3 BK362.out))
    go_ret
    exact ⟨by first | rfl | (simp [errW_none, errW_some] <;> rfl) | (simp [*, errW_none, errW_some] <;> rfl), by repeat (first | (with_reducible first | exact HB.out | apply kc1 | apply kc2 | apply kc3 | refine kc4 ?_ GE357.out | refine kc4 ?_ GE362.out) | exact HB.out)⟩
  ·rw [if_neg c5] at H
   have c5b0 : (t360 == 1) = false := beq_eq_false_iff_ne.mpr c5
   have c5b1 : (t360 != 1) = true := bne_iff_ne.mpr c5
   obtain rfl := Option.some.inj H
   go_enter Try.func15, Try.ntmps15
   go_wp2_with (first | ((with_reducible refine gate_dst (N := 1) rfl ?_); refine kx (N := 1) (cs := #[.int .i64 a0_0, .int .i64 a0_1, .int .i64 a0_2, .int .i64 a0_3, .int .i64 a0_4, .int .i64 a0_5, .int .i64 a0_6, .int .i64 a0_7, .int .i64 a0_8, .int .i64 a0_9, .int .i64 a0_10, .int .i64 a0_11, .int .i64 a0_12, .int .i64 a0_13, .int .i64 a0_14]) (t := 25) ?_; intro gb357 hg w95 hbox hb; have n0_ := ka (below_step (kw HB.out) hb); have n1_ := ka (hbox); have n2_ := ka ((by rw [hg]; exact (below_size (kw HB.out)) : w.heap.size ≤ gb357)); have n3_ := n2_; clear HB; have HB := n0_; have BK357 := n1_; have GW357 := n2_; have GE357 := n3_; clear n0_ n1_ n2_ n3_; clear hb hbox hg; have hcz96 := blkAll15 BK357.out) | ((with_reducible refine gate_callee (f := 24) rfl ?_); refine kg (some 9) rfl rfl Try.func24 (by kernel_rfl) rfl #[.int .i64 a0_11] rfl ?_; (with_reducible refine (trivetref04_Of_s.calls a0_11 t358 t359 t360 true _ A2.out).mono ?_); rintro e w97 ⟨rfl, hb⟩; refine ⟨_, rfl, ?_⟩; have n0_ := ka (blk_below (g := gb357) (kz BK357.out) hb); have n1_ := ka (below_step (kw HB.out) hb); clear BK357; clear HB; have BK357 := n0_; have HB := n1_; clear n0_ n1_; (try clear hb); (try clear hb2); (try clear hk); (try clear hi)) | ((with_reducible refine gate_dst (N := 3) rfl ?_); refine kx (N := 3) (cs := #[.int .i64 0, .int .i64 0, .int .i64 0]) (t := 53) ?_; intro gb362 hg w98 hbox hb; have n0_ := ka (blk_below (g := gb357) (kz BK357.out) hb); have n1_ := ka (below_step (kw HB.out) hb); have n2_ := ka (hbox); have n3_ := ka ((by rw [hg]; exact (below_size (kw HB.out)) : w.heap.size ≤ gb362)); have n4_ := n3_; have n5_ := ka ((by rw [hg]; exact Nat.ne_of_lt (blk_lt (g := gb357) (kz BK357.out)) : gb357 ≠ gb362)); have n6_ := ka n5_.out.symm; clear BK357; clear HB; have BK357 := n0_; have HB := n1_; have BK362 := n2_; have GW362 := n3_; have GE362 := n4_; have NB357_362 := n5_; have NB362_357 := n6_; clear n0_ n1_ n2_ n3_ n4_ n5_ n6_; clear hb hbox hg; have hnb99 := NB362_357.out; have hnc99 := NB357_362.out; have hcz100 := blkAll3 BK362.out; have hcz101 := blkAll15 BK357.out) | ((with_reducible refine gate_callee (f := 29) rfl ?_); refine kg (some 14) rfl rfl Try.func29 (by kernel_rfl) rfl #[.agg #[.int .i64 a0_0, .int .i64 a0_1, .int .i64 a0_2, .int .i64 a0_3, .int .i64 a0_4, .int .i64 a0_5, .int .i64 a0_6, .int .i64 a0_7, .int .i64 a0_8]] rfl ?_; (with_reducible refine (trivetref11_May_s.calls a0_0 a0_1 a0_2 a0_3 a0_4 a0_5 a0_6 a0_7 a0_8 t363 _ A3.out).mono ?_); rintro e w102 ⟨rfl, hb⟩; refine ⟨_, rfl, ?_⟩; have n0_ := ka (blk_below (g := gb357) (o := .cells #[.int .i64 a0_0, .int .i64 a0_1, .int .i64 a0_2, .int .i64 a0_3, .int .i64 a0_4, .int .i64 a0_5, .int .i64 a0_6, .int .i64 a0_7, .int .i64 a0_8, .int .i64 a0_9, .int .i64 a0_10, .int .i64 a0_11, .int .i64 a0_12, .int .i64 a0_13, .int .i64 a0_14] 25 (0, 0)) (by (with_reducible repeat (first | apply kb1 | apply kb2 | apply kb3 | refine kb4 ?_ NB357_362.out _)); exact BK357.out) hb); have n1_ := ka (blk_below (g := gb362) (o := .cells #[.int .i64 t358, .int .i64 t359, .int .i64 t360] 53 (0, 0)) (by (with_reducible repeat (first | apply kb1 | apply kb2 | apply kb3 | apply blkPut3_2 | apply blkPut3_1 | apply blkPut3_0)); exact BK362.out) hb); have n2_ := ka (below_step (kw HB.out) hb); clear BK357; clear BK362; clear HB; have BK357 := n0_; have BK362 := n1_; have HB := n2_; clear n0_ n1_ n2_; (try clear hb); (try clear hb2); (try clear hk); (try clear hi); have hcz103 := blkAll3 BK362.out))
   go_ret
   exact ⟨by first | rfl | (simp [errW_none, errW_some] <;> rfl) | (simp [*, errW_none, errW_some] <;> rfl), by repeat (first | (with_reducible first | exact HB.out | apply kc1 | apply kc2 | apply kc3 | refine kc4 ?_ GE357.out | refine kc4 ?_ GE362.out) | exact HB.out)⟩
 ·replace c4 := Bool.eq_false_iff.mpr c4
  subst c4
  have H1 : (some false) = some r := by rw [if_neg (show ¬ (false = true) by decide)] at H; exact H
  clear H
  have H := H1
  clear H1
  obtain rfl := Option.some.inj H
  go_enter Try.func15, Try.ntmps15
  go_wp2_with (first | ((with_reducible refine gate_dst (N := 1) rfl ?_); refine kx (N := 1) (cs := #[.int .i64 a0_0, .int .i64 a0_1, .int .i64 a0_2, .int .i64 a0_3, .int .i64 a0_4, .int .i64 a0_5, .int .i64 a0_6, .int .i64 a0_7, .int .i64 a0_8, .int .i64 a0_9, .int .i64 a0_10, .int .i64 a0_11, .int .i64 a0_12, .int .i64 a0_13, .int .i64 a0_14]) (t := 25) ?_; intro gb357 hg w104 hbox hb; have n0_ := ka (below_step (kw HB.out) hb); have n1_ := ka (hbox); have n2_ := ka ((by rw [hg]; exact (below_size (kw HB.out)) : w.heap.size ≤ gb357)); have n3_ := n2_; clear HB; have HB := n0_; have BK357 := n1_; have GW357 := n2_; have GE357 := n3_; clear n0_ n1_ n2_ n3_; clear hb hbox hg; have hcz105 := blkAll15 BK357.out) | ((with_reducible refine gate_callee (f := 24) rfl ?_); refine kg (some 9) rfl rfl Try.func24 (by kernel_rfl) rfl #[.int .i64 a0_11] rfl ?_; (with_reducible refine (trivetref04_Of_s.calls a0_11 t358 t359 t360 false _ A2.out).mono ?_); rintro e w106 ⟨rfl, hb⟩; refine ⟨_, rfl, ?_⟩; have n0_ := ka (blk_below (g := gb357) (kz BK357.out) hb); have n1_ := ka (below_step (kw HB.out) hb); clear BK357; clear HB; have BK357 := n0_; have HB := n1_; clear n0_ n1_; (try clear hb); (try clear hb2); (try clear hk); (try clear hi)) | ((with_reducible refine gate_dst (N := 3) rfl ?_); refine kx (N := 3) (cs := #[.int .i64 0, .int .i64 0, .int .i64 0]) (t := 53) ?_; intro gb362 hg w107 hbox hb; have n0_ := ka (blk_below (g := gb357) (kz BK357.out) hb); have n1_ := ka (below_step (kw HB.out) hb); have n2_ := ka (hbox); have n3_ := ka ((by rw [hg]; exact (below_size (kw HB.out)) : w.heap.size ≤ gb362)); have n4_ := n3_; have n5_ := ka ((by rw [hg]; exact Nat.ne_of_lt (blk_lt (g := gb357) (kz BK357.out)) : gb357 ≠ gb362)); have n6_ := ka n5_.out.symm; clear BK357; clear HB; have BK357 := n0_; have HB := n1_; have BK362 := n2_; have GW362 := n3_; have GE362 := n4_; have NB357_362 := n5_; have NB362_357 := n6_; clear n0_ n1_ n2_ n3_ n4_ n5_ n6_; clear hb hbox hg; have hnb108 := NB362_357.out; have hnc108 := NB357_362.out; have hcz109 := blkAll3 BK362.out; have hcz110 := blkAll15 BK357.out) | ((with_reducible refine gate_callee (f := 29) rfl ?_); refine kg (some 14) rfl rfl Try.func29 (by kernel_rfl) rfl #[.agg #[.int .i64 a0_0, .int .i64 a0_1, .int .i64 a0_2, .int .i64 a0_3, .int .i64 a0_4, .int .i64 a0_5, .int .i64 a0_6, .int .i64 a0_7, .int .i64 a0_8]] rfl ?_; (with_reducible refine (trivetref11_May_s.calls a0_0 a0_1 a0_2 a0_3 a0_4 a0_5 a0_6 a0_7 a0_8 t363 _ A3.out).mono ?_); rintro e w111 ⟨rfl, hb⟩; refine ⟨_, rfl, ?_⟩; have n0_ := ka (blk_below (g := gb357) (o := .cells #[.int .i64 a0_0, .int .i64 a0_1, .int .i64 a0_2, .int .i64 a0_3, .int .i64 a0_4, .int .i64 a0_5, .int .i64 a0_6, .int .i64 a0_7, .int .i64 a0_8, .int .i64 a0_9, .int .i64 a0_10, .int .i64 a0_11, .int .i64 a0_12, .int .i64 a0_13, .int .i64 a0_14] 25 (0, 0)) (by (with_reducible repeat (first | apply kb1 | apply kb2 | apply kb3 | refine kb4 ?_ NB357_362.out _)); exact BK357.out) hb); have n1_ := ka (blk_below (g := gb362) (o := .cells #[.int .i64 t358, .int .i64 t359, .int .i64 t360] 53 (0, 0)) (by (with_reducible repeat (first | apply kb1 | apply kb2 | apply kb3 | apply blkPut3_2 | apply blkPut3_1 | apply blkPut3_0)); exact BK362.out) hb); have n2_ := ka (below_step (kw HB.out) hb); clear BK357; clear BK362; clear HB; have BK357 := n0_; have BK362 := n1_; have HB := n2_; clear n0_ n1_ n2_; (try clear hb); (try clear hb2); (try clear hk); (try clear hi)))
  go_ret
  exact ⟨by first | rfl | (simp [errW_none, errW_some] <;> rfl) | (simp [*, errW_none, errW_some] <;> rfl), by repeat (first | (with_reducible first | exact HB.out | apply kc1 | apply kc2 | apply kc3 | refine kc4 ?_ GE357.out | refine kc4 ?_ GE362.out) | exact HB.out)⟩

/-! ### trivetref13_May_s: function 15, told plainly -/
theorem trivetref13_May.tells (b r m f e i w fe g bal lvl du cnt sus late : Int) (h : M.In f ∧ M.In fe ∧ M.In g ∧ M.In du) : trivetref13_May.f b r m f e i w fe g bal lvl du cnt sus late = some (decide (M.loanOk b r m f e i w fe g bal lvl du cnt sus late)) := by
 have out : ¬ M.loanOk b r m f e i w fe g bal lvl du cnt sus late → (some false : Option Bool) = some (decide (M.loanOk b r m f e i w fe g bal lvl du cnt sus late)) := fun hn => by rw [decide_eq_false hn]
 unfold trivetref13_May.f
 by_cases h1 : -25567 ≤ du ∧ du ≤ 84005
 case neg =>
  rw [trivetref04_Of_s.no h.2.2.2 h1, Option.bind_some, trivetref11_May_s.at_ ⟨h.1, h.2.1, h.2.2.1⟩, Option.bind_some, if_neg (by decide)]
  exact out (fun hh => h1 ⟨hh.2.1.1, hh.2.1.2.1⟩)
 rw [trivetref04_Of_s.yes h1, Option.bind_some, trivetref11_May_s.at_ ⟨h.1, h.2.1, h.2.2.1⟩, Option.bind_some, if_pos (show (true = true) from rfl)]
 by_cases h2 : M.dy du = 1
 case neg => rw [if_neg h2]; exact out (fun hh => h2 hh.2.1.2.2)
 rw [if_pos h2]
 by_cases h3 : M.termsOk b r m f e i w fe g
 case neg => rw [if_neg (by simpa using h3)]; exact out (fun hh => h3 hh.1)
 rw [if_pos (decide_eq_true h3), trivetref13_money_s.at_, Option.bind_some]
 by_cases h4 : M.cent bal
 case neg => rw [if_neg (by simpa using h4)]; exact out (fun hh => h4 hh.2.2.1)
 rw [if_pos (decide_eq_true h4)]
 by_cases h5 : lvl ≥ 1
 case neg => rw [if_neg h5]; exact out (fun hh => h5 hh.2.2.2.1)
 rw [if_pos h5]
 by_cases h6 : lvl ≤ 20000000000000
 case neg => rw [if_neg h6]; exact out (fun hh => h6 hh.2.2.2.2.1)
 rw [if_pos h6]
 by_cases h7 : cnt ≥ 0
 case neg => rw [if_neg h7]; exact out (fun hh => h7 hh.2.2.2.2.2.1)
 rw [if_pos h7]
 by_cases h8 : cnt ≤ 480
 case neg => rw [if_neg h8]; exact out (fun hh => h8 hh.2.2.2.2.2.2.1)
 rw [if_pos h8, trivetref13_money_s.at_, Option.bind_some]
 by_cases h9 : M.cent sus
 case neg => rw [if_neg (by simpa using h9)]; exact out (fun hh => h9 hh.2.2.2.2.2.2.2.1)
 rw [if_pos (decide_eq_true h9), trivetref13_money_s.at_, Option.bind_some]
 refine congrArg some (decide_eq_decide.mpr ⟨fun hc => ⟨h3, ⟨h1.1, h1.2, h2⟩, h4, h5, h6, h7, h8, h9, hc⟩, fun hh => hh.2.2.2.2.2.2.2.2⟩)
def trivetref13_May_s.f (b r m f e i w fe g bal lvl du cnt sus late : Int) : Option Bool := if M.In f ∧ M.In fe ∧ M.In g ∧ M.In du then some (decide (M.loanOk b r m f e i w fe g bal lvl du cnt sus late)) else none
theorem trivetref13_May_s.calls (a0_0 : Int) (a0_1 : Int) (a0_2 : Int) (a0_3 : Int) (a0_4 : Int) (a0_5 : Int) (a0_6 : Int) (a0_7 : Int) (a0_8 : Int) (a0_9 : Int) (a0_10 : Int) (a0_11 : Int) (a0_12 : Int) (a0_13 : Int) (a0_14 : Int) (r : Bool) (w : World) (h : trivetref13_May_s.f a0_0 a0_1 a0_2 a0_3 a0_4 a0_5 a0_6 a0_7 a0_8 a0_9 a0_10 a0_11 a0_12 a0_13 a0_14 = some r) :
  Calls Try.prog 15 #[.agg #[.int .i64 a0_0, .int .i64 a0_1, .int .i64 a0_2, .int .i64 a0_3, .int .i64 a0_4, .int .i64 a0_5, .int .i64 a0_6, .int .i64 a0_7, .int .i64 a0_8, .int .i64 a0_9, .int .i64 a0_10, .int .i64 a0_11, .int .i64 a0_12, .int .i64 a0_13, .int .i64 a0_14]] w fun e w' => e = .returned (.bool r) ∧ Below w.heap.size w w' := by
 unfold trivetref13_May_s.f at h
 split at h
 ·rename_i hr
  exact trivetref13_May.calls a0_0 a0_1 a0_2 a0_3 a0_4 a0_5 a0_6 a0_7 a0_8 a0_9 a0_10 a0_11 a0_12 a0_13 a0_14 r w ((trivetref13_May.tells a0_0 a0_1 a0_2 a0_3 a0_4 a0_5 a0_6 a0_7 a0_8 a0_9 a0_10 a0_11 a0_12 a0_13 a0_14 hr).trans h)
 ·cases h
theorem trivetref13_May_s.at_ {b r m f e i w fe g bal lvl du cnt sus late : Int} (h : M.In f ∧ M.In fe ∧ M.In g ∧ M.In du) : trivetref13_May_s.f b r m f e i w fe g bal lvl du cnt sus late = some (decide (M.loanOk b r m f e i w fe g bal lvl du cnt sus late)) := by unfold trivetref13_May_s.f; rw [if_pos h]

/-! ### trivetref02_Month: function 31 -/
def trivetref02_Month.f (a0 : Int) (a1 : Int) : Option (Int) := if (Int.tmod (wrap64 (a0 * a1)) 12000000) > 6000000 then (some (wrap64 ((wrap64 (Int.tdiv (wrap64 (a0 * a1)) 12000000)) + 1))) else (if (Int.tmod (wrap64 (a0 * a1)) 12000000) = 6000000 then (if (Int.tmod (wrap64 (Int.tdiv (wrap64 (a0 * a1)) 12000000)) 2) = 1 then (some (wrap64 ((wrap64 (Int.tdiv (wrap64 (a0 * a1)) 12000000)) + 1))) else (some (wrap64 (Int.tdiv (wrap64 (a0 * a1)) 12000000)))) else (some (wrap64 (Int.tdiv (wrap64 (a0 * a1)) 12000000))))
set_option maxHeartbeats 8000000 in
set_option maxRecDepth 100000 in
theorem trivetref02_Month.calls (a0 : Int) (a1 : Int) (r : Int) (w : World) (h : trivetref02_Month.f a0 a1 = some r) :
  Calls Try.prog 31 #[.int .i64 a0, .int .i64 a1] w fun e w' => e = .returned (.int .i64 r) ∧ Drawn0 w w' := by
 have H : (if (Int.tmod (wrap64 (a0 * a1)) 12000000) > 6000000 then (some (wrap64 ((wrap64 (Int.tdiv (wrap64 (a0 * a1)) 12000000)) + 1))) else (if (Int.tmod (wrap64 (a0 * a1)) 12000000) = 6000000 then (if (Int.tmod (wrap64 (Int.tdiv (wrap64 (a0 * a1)) 12000000)) 2) = 1 then (some (wrap64 ((wrap64 (Int.tdiv (wrap64 (a0 * a1)) 12000000)) + 1))) else (some (wrap64 (Int.tdiv (wrap64 (a0 * a1)) 12000000)))) else (some (wrap64 (Int.tdiv (wrap64 (a0 * a1)) 12000000))))) = some r := h
 clear h
 by_cases c3 : (Int.tmod (wrap64 (a0 * a1)) 12000000) > 6000000
 ·rw [if_pos c3] at H
  have c3b0 : decide (6000000 < (Int.tmod (wrap64 (a0 * a1)) 12000000)) = true := decide_eq_true c3
  clear c3
  obtain rfl := Option.some.inj H
  go_enter Try.func31, Try.ntmps31
  go_wp2
  go_ret
  exact ⟨by first | rfl | (simp; done) | (simp [*]; done), by repeat (first | exact Drawn0.refl _ | apply Drawn0.step)⟩
 ·rw [if_neg c3] at H
  have c3b0 : decide (6000000 < (Int.tmod (wrap64 (a0 * a1)) 12000000)) = false := decide_eq_false c3
  clear c3
  by_cases c4 : (Int.tmod (wrap64 (a0 * a1)) 12000000) = 6000000
  ·rw [if_pos c4] at H
   have c4b0 : ((Int.tmod (wrap64 (a0 * a1)) 12000000) == 6000000) = true := beq_iff_eq.mpr c4
   have c4b1 : ((Int.tmod (wrap64 (a0 * a1)) 12000000) != 6000000) = false := bne_eq_false_iff_eq.mpr c4
   clear c4
   by_cases c5 : (Int.tmod (wrap64 (Int.tdiv (wrap64 (a0 * a1)) 12000000)) 2) = 1
   ·rw [if_pos c5] at H
    have c5b0 : ((Int.tmod (wrap64 (Int.tdiv (wrap64 (a0 * a1)) 12000000)) 2) == 1) = true := beq_iff_eq.mpr c5
    have c5b1 : ((Int.tmod (wrap64 (Int.tdiv (wrap64 (a0 * a1)) 12000000)) 2) != 1) = false := bne_eq_false_iff_eq.mpr c5
    clear c5
    obtain rfl := Option.some.inj H
    go_enter Try.func31, Try.ntmps31
    go_wp2
    go_ret
    exact ⟨by first | rfl | (simp; done) | (simp [*]; done), by repeat (first | exact Drawn0.refl _ | apply Drawn0.step)⟩
   ·rw [if_neg c5] at H
    have c5b0 : ((Int.tmod (wrap64 (Int.tdiv (wrap64 (a0 * a1)) 12000000)) 2) == 1) = false := beq_eq_false_iff_ne.mpr c5
    have c5b1 : ((Int.tmod (wrap64 (Int.tdiv (wrap64 (a0 * a1)) 12000000)) 2) != 1) = true := bne_iff_ne.mpr c5
    obtain rfl := Option.some.inj H
    go_enter Try.func31, Try.ntmps31
    go_wp2
    go_ret
    exact ⟨by first | rfl | (simp; done) | (simp [*]; done), by repeat (first | exact Drawn0.refl _ | apply Drawn0.step)⟩
  ·rw [if_neg c4] at H
   have c4b0 : ((Int.tmod (wrap64 (a0 * a1)) 12000000) == 6000000) = false := beq_eq_false_iff_ne.mpr c4
   have c4b1 : ((Int.tmod (wrap64 (a0 * a1)) 12000000) != 6000000) = true := bne_iff_ne.mpr c4
   obtain rfl := Option.some.inj H
   go_enter Try.func31, Try.ntmps31
   go_wp2
   go_ret
   exact ⟨by first | rfl | (simp; done) | (simp [*]; done), by repeat (first | exact Drawn0.refl _ | apply Drawn0.step)⟩

/-! ### trivetref02_Month_s: function 31, told plainly -/
theorem trivetref02_Month.tells (b r : Int) (h : M.may b r) : trivetref02_Month.f b r = some (M.month b r) := by
 have hp := M.prod_bd h
 unfold trivetref02_Month.f M.month
 rw [M.quo4 _ _ (by decide), M.w64_id (n := b * r) (by omega) (by omega), M.tdivu hp.1, M.tmodu hp.1, M.w64_id (n := b * r / 12000000) (by omega) (by omega), M.tmodu (a := b * r / 12000000) (by omega), M.w64_id (n := b * r / 12000000 + 1) (by omega) (by omega)]
 generalize b * r = n at *
 by_cases h1 : n % 12000000 > 6000000
 ·rw [if_pos h1, if_pos (.inl (by omega))]
 ·rw [if_neg h1]
  by_cases h2 : n % 12000000 = 6000000
  ·rw [if_pos h2]
   by_cases h3 : n / 12000000 % 2 = 1
   ·rw [if_pos h3, if_pos (.inr ⟨by omega, h3⟩)]
   ·rw [if_neg h3, if_neg (by omega), Int.add_zero]
  ·rw [if_neg h2, if_neg (by omega), Int.add_zero]
def trivetref02_Month_s.f (b r : Int) : Option Int := if M.may b r then some (M.month b r) else none
theorem trivetref02_Month_s.calls (a0 : Int) (a1 : Int) (r : Int) (w : World) (h : trivetref02_Month_s.f a0 a1 = some r) :
  Calls Try.prog 31 #[.int .i64 a0, .int .i64 a1] w fun e w' => e = .returned (.int .i64 r) ∧ Drawn0 w w' := by
 unfold trivetref02_Month_s.f at h
 split at h
 ·rename_i hr
  exact trivetref02_Month.calls a0 a1 r w ((trivetref02_Month.tells a0 a1 hr).trans h)
 ·cases h
theorem trivetref02_Month_s.yes {b r : Int} (h : M.may b r) : trivetref02_Month_s.f b r = some (M.month b r) := by unfold trivetref02_Month_s.f; rw [if_pos h]

/-! ### trivetref13_Next: function 16 -/
def trivetref13_Next.f (a0_0 : Int) (a0_1 : Int) (a0_2 : Int) (a0_3 : Int) (a0_4 : Int) (a0_5 : Int) (a0_6 : Int) (a0_7 : Int) (a0_8 : Int) (a0_9 : Int) (a0_10 : Int) (a0_11 : Int) (a0_12 : Int) (a0_13 : Int) (a0_14 : Int) : Option (Int × Int × Int × Int × Int × Int) := (trivetref02_Month_s.f a0_9 a0_1).bind fun t369 => (if (wrap64 (a0_10 - t369)) < 0 then (if 0 > a0_9 then (some (1, t369, a0_9, a0_4, 0, 0)) else (some (1, t369, 0, a0_4, 0, wrap64 (a0_9)))) else (if (wrap64 (a0_10 - t369)) > a0_9 then (some (1, t369, a0_9, a0_4, 0, 0)) else (some (1, t369, wrap64 (a0_10 - t369), a0_4, 0, wrap64 (a0_9 - (wrap64 (a0_10 - t369)))))))
set_option maxHeartbeats 8000000 in
set_option maxRecDepth 100000 in
theorem trivetref13_Next.calls (a0_0 : Int) (a0_1 : Int) (a0_2 : Int) (a0_3 : Int) (a0_4 : Int) (a0_5 : Int) (a0_6 : Int) (a0_7 : Int) (a0_8 : Int) (a0_9 : Int) (a0_10 : Int) (a0_11 : Int) (a0_12 : Int) (a0_13 : Int) (a0_14 : Int) (r1 : Int) (r2 : Int) (r3 : Int) (r4 : Int) (r5 : Int) (r6 : Int) (w : World) (h : trivetref13_Next.f a0_0 a0_1 a0_2 a0_3 a0_4 a0_5 a0_6 a0_7 a0_8 a0_9 a0_10 a0_11 a0_12 a0_13 a0_14 = some (r1, r2, r3, r4, r5, r6)) :
  Calls Try.prog 16 #[.agg #[.int .i64 a0_0, .int .i64 a0_1, .int .i64 a0_2, .int .i64 a0_3, .int .i64 a0_4, .int .i64 a0_5, .int .i64 a0_6, .int .i64 a0_7, .int .i64 a0_8, .int .i64 a0_9, .int .i64 a0_10, .int .i64 a0_11, .int .i64 a0_12, .int .i64 a0_13, .int .i64 a0_14]] w fun e w' => e = .returned (.agg #[.int .i64 r1, .int .i64 r2, .int .i64 r3, .int .i64 r4, .int .i64 r5, .int .i64 r6]) ∧ Below w.heap.size w w' := by
 have hu25 := Try.underlying25
 have hu28 := Try.underlying28
 have HB := ka (Below.refl w.heap.size w)
 have H : ((trivetref02_Month_s.f a0_9 a0_1).bind fun t369 => (if (wrap64 (a0_10 - t369)) < 0 then (if 0 > a0_9 then (some (1, t369, a0_9, a0_4, 0, 0)) else (some (1, t369, 0, a0_4, 0, wrap64 (a0_9)))) else (if (wrap64 (a0_10 - t369)) > a0_9 then (some (1, t369, a0_9, a0_4, 0, 0)) else (some (1, t369, wrap64 (a0_10 - t369), a0_4, 0, wrap64 (a0_9 - (wrap64 (a0_10 - t369)))))))) = some (r1, r2, r3, r4, r5, r6) := h
 clear h
 replace H := Option.bind_eq_some_iff.mp H
 obtain ⟨t369, A20, H⟩ := H
 replace H : (if (wrap64 (a0_10 - t369)) < 0 then (if 0 > a0_9 then (some (1, t369, a0_9, a0_4, 0, 0)) else (some (1, t369, 0, a0_4, 0, wrap64 (a0_9)))) else (if (wrap64 (a0_10 - t369)) > a0_9 then (some (1, t369, a0_9, a0_4, 0, 0)) else (some (1, t369, wrap64 (a0_10 - t369), a0_4, 0, wrap64 (a0_9 - (wrap64 (a0_10 - t369))))))) = some (r1, r2, r3, r4, r5, r6) := H
 have A2 := ka A20
 clear A20
 by_cases c3 : (wrap64 (a0_10 - t369)) < 0
 ·rw [if_pos c3] at H
  have c3b0 : decide ((wrap64 (a0_10 - t369)) < 0) = true := decide_eq_true c3
  clear c3
  by_cases c4 : 0 > a0_9
  ·rw [if_pos c4] at H
   have c4b0 : decide (a0_9 < 0) = true := decide_eq_true c4
   clear c4
   simp only [Option.some.injEq, Prod.mk.injEq] at H
   obtain ⟨rfl, rfl, rfl, rfl, rfl, rfl⟩ := H
   go_enter Try.func16, Try.ntmps16
   go_wp2_with (first | ((with_reducible refine gate_dst (N := 1) rfl ?_); refine kx (N := 1) (cs := #[.int .i64 a0_0, .int .i64 a0_1, .int .i64 a0_2, .int .i64 a0_3, .int .i64 a0_4, .int .i64 a0_5, .int .i64 a0_6, .int .i64 a0_7, .int .i64 a0_8, .int .i64 a0_9, .int .i64 a0_10, .int .i64 a0_11, .int .i64 a0_12, .int .i64 a0_13, .int .i64 a0_14]) (t := 25) ?_; intro gb367 hg w5 hbox hb; have n0_ := ka (below_step (kw HB.out) hb); have n1_ := ka (hbox); have n2_ := ka ((by rw [hg]; exact (below_size (kw HB.out)) : w.heap.size ≤ gb367)); have n3_ := n2_; clear HB; have HB := n0_; have BK367 := n1_; have GW367 := n2_; have GE367 := n3_; clear n0_ n1_ n2_ n3_; clear hb hbox hg) | ((with_reducible refine gate_dst (N := 2) rfl ?_); refine kx (N := 2) (cs := #[.int .i64 0, .int .i64 0, .int .i64 0, .int .i64 0, .int .i64 0, .int .i64 0]) (t := 28) ?_; intro gb368 hg w6 hbox hb; have n0_ := ka (blk_below (g := gb367) (kz BK367.out) hb); have n1_ := ka (below_step (kw HB.out) hb); have n2_ := ka (hbox); have n3_ := ka ((by rw [hg]; exact (below_size (kw HB.out)) : w.heap.size ≤ gb368)); have n4_ := n3_; have n5_ := ka ((by rw [hg]; exact Nat.ne_of_lt (blk_lt (g := gb367) (kz BK367.out)) : gb367 ≠ gb368)); have n6_ := ka n5_.out.symm; clear BK367; clear HB; have BK367 := n0_; have HB := n1_; have BK368 := n2_; have GW368 := n3_; have GE368 := n4_; have NB367_368 := n5_; have NB368_367 := n6_; clear n0_ n1_ n2_ n3_ n4_ n5_ n6_; clear hb hbox hg; have hnb7 := NB367_368.out; have hnc7 := NB368_367.out; have hcz8 := blkAll15 BK367.out) | ((with_reducible refine gate_callee (f := 31) rfl ?_); refine kg (some 10) rfl rfl Try.func31 (by kernel_rfl) rfl #[.int .i64 a0_9, .int .i64 a0_1] rfl ?_; (with_reducible refine (trivetref02_Month_s.calls a0_9 a0_1 t369 _ A2.out).mono ?_); rintro e w' ⟨rfl, ⟨nd, rfl⟩⟩; refine ⟨_, rfl, ?_⟩; (try (rw [drewN_self w6]; generalize hq_ : World.drewN w6 _ = w6; have n0_ : Aside0 (w6.heap[gb367]? = some (.cells #[.int .i64 a0_0, .int .i64 a0_1, .int .i64 a0_2, .int .i64 a0_3, .int .i64 a0_4, .int .i64 a0_5, .int .i64 a0_6, .int .i64 a0_7, .int .i64 a0_8, .int .i64 a0_9, .int .i64 a0_10, .int .i64 a0_11, .int .i64 a0_12, .int .i64 a0_13, .int .i64 a0_14] 25 (0, 0))) := ⟨by rw [← hq_]; exact (kz BK367.out)⟩; have n1_ : Aside0 (w6.heap[gb368]? = some (.cells #[.int .i64 0, .int .i64 0, .int .i64 0, .int .i64 0, .int .i64 0, .int .i64 0] 28 (0, 0))) := ⟨by rw [← hq_]; exact (kz BK368.out)⟩; have n2_ : Aside0 (Below w.heap.size w w6) := ⟨by rw [← hq_]; exact (kw HB.out)⟩; clear BK367 BK368 HB hq_; have BK367 := n0_; have BK368 := n1_; have HB := n2_; clear n0_ n1_ n2_)); have hcz9 := blkAll15 BK367.out; have hcz10 := blkAll6 BK368.out))
   refine bodyPost_ret (results_cell_row rfl _ _ gb368 28 #[.int .i64 1, .int .i64 t369, .int .i64 a0_9, .int .i64 a0_4, .int .i64 0, .int .i64 0] (0, 0) _ rfl (by (with_reducible repeat (first | apply kb1 | apply kb2 | apply kb3 | apply blkPut6_5 | apply blkPut6_4 | apply blkPut6_3 | apply blkPut6_2 | apply blkPut6_1 | apply blkPut6_0)); exact BK368.out) Try.underlying28 rfl (by kernel_rfl)) rfl ?_
   exact ⟨by first | rfl | (simp [errW_none, errW_some] <;> rfl) | (simp [*, errW_none, errW_some] <;> rfl), by repeat (first | (with_reducible first | exact HB.out | apply kc1 | apply kc2 | apply kc3 | refine kc4 ?_ GE367.out | refine kc4 ?_ GE368.out) | exact HB.out)⟩
  ·rw [if_neg c4] at H
   have c4b0 : decide (a0_9 < 0) = false := decide_eq_false c4
   clear c4
   simp only [Option.some.injEq, Prod.mk.injEq] at H
   obtain ⟨rfl, rfl, rfl, rfl, rfl, rfl⟩ := H
   go_enter Try.func16, Try.ntmps16
   go_wp2_with (first | ((with_reducible refine gate_dst (N := 1) rfl ?_); refine kx (N := 1) (cs := #[.int .i64 a0_0, .int .i64 a0_1, .int .i64 a0_2, .int .i64 a0_3, .int .i64 a0_4, .int .i64 a0_5, .int .i64 a0_6, .int .i64 a0_7, .int .i64 a0_8, .int .i64 a0_9, .int .i64 a0_10, .int .i64 a0_11, .int .i64 a0_12, .int .i64 a0_13, .int .i64 a0_14]) (t := 25) ?_; intro gb367 hg w11 hbox hb; have n0_ := ka (below_step (kw HB.out) hb); have n1_ := ka (hbox); have n2_ := ka ((by rw [hg]; exact (below_size (kw HB.out)) : w.heap.size ≤ gb367)); have n3_ := n2_; clear HB; have HB := n0_; have BK367 := n1_; have GW367 := n2_; have GE367 := n3_; clear n0_ n1_ n2_ n3_; clear hb hbox hg) | ((with_reducible refine gate_dst (N := 2) rfl ?_); refine kx (N := 2) (cs := #[.int .i64 0, .int .i64 0, .int .i64 0, .int .i64 0, .int .i64 0, .int .i64 0]) (t := 28) ?_; intro gb368 hg w12 hbox hb; have n0_ := ka (blk_below (g := gb367) (kz BK367.out) hb); have n1_ := ka (below_step (kw HB.out) hb); have n2_ := ka (hbox); have n3_ := ka ((by rw [hg]; exact (below_size (kw HB.out)) : w.heap.size ≤ gb368)); have n4_ := n3_; have n5_ := ka ((by rw [hg]; exact Nat.ne_of_lt (blk_lt (g := gb367) (kz BK367.out)) : gb367 ≠ gb368)); have n6_ := ka n5_.out.symm; clear BK367; clear HB; have BK367 := n0_; have HB := n1_; have BK368 := n2_; have GW368 := n3_; have GE368 := n4_; have NB367_368 := n5_; have NB368_367 := n6_; clear n0_ n1_ n2_ n3_ n4_ n5_ n6_; clear hb hbox hg; have hnb13 := NB367_368.out; have hnc13 := NB368_367.out; have hcz14 := blkAll15 BK367.out) | ((with_reducible refine gate_callee (f := 31) rfl ?_); refine kg (some 10) rfl rfl Try.func31 (by kernel_rfl) rfl #[.int .i64 a0_9, .int .i64 a0_1] rfl ?_; (with_reducible refine (trivetref02_Month_s.calls a0_9 a0_1 t369 _ A2.out).mono ?_); rintro e w' ⟨rfl, ⟨nd, rfl⟩⟩; refine ⟨_, rfl, ?_⟩; (try (rw [drewN_self w12]; generalize hq_ : World.drewN w12 _ = w12; have n0_ : Aside0 (w12.heap[gb367]? = some (.cells #[.int .i64 a0_0, .int .i64 a0_1, .int .i64 a0_2, .int .i64 a0_3, .int .i64 a0_4, .int .i64 a0_5, .int .i64 a0_6, .int .i64 a0_7, .int .i64 a0_8, .int .i64 a0_9, .int .i64 a0_10, .int .i64 a0_11, .int .i64 a0_12, .int .i64 a0_13, .int .i64 a0_14] 25 (0, 0))) := ⟨by rw [← hq_]; exact (kz BK367.out)⟩; have n1_ : Aside0 (w12.heap[gb368]? = some (.cells #[.int .i64 0, .int .i64 0, .int .i64 0, .int .i64 0, .int .i64 0, .int .i64 0] 28 (0, 0))) := ⟨by rw [← hq_]; exact (kz BK368.out)⟩; have n2_ : Aside0 (Below w.heap.size w w12) := ⟨by rw [← hq_]; exact (kw HB.out)⟩; clear BK367 BK368 HB hq_; have BK367 := n0_; have BK368 := n1_; have HB := n2_; clear n0_ n1_ n2_)); have hcz15 := blkAll15 BK367.out; have hcz16 := blkAll6 BK368.out))
   refine bodyPost_ret (results_cell_row rfl _ _ gb368 28 #[.int .i64 1, .int .i64 t369, .int .i64 0, .int .i64 a0_4, .int .i64 0, .int .i64 (wrap64 (a0_9))] (0, 0) _ rfl (by (with_reducible repeat (first | apply kb1 | apply kb2 | apply kb3 | apply blkPut6_5 | apply blkPut6_4 | apply blkPut6_3 | apply blkPut6_2 | apply blkPut6_1 | apply blkPut6_0)); exact BK368.out) Try.underlying28 rfl (by kernel_rfl)) rfl ?_
   exact ⟨by first | rfl | (simp [errW_none, errW_some] <;> rfl) | (simp [*, errW_none, errW_some] <;> rfl), by repeat (first | (with_reducible first | exact HB.out | apply kc1 | apply kc2 | apply kc3 | refine kc4 ?_ GE367.out | refine kc4 ?_ GE368.out) | exact HB.out)⟩
 ·rw [if_neg c3] at H
  have c3b0 : decide ((wrap64 (a0_10 - t369)) < 0) = false := decide_eq_false c3
  clear c3
  by_cases c17 : (wrap64 (a0_10 - t369)) > a0_9
  ·rw [if_pos c17] at H
   have c17b0 : decide (a0_9 < (wrap64 (a0_10 - t369))) = true := decide_eq_true c17
   clear c17
   simp only [Option.some.injEq, Prod.mk.injEq] at H
   obtain ⟨rfl, rfl, rfl, rfl, rfl, rfl⟩ := H
   go_enter Try.func16, Try.ntmps16
   go_wp2_with (first | ((with_reducible refine gate_dst (N := 1) rfl ?_); refine kx (N := 1) (cs := #[.int .i64 a0_0, .int .i64 a0_1, .int .i64 a0_2, .int .i64 a0_3, .int .i64 a0_4, .int .i64 a0_5, .int .i64 a0_6, .int .i64 a0_7, .int .i64 a0_8, .int .i64 a0_9, .int .i64 a0_10, .int .i64 a0_11, .int .i64 a0_12, .int .i64 a0_13, .int .i64 a0_14]) (t := 25) ?_; intro gb367 hg w18 hbox hb; have n0_ := ka (below_step (kw HB.out) hb); have n1_ := ka (hbox); have n2_ := ka ((by rw [hg]; exact (below_size (kw HB.out)) : w.heap.size ≤ gb367)); have n3_ := n2_; clear HB; have HB := n0_; have BK367 := n1_; have GW367 := n2_; have GE367 := n3_; clear n0_ n1_ n2_ n3_; clear hb hbox hg) | ((with_reducible refine gate_dst (N := 2) rfl ?_); refine kx (N := 2) (cs := #[.int .i64 0, .int .i64 0, .int .i64 0, .int .i64 0, .int .i64 0, .int .i64 0]) (t := 28) ?_; intro gb368 hg w19 hbox hb; have n0_ := ka (blk_below (g := gb367) (kz BK367.out) hb); have n1_ := ka (below_step (kw HB.out) hb); have n2_ := ka (hbox); have n3_ := ka ((by rw [hg]; exact (below_size (kw HB.out)) : w.heap.size ≤ gb368)); have n4_ := n3_; have n5_ := ka ((by rw [hg]; exact Nat.ne_of_lt (blk_lt (g := gb367) (kz BK367.out)) : gb367 ≠ gb368)); have n6_ := ka n5_.out.symm; clear BK367; clear HB; have BK367 := n0_; have HB := n1_; have BK368 := n2_; have GW368 := n3_; have GE368 := n4_; have NB367_368 := n5_; have NB368_367 := n6_; clear n0_ n1_ n2_ n3_ n4_ n5_ n6_; clear hb hbox hg; have hnb20 := NB367_368.out; have hnc20 := NB368_367.out; have hcz21 := blkAll15 BK367.out) | ((with_reducible refine gate_callee (f := 31) rfl ?_); refine kg (some 10) rfl rfl Try.func31 (by kernel_rfl) rfl #[.int .i64 a0_9, .int .i64 a0_1] rfl ?_; (with_reducible refine (trivetref02_Month_s.calls a0_9 a0_1 t369 _ A2.out).mono ?_); rintro e w' ⟨rfl, ⟨nd, rfl⟩⟩; refine ⟨_, rfl, ?_⟩; (try (rw [drewN_self w19]; generalize hq_ : World.drewN w19 _ = w19; have n0_ : Aside0 (w19.heap[gb367]? = some (.cells #[.int .i64 a0_0, .int .i64 a0_1, .int .i64 a0_2, .int .i64 a0_3, .int .i64 a0_4, .int .i64 a0_5, .int .i64 a0_6, .int .i64 a0_7, .int .i64 a0_8, .int .i64 a0_9, .int .i64 a0_10, .int .i64 a0_11, .int .i64 a0_12, .int .i64 a0_13, .int .i64 a0_14] 25 (0, 0))) := ⟨by rw [← hq_]; exact (kz BK367.out)⟩; have n1_ : Aside0 (w19.heap[gb368]? = some (.cells #[.int .i64 0, .int .i64 0, .int .i64 0, .int .i64 0, .int .i64 0, .int .i64 0] 28 (0, 0))) := ⟨by rw [← hq_]; exact (kz BK368.out)⟩; have n2_ : Aside0 (Below w.heap.size w w19) := ⟨by rw [← hq_]; exact (kw HB.out)⟩; clear BK367 BK368 HB hq_; have BK367 := n0_; have BK368 := n1_; have HB := n2_; clear n0_ n1_ n2_)); have hcz22 := blkAll15 BK367.out; have hcz23 := blkAll6 BK368.out))
   refine bodyPost_ret (results_cell_row rfl _ _ gb368 28 #[.int .i64 1, .int .i64 t369, .int .i64 a0_9, .int .i64 a0_4, .int .i64 0, .int .i64 0] (0, 0) _ rfl (by (with_reducible repeat (first | apply kb1 | apply kb2 | apply kb3 | apply blkPut6_5 | apply blkPut6_4 | apply blkPut6_3 | apply blkPut6_2 | apply blkPut6_1 | apply blkPut6_0)); exact BK368.out) Try.underlying28 rfl (by kernel_rfl)) rfl ?_
   exact ⟨by first | rfl | (simp [errW_none, errW_some] <;> rfl) | (simp [*, errW_none, errW_some] <;> rfl), by repeat (first | (with_reducible first | exact HB.out | apply kc1 | apply kc2 | apply kc3 | refine kc4 ?_ GE367.out | refine kc4 ?_ GE368.out) | exact HB.out)⟩
  ·rw [if_neg c17] at H
   have c17b0 : decide (a0_9 < (wrap64 (a0_10 - t369))) = false := decide_eq_false c17
   clear c17
   simp only [Option.some.injEq, Prod.mk.injEq] at H
   obtain ⟨rfl, rfl, rfl, rfl, rfl, rfl⟩ := H
   go_enter Try.func16, Try.ntmps16
   go_wp2_with (first | ((with_reducible refine gate_dst (N := 1) rfl ?_); refine kx (N := 1) (cs := #[.int .i64 a0_0, .int .i64 a0_1, .int .i64 a0_2, .int .i64 a0_3, .int .i64 a0_4, .int .i64 a0_5, .int .i64 a0_6, .int .i64 a0_7, .int .i64 a0_8, .int .i64 a0_9, .int .i64 a0_10, .int .i64 a0_11, .int .i64 a0_12, .int .i64 a0_13, .int .i64 a0_14]) (t := 25) ?_; intro gb367 hg w24 hbox hb; have n0_ := ka (below_step (kw HB.out) hb); have n1_ := ka (hbox); have n2_ := ka ((by rw [hg]; exact (below_size (kw HB.out)) : w.heap.size ≤ gb367)); have n3_ := n2_; clear HB; have HB := n0_; have BK367 := n1_; have GW367 := n2_; have GE367 := n3_; clear n0_ n1_ n2_ n3_; clear hb hbox hg) | ((with_reducible refine gate_dst (N := 2) rfl ?_); refine kx (N := 2) (cs := #[.int .i64 0, .int .i64 0, .int .i64 0, .int .i64 0, .int .i64 0, .int .i64 0]) (t := 28) ?_; intro gb368 hg w25 hbox hb; have n0_ := ka (blk_below (g := gb367) (kz BK367.out) hb); have n1_ := ka (below_step (kw HB.out) hb); have n2_ := ka (hbox); have n3_ := ka ((by rw [hg]; exact (below_size (kw HB.out)) : w.heap.size ≤ gb368)); have n4_ := n3_; have n5_ := ka ((by rw [hg]; exact Nat.ne_of_lt (blk_lt (g := gb367) (kz BK367.out)) : gb367 ≠ gb368)); have n6_ := ka n5_.out.symm; clear BK367; clear HB; have BK367 := n0_; have HB := n1_; have BK368 := n2_; have GW368 := n3_; have GE368 := n4_; have NB367_368 := n5_; have NB368_367 := n6_; clear n0_ n1_ n2_ n3_ n4_ n5_ n6_; clear hb hbox hg; have hnb26 := NB367_368.out; have hnc26 := NB368_367.out; have hcz27 := blkAll15 BK367.out) | ((with_reducible refine gate_callee (f := 31) rfl ?_); refine kg (some 10) rfl rfl Try.func31 (by kernel_rfl) rfl #[.int .i64 a0_9, .int .i64 a0_1] rfl ?_; (with_reducible refine (trivetref02_Month_s.calls a0_9 a0_1 t369 _ A2.out).mono ?_); rintro e w' ⟨rfl, ⟨nd, rfl⟩⟩; refine ⟨_, rfl, ?_⟩; (try (rw [drewN_self w25]; generalize hq_ : World.drewN w25 _ = w25; have n0_ : Aside0 (w25.heap[gb367]? = some (.cells #[.int .i64 a0_0, .int .i64 a0_1, .int .i64 a0_2, .int .i64 a0_3, .int .i64 a0_4, .int .i64 a0_5, .int .i64 a0_6, .int .i64 a0_7, .int .i64 a0_8, .int .i64 a0_9, .int .i64 a0_10, .int .i64 a0_11, .int .i64 a0_12, .int .i64 a0_13, .int .i64 a0_14] 25 (0, 0))) := ⟨by rw [← hq_]; exact (kz BK367.out)⟩; have n1_ : Aside0 (w25.heap[gb368]? = some (.cells #[.int .i64 0, .int .i64 0, .int .i64 0, .int .i64 0, .int .i64 0, .int .i64 0] 28 (0, 0))) := ⟨by rw [← hq_]; exact (kz BK368.out)⟩; have n2_ : Aside0 (Below w.heap.size w w25) := ⟨by rw [← hq_]; exact (kw HB.out)⟩; clear BK367 BK368 HB hq_; have BK367 := n0_; have BK368 := n1_; have HB := n2_; clear n0_ n1_ n2_)); have hcz28 := blkAll15 BK367.out; have hcz29 := blkAll6 BK368.out))
   refine bodyPost_ret (results_cell_row rfl _ _ gb368 28 #[.int .i64 1, .int .i64 t369, .int .i64 (wrap64 (a0_10 - t369)), .int .i64 a0_4, .int .i64 0, .int .i64 (wrap64 (a0_9 - (wrap64 (a0_10 - t369))))] (0, 0) _ rfl (by (with_reducible repeat (first | apply kb1 | apply kb2 | apply kb3 | apply blkPut6_5 | apply blkPut6_4 | apply blkPut6_3 | apply blkPut6_2 | apply blkPut6_1 | apply blkPut6_0)); exact BK368.out) Try.underlying28 rfl (by kernel_rfl)) rfl ?_
   exact ⟨by first | rfl | (simp [errW_none, errW_some] <;> rfl) | (simp [*, errW_none, errW_some] <;> rfl), by repeat (first | (with_reducible first | exact HB.out | apply kc1 | apply kc2 | apply kc3 | refine kc4 ?_ GE367.out | refine kc4 ?_ GE368.out) | exact HB.out)⟩

/-! ### trivetref13_Next_s: function 16, told plainly -/
theorem trivetref13_Next.tells (b r m f e i w fe g bal lvl du cnt sus late : Int) (h : M.may bal r ∧ 0 ≤ lvl ∧ lvl ≤ 20000000000000) : trivetref13_Next.f b r m f e i w fe g bal lvl du cnt sus late = some (1, M.month bal r, M.prin bal r lvl, e, 0, bal - M.prin bal r lvl) := by
 obtain ⟨h1, h2, h3⟩ := h
 have a := M.month_nonneg h1
 have c := M.month_le h1
 have d := h1.2.1
 have d0 := h1.1
 unfold trivetref13_Next.f M.prin
 rw [trivetref02_Month_s.yes h1, Option.bind_some, M.w64_id (n := lvl - M.month bal r) (by omega) (by omega)]
 by_cases c1 : lvl - M.month bal r < 0
 ·rw [if_pos c1, if_pos c1, if_neg (show ¬ 0 > bal by omega), Int.sub_zero, M.w64_id (n := bal) (by omega) (by omega)]
 ·rw [if_neg c1, if_neg c1]
  by_cases c2 : lvl - M.month bal r > bal
  ·rw [if_pos c2, if_pos c2, Int.sub_self]
  ·rw [if_neg c2, if_neg c2, M.w64_id (n := bal - (lvl - M.month bal r)) (by omega) (by omega)]
def trivetref13_Next_s.f (b r m f e i w fe g bal lvl du cnt sus late : Int) : Option (Int × Int × Int × Int × Int × Int) := if M.may bal r ∧ 0 ≤ lvl ∧ lvl ≤ 20000000000000 then some (1, M.month bal r, M.prin bal r lvl, e, 0, bal - M.prin bal r lvl) else none
theorem trivetref13_Next_s.calls (a0_0 : Int) (a0_1 : Int) (a0_2 : Int) (a0_3 : Int) (a0_4 : Int) (a0_5 : Int) (a0_6 : Int) (a0_7 : Int) (a0_8 : Int) (a0_9 : Int) (a0_10 : Int) (a0_11 : Int) (a0_12 : Int) (a0_13 : Int) (a0_14 : Int) (r1 : Int) (r2 : Int) (r3 : Int) (r4 : Int) (r5 : Int) (r6 : Int) (w : World) (h : trivetref13_Next_s.f a0_0 a0_1 a0_2 a0_3 a0_4 a0_5 a0_6 a0_7 a0_8 a0_9 a0_10 a0_11 a0_12 a0_13 a0_14 = some (r1, r2, r3, r4, r5, r6)) :
  Calls Try.prog 16 #[.agg #[.int .i64 a0_0, .int .i64 a0_1, .int .i64 a0_2, .int .i64 a0_3, .int .i64 a0_4, .int .i64 a0_5, .int .i64 a0_6, .int .i64 a0_7, .int .i64 a0_8, .int .i64 a0_9, .int .i64 a0_10, .int .i64 a0_11, .int .i64 a0_12, .int .i64 a0_13, .int .i64 a0_14]] w fun e w' => e = .returned (.agg #[.int .i64 r1, .int .i64 r2, .int .i64 r3, .int .i64 r4, .int .i64 r5, .int .i64 r6]) ∧ Below w.heap.size w w' := by
 unfold trivetref13_Next_s.f at h
 split at h
 ·rename_i hr
  exact trivetref13_Next.calls a0_0 a0_1 a0_2 a0_3 a0_4 a0_5 a0_6 a0_7 a0_8 a0_9 a0_10 a0_11 a0_12 a0_13 a0_14 r1 r2 r3 r4 r5 r6 w ((trivetref13_Next.tells a0_0 a0_1 a0_2 a0_3 a0_4 a0_5 a0_6 a0_7 a0_8 a0_9 a0_10 a0_11 a0_12 a0_13 a0_14 hr).trans h)
 ·cases h
theorem trivetref13_Next_s.yes {b r m f e i w fe g bal lvl du cnt sus late : Int} (h : M.may bal r ∧ 0 ≤ lvl ∧ lvl ≤ 20000000000000) : trivetref13_Next_s.f b r m f e i w fe g bal lvl du cnt sus late = some (1, M.month bal r, M.prin bal r lvl, e, 0, bal - M.prin bal r lvl) := by unfold trivetref13_Next_s.f; rw [if_pos h]

/-! ### trivetlaw13_WaterInstalments: function 6 -/
def trivetlaw13_WaterInstalments.f (a0_0 : Int) (a0_1 : Int) (a0_2 : Int) (a0_3 : Int) (a0_4 : Int) (a0_5 : Int) (a0_6 : Int) (a0_7 : Int) (a0_8 : Int) (a0_9 : Int) (a0_10 : Int) (a0_11 : Int) (a0_12 : Int) (a0_13 : Int) (a0_14 : Int) : Option (Bool) := (trivetlaw13_up_s.f).bind fun t371 => ((water_Instalment_s.f a0_0 a0_1 a0_2 a0_3 a0_4 a0_5 a0_6 a0_7 a0_8 a0_9 a0_10 a0_11 a0_12 a0_13 a0_14).bind fun bt372 => ((trivetref13_May_s.f a0_0 a0_1 a0_2 a0_3 a0_4 a0_5 a0_6 a0_7 a0_8 a0_9 a0_10 a0_11 a0_12 a0_13 a0_14).bind fun t380 => (if t380 = true then (if a0_9 = 0 then (if t371 = true then (if bt372.2.2.2.2.2.2.isNone = true then (none) else (if (bt372.2.2.2.2.2.2.getD 0) = 7 then (some (bt372.1 == 0 && (bt372.2.1 == 0 && (bt372.2.2.1 == 0 && (bt372.2.2.2.1 == 0 && (bt372.2.2.2.2.1 == 0 && (bt372.2.2.2.2.2.1 == 0))))))) else (none))) else (none)) else (if t371 = true then (if bt372.2.2.2.2.2.2.isNone = true then ((trivetref13_Next_s.f a0_0 a0_1 a0_2 a0_3 a0_4 a0_5 a0_6 a0_7 a0_8 a0_9 a0_10 a0_11 a0_12 a0_13 a0_14).bind fun bt383 => (some (bt372.1 == bt383.1 && (bt372.2.1 == bt383.2.1 && (bt372.2.2.1 == bt383.2.2.1 && (bt372.2.2.2.1 == bt383.2.2.2.1 && (bt372.2.2.2.2.1 == bt383.2.2.2.2.1 && (bt372.2.2.2.2.2.1 == bt383.2.2.2.2.2)))))))) else (none)) else (none))) else (if t371 = true then (if bt372.2.2.2.2.2.2.isNone = true then (none) else (if (bt372.2.2.2.2.2.2.getD 0) = 1 then (some (bt372.1 == 0 && (bt372.2.1 == 0 && (bt372.2.2.1 == 0 && (bt372.2.2.2.1 == 0 && (bt372.2.2.2.2.1 == 0 && (bt372.2.2.2.2.2.1 == 0))))))) else (none))) else (none)))))
def trivetlaw13_WaterInstalments.T8 : Bool × List (List Nat × List Nat) := (true, [([], []), ([0], [0]), ([1], [1]), ([2, 1], [1, 2]), ([1, 3], [1, 3]), ([4, 1], [4]), ([5], [5]), ([5], [5]), ([7, 5, 5], [5, 7]), ([6, 8, 5], [5, 6, 8]), ([5, 9], [5, 9]), ([10, 8, 0, 1, 2, 3, 4, 5, 6, 7, 8, 9, 10], [10])])
def trivetlaw13_WaterInstalments.B8 : List Nat := [0, 1, 3, 7, 15, 31, 63, 63, 191, 511, 1023, 2047]
theorem trivetlaw13_WaterInstalments.tab8 : rtab .any (opsOf Try.f6 8) = trivetlaw13_WaterInstalments.T8 := by kernel_rfl
theorem trivetlaw13_WaterInstalments.bits8 : waitsOk trivetlaw13_WaterInstalments.T8.2 trivetlaw13_WaterInstalments.B8 = true := by kernel_rfl
set_option maxHeartbeats 8000000 in
set_option maxRecDepth 100000 in
theorem trivetlaw13_WaterInstalments.calls (a0_0 : Int) (a0_1 : Int) (a0_2 : Int) (a0_3 : Int) (a0_4 : Int) (a0_5 : Int) (a0_6 : Int) (a0_7 : Int) (a0_8 : Int) (a0_9 : Int) (a0_10 : Int) (a0_11 : Int) (a0_12 : Int) (a0_13 : Int) (a0_14 : Int) (r : Bool) (w : World) (h : trivetlaw13_WaterInstalments.f a0_0 a0_1 a0_2 a0_3 a0_4 a0_5 a0_6 a0_7 a0_8 a0_9 a0_10 a0_11 a0_12 a0_13 a0_14 = some r) :
  Calls Try.prog 6 #[.agg #[.int .i64 a0_0, .int .i64 a0_1, .int .i64 a0_2, .int .i64 a0_3, .int .i64 a0_4, .int .i64 a0_5, .int .i64 a0_6, .int .i64 a0_7, .int .i64 a0_8, .int .i64 a0_9, .int .i64 a0_10, .int .i64 a0_11, .int .i64 a0_12, .int .i64 a0_13, .int .i64 a0_14]] w fun e w' => e = .returned (.bool r) ∧ Below w.heap.size w w' := by
 have hu25 := Try.underlying25
 have hu28 := Try.underlying28
 have hu30 := Try.underlying30
 have hu34 := Try.underlying34
 have HB := ka (Below.refl w.heap.size w)
 have H : ((trivetlaw13_up_s.f).bind fun t371 => ((water_Instalment_s.f a0_0 a0_1 a0_2 a0_3 a0_4 a0_5 a0_6 a0_7 a0_8 a0_9 a0_10 a0_11 a0_12 a0_13 a0_14).bind fun bt372 => ((trivetref13_May_s.f a0_0 a0_1 a0_2 a0_3 a0_4 a0_5 a0_6 a0_7 a0_8 a0_9 a0_10 a0_11 a0_12 a0_13 a0_14).bind fun t380 => (if t380 = true then (if a0_9 = 0 then (if t371 = true then (if bt372.2.2.2.2.2.2.isNone = true then (none) else (if (bt372.2.2.2.2.2.2.getD 0) = 7 then (some (bt372.1 == 0 && (bt372.2.1 == 0 && (bt372.2.2.1 == 0 && (bt372.2.2.2.1 == 0 && (bt372.2.2.2.2.1 == 0 && (bt372.2.2.2.2.2.1 == 0))))))) else (none))) else (none)) else (if t371 = true then (if bt372.2.2.2.2.2.2.isNone = true then ((trivetref13_Next_s.f a0_0 a0_1 a0_2 a0_3 a0_4 a0_5 a0_6 a0_7 a0_8 a0_9 a0_10 a0_11 a0_12 a0_13 a0_14).bind fun bt383 => (some (bt372.1 == bt383.1 && (bt372.2.1 == bt383.2.1 && (bt372.2.2.1 == bt383.2.2.1 && (bt372.2.2.2.1 == bt383.2.2.2.1 && (bt372.2.2.2.2.1 == bt383.2.2.2.2.1 && (bt372.2.2.2.2.2.1 == bt383.2.2.2.2.2)))))))) else (none)) else (none))) else (if t371 = true then (if bt372.2.2.2.2.2.2.isNone = true then (none) else (if (bt372.2.2.2.2.2.2.getD 0) = 1 then (some (bt372.1 == 0 && (bt372.2.1 == 0 && (bt372.2.2.1 == 0 && (bt372.2.2.2.1 == 0 && (bt372.2.2.2.2.1 == 0 && (bt372.2.2.2.2.2.1 == 0))))))) else (none))) else (none)))))) = some r := h
 clear h
 replace H := Option.bind_eq_some_iff.mp H
 obtain ⟨t371, A20, H⟩ := H
 replace H : ((water_Instalment_s.f a0_0 a0_1 a0_2 a0_3 a0_4 a0_5 a0_6 a0_7 a0_8 a0_9 a0_10 a0_11 a0_12 a0_13 a0_14).bind fun bt372 => ((trivetref13_May_s.f a0_0 a0_1 a0_2 a0_3 a0_4 a0_5 a0_6 a0_7 a0_8 a0_9 a0_10 a0_11 a0_12 a0_13 a0_14).bind fun t380 => (if t380 = true then (if a0_9 = 0 then (if t371 = true then (if bt372.2.2.2.2.2.2.isNone = true then (none) else (if (bt372.2.2.2.2.2.2.getD 0) = 7 then (some (bt372.1 == 0 && (bt372.2.1 == 0 && (bt372.2.2.1 == 0 && (bt372.2.2.2.1 == 0 && (bt372.2.2.2.2.1 == 0 && (bt372.2.2.2.2.2.1 == 0))))))) else (none))) else (none)) else (if t371 = true then (if bt372.2.2.2.2.2.2.isNone = true then ((trivetref13_Next_s.f a0_0 a0_1 a0_2 a0_3 a0_4 a0_5 a0_6 a0_7 a0_8 a0_9 a0_10 a0_11 a0_12 a0_13 a0_14).bind fun bt383 => (some (bt372.1 == bt383.1 && (bt372.2.1 == bt383.2.1 && (bt372.2.2.1 == bt383.2.2.1 && (bt372.2.2.2.1 == bt383.2.2.2.1 && (bt372.2.2.2.2.1 == bt383.2.2.2.2.1 && (bt372.2.2.2.2.2.1 == bt383.2.2.2.2.2)))))))) else (none)) else (none))) else (if t371 = true then (if bt372.2.2.2.2.2.2.isNone = true then (none) else (if (bt372.2.2.2.2.2.2.getD 0) = 1 then (some (bt372.1 == 0 && (bt372.2.1 == 0 && (bt372.2.2.1 == 0 && (bt372.2.2.2.1 == 0 && (bt372.2.2.2.2.1 == 0 && (bt372.2.2.2.2.2.1 == 0))))))) else (none))) else (none))))) = some r := H
 have A2 := ka A20
 clear A20
 replace H := Option.bind_eq_some_iff.mp H
 obtain ⟨⟨t372, t373, t374, t375, t376, t377, t378⟩, A30, H⟩ := H
 replace H : ((trivetref13_May_s.f a0_0 a0_1 a0_2 a0_3 a0_4 a0_5 a0_6 a0_7 a0_8 a0_9 a0_10 a0_11 a0_12 a0_13 a0_14).bind fun t380 => (if t380 = true then (if a0_9 = 0 then (if t371 = true then (if t378.isNone = true then (none) else (if (t378.getD 0) = 7 then (some (t372 == 0 && (t373 == 0 && (t374 == 0 && (t375 == 0 && (t376 == 0 && (t377 == 0))))))) else (none))) else (none)) else (if t371 = true then (if t378.isNone = true then ((trivetref13_Next_s.f a0_0 a0_1 a0_2 a0_3 a0_4 a0_5 a0_6 a0_7 a0_8 a0_9 a0_10 a0_11 a0_12 a0_13 a0_14).bind fun bt383 => (some (t372 == bt383.1 && (t373 == bt383.2.1 && (t374 == bt383.2.2.1 && (t375 == bt383.2.2.2.1 && (t376 == bt383.2.2.2.2.1 && (t377 == bt383.2.2.2.2.2)))))))) else (none)) else (none))) else (if t371 = true then (if t378.isNone = true then (none) else (if (t378.getD 0) = 1 then (some (t372 == 0 && (t373 == 0 && (t374 == 0 && (t375 == 0 && (t376 == 0 && (t377 == 0))))))) else (none))) else (none)))) = some r := H
 have A3 := ka A30
 clear A30
 replace H := Option.bind_eq_some_iff.mp H
 obtain ⟨t380, A40, H⟩ := H
 replace H : (if t380 = true then (if a0_9 = 0 then (if t371 = true then (if t378.isNone = true then (none) else (if (t378.getD 0) = 7 then (some (t372 == 0 && (t373 == 0 && (t374 == 0 && (t375 == 0 && (t376 == 0 && (t377 == 0))))))) else (none))) else (none)) else (if t371 = true then (if t378.isNone = true then ((trivetref13_Next_s.f a0_0 a0_1 a0_2 a0_3 a0_4 a0_5 a0_6 a0_7 a0_8 a0_9 a0_10 a0_11 a0_12 a0_13 a0_14).bind fun bt383 => (some (t372 == bt383.1 && (t373 == bt383.2.1 && (t374 == bt383.2.2.1 && (t375 == bt383.2.2.2.1 && (t376 == bt383.2.2.2.2.1 && (t377 == bt383.2.2.2.2.2)))))))) else (none)) else (none))) else (if t371 = true then (if t378.isNone = true then (none) else (if (t378.getD 0) = 1 then (some (t372 == 0 && (t373 == 0 && (t374 == 0 && (t375 == 0 && (t376 == 0 && (t377 == 0))))))) else (none))) else (none))) = some r := H
 have A4 := ka A40
 clear A40
 by_cases c5 : t380 = true
 ·subst c5
  have H1 : (if a0_9 = 0 then (if t371 = true then (if t378.isNone = true then (none) else (if (t378.getD 0) = 7 then (some (t372 == 0 && (t373 == 0 && (t374 == 0 && (t375 == 0 && (t376 == 0 && (t377 == 0))))))) else (none))) else (none)) else (if t371 = true then (if t378.isNone = true then ((trivetref13_Next_s.f a0_0 a0_1 a0_2 a0_3 a0_4 a0_5 a0_6 a0_7 a0_8 a0_9 a0_10 a0_11 a0_12 a0_13 a0_14).bind fun bt383 => (some (t372 == bt383.1 && (t373 == bt383.2.1 && (t374 == bt383.2.2.1 && (t375 == bt383.2.2.2.1 && (t376 == bt383.2.2.2.2.1 && (t377 == bt383.2.2.2.2.2)))))))) else (none)) else (none))) = some r := by rw [if_pos rfl] at H; exact H
  clear H
  have H := H1
  clear H1
  by_cases c6 : a0_9 = 0
  ·rw [if_pos c6] at H
   have c6b0 : (a0_9 == 0) = true := beq_iff_eq.mpr c6
   have c6b1 : (a0_9 != 0) = false := bne_eq_false_iff_eq.mpr c6
   clear c6
   by_cases c7 : t371 = true
   ·subst c7
    have H1 : (if t378.isNone = true then (none) else (if (t378.getD 0) = 7 then (some (t372 == 0 && (t373 == 0 && (t374 == 0 && (t375 == 0 && (t376 == 0 && (t377 == 0))))))) else (none))) = some r := by rw [if_pos rfl] at H; exact H
    clear H
    have H := H1
    clear H1
    rcases t378 with _ | q381
    ·have H1 : (none) = some r := by rw [if_pos (show (none : Option Int).isNone = true by rfl)] at H; exact H
     clear H
     have H := H1
     clear H1
     try simp only [errW_none, errW_some]
     exact absurd H (by simp)
    ·have H1 : (if q381 = 7 then (some (t372 == 0 && (t373 == 0 && (t374 == 0 && (t375 == 0 && (t376 == 0 && (t377 == 0))))))) else (none)) = some r := by rw [if_neg (show ¬ (some q381).isNone = true by simp)] at H; exact H
     clear H
     have H := H1
     clear H1
     try simp only [errW_none, errW_some]
     by_cases c8 : q381 = 7
     ·rw [if_pos c8] at H
      have c8b0 : (q381 == 7) = true := beq_iff_eq.mpr c8
      have c8b1 : (q381 != 7) = false := bne_eq_false_iff_eq.mpr c8
      clear c8
      obtain rfl := Option.some.inj H
      go_enter Try.func6, Try.ntmps6
      go_wp2_with (first | ((with_reducible refine gate_dst (N := 1) rfl ?_); refine kx (N := 1) (cs := #[.int .i64 a0_0, .int .i64 a0_1, .int .i64 a0_2, .int .i64 a0_3, .int .i64 a0_4, .int .i64 a0_5, .int .i64 a0_6, .int .i64 a0_7, .int .i64 a0_8, .int .i64 a0_9, .int .i64 a0_10, .int .i64 a0_11, .int .i64 a0_12, .int .i64 a0_13, .int .i64 a0_14]) (t := 25) ?_; intro gb370 hg w9 hbox hb; have n0_ := ka (below_step (kw HB.out) hb); have n1_ := ka (hbox); have n2_ := ka ((by rw [hg]; exact (below_size (kw HB.out)) : w.heap.size ≤ gb370)); have n3_ := n2_; clear HB; have HB := n0_; have BK370 := n1_; have GW370 := n2_; have GE370 := n3_; clear n0_ n1_ n2_ n3_; clear hb hbox hg) | ((with_reducible refine gate_callee (f := 10) rfl ?_); refine kg (some 7) rfl rfl Try.func10 (by kernel_rfl) rfl #[] rfl ?_; (with_reducible refine (trivetlaw13_up_s.calls  true _ A2.out).mono ?_); rintro e w10 ⟨rfl, hb⟩; refine ⟨_, rfl, ?_⟩; have n0_ := ka (blk_below (g := gb370) (kz BK370.out) hb); have n1_ := ka (below_step (kw HB.out) hb); clear BK370; clear HB; have BK370 := n0_; have HB := n1_; clear n0_ n1_; (try clear hb); (try clear hb2); (try clear hk); (try clear hi); have hcz11 := blkAll15 BK370.out) | ((with_reducible refine gate_callee (f := 14) rfl ?_); refine kg (some 10) rfl rfl Try.func14 (by kernel_rfl) rfl #[.agg #[.int .i64 a0_0, .int .i64 a0_1, .int .i64 a0_2, .int .i64 a0_3, .int .i64 a0_4, .int .i64 a0_5, .int .i64 a0_6, .int .i64 a0_7, .int .i64 a0_8, .int .i64 a0_9, .int .i64 a0_10, .int .i64 a0_11, .int .i64 a0_12, .int .i64 a0_13, .int .i64 a0_14]] rfl ?_; (with_reducible refine (water_Instalment_s.calls a0_0 a0_1 a0_2 a0_3 a0_4 a0_5 a0_6 a0_7 a0_8 a0_9 a0_10 a0_11 a0_12 a0_13 a0_14 t372 t373 t374 t375 t376 t377 (some q381) _ A3.out).mono ?_); rintro e w12 ⟨rfl, hb⟩; refine ⟨_, rfl, ?_⟩; have n0_ := ka (blk_below (g := gb370) (kz BK370.out) hb); have n1_ := ka (below_step (kw HB.out) hb); clear BK370; clear HB; have BK370 := n0_; have HB := n1_; clear n0_ n1_; (try clear hb); (try clear hb2); (try clear hk); (try clear hi); (try simp only [errW_none, errW_some])) | ((with_reducible refine gate_dst (N := 4) rfl ?_); refine kx (N := 4) (cs := #[.int .i64 0, .int .i64 0, .int .i64 0, .int .i64 0, .int .i64 0, .int .i64 0]) (t := 28) ?_; intro gb379 hg w13 hbox hb; have n0_ := ka (blk_below (g := gb370) (kz BK370.out) hb); have n1_ := ka (below_step (kw HB.out) hb); have n2_ := ka (hbox); have n3_ := ka ((by rw [hg]; exact (below_size (kw HB.out)) : w.heap.size ≤ gb379)); have n4_ := n3_; have n5_ := ka ((by rw [hg]; exact Nat.ne_of_lt (blk_lt (g := gb370) (kz BK370.out)) : gb370 ≠ gb379)); have n6_ := ka n5_.out.symm; clear BK370; clear HB; have BK370 := n0_; have HB := n1_; have BK379 := n2_; have GW379 := n3_; have GE379 := n4_; have NB370_379 := n5_; have NB379_370 := n6_; clear n0_ n1_ n2_ n3_ n4_ n5_ n6_; clear hb hbox hg; have hnb14 := NB379_370.out; have hnc14 := NB370_379.out; have hcz15 := blkAll6 BK379.out; have hcz16 := blkAll15 BK370.out) | ((with_reducible refine gate_callee (f := 15) rfl ?_); refine kg (some 14) rfl rfl Try.func15 (by kernel_rfl) rfl #[.agg #[.int .i64 a0_0, .int .i64 a0_1, .int .i64 a0_2, .int .i64 a0_3, .int .i64 a0_4, .int .i64 a0_5, .int .i64 a0_6, .int .i64 a0_7, .int .i64 a0_8, .int .i64 a0_9, .int .i64 a0_10, .int .i64 a0_11, .int .i64 a0_12, .int .i64 a0_13, .int .i64 a0_14]] rfl ?_; (with_reducible refine (trivetref13_May_s.calls a0_0 a0_1 a0_2 a0_3 a0_4 a0_5 a0_6 a0_7 a0_8 a0_9 a0_10 a0_11 a0_12 a0_13 a0_14 true _ A4.out).mono ?_); rintro e w17 ⟨rfl, hb⟩; refine ⟨_, rfl, ?_⟩; have n0_ := ka (blk_below (g := gb370) (o := .cells #[.int .i64 a0_0, .int .i64 a0_1, .int .i64 a0_2, .int .i64 a0_3, .int .i64 a0_4, .int .i64 a0_5, .int .i64 a0_6, .int .i64 a0_7, .int .i64 a0_8, .int .i64 a0_9, .int .i64 a0_10, .int .i64 a0_11, .int .i64 a0_12, .int .i64 a0_13, .int .i64 a0_14] 25 (0, 0)) (by (with_reducible repeat (first | apply kb1 | apply kb2 | apply kb3 | refine kb4 ?_ NB370_379.out _)); exact BK370.out) hb); have n1_ := ka (blk_below (g := gb379) (o := .cells #[.int .i64 t372, .int .i64 t373, .int .i64 t374, .int .i64 t375, .int .i64 t376, .int .i64 t377] 28 (0, 0)) (by (with_reducible repeat (first | apply kb1 | apply kb2 | apply kb3 | apply blkPut6_5 | apply blkPut6_4 | apply blkPut6_3 | apply blkPut6_2 | apply blkPut6_1 | apply blkPut6_0)); exact BK379.out) hb); have n2_ := ka (below_step (kw HB.out) hb); clear BK370; clear BK379; clear HB; have BK370 := n0_; have BK379 := n1_; have HB := n2_; clear n0_ n1_ n2_; (try clear hb); (try clear hb2); (try clear hk); (try clear hi); have hcz18 := blkAll15 BK370.out; have hcz19 := blkAll6 BK379.out) | ((with_reducible refine gate_load (T := 25) rfl ?_); first | refine load_event (g := gb370) rfl rfl rfl Try.underlying25 rfl (by (with_reducible repeat (first | apply kb1 | apply kb2 | apply kb3)); with_reducible exact BK370.out) (by kernel_rfl) ?_))
      go_ret
      exact ⟨by first | rfl | (simp [errW_none, errW_some] <;> rfl) | (simp [*, errW_none, errW_some] <;> rfl), by repeat (first | (with_reducible first | exact HB.out | apply kc1 | apply kc2 | apply kc3 | refine kc4 ?_ GE370.out | refine kc4 ?_ GE379.out) | exact HB.out)⟩
     ·rw [if_neg c8] at H
      exact absurd H (by simp)
   ·replace c7 := Bool.eq_false_iff.mpr c7
    subst c7
    have H1 : (none) = some r := by rw [if_neg (show ¬ (false = true) by decide)] at H; exact H
    clear H
    have H := H1
    clear H1
    exact absurd H (by simp)
  ·rw [if_neg c6] at H
   have c6b0 : (a0_9 == 0) = false := beq_eq_false_iff_ne.mpr c6
   have c6b1 : (a0_9 != 0) = true := bne_iff_ne.mpr c6
   by_cases c20 : t371 = true
   ·subst c20
    have H1 : (if t378.isNone = true then ((trivetref13_Next_s.f a0_0 a0_1 a0_2 a0_3 a0_4 a0_5 a0_6 a0_7 a0_8 a0_9 a0_10 a0_11 a0_12 a0_13 a0_14).bind fun bt383 => (some (t372 == bt383.1 && (t373 == bt383.2.1 && (t374 == bt383.2.2.1 && (t375 == bt383.2.2.2.1 && (t376 == bt383.2.2.2.2.1 && (t377 == bt383.2.2.2.2.2)))))))) else (none)) = some r := by rw [if_pos rfl] at H; exact H
    clear H
    have H := H1
    clear H1
    rcases t378 with _ | q382
    ·have H1 : ((trivetref13_Next_s.f a0_0 a0_1 a0_2 a0_3 a0_4 a0_5 a0_6 a0_7 a0_8 a0_9 a0_10 a0_11 a0_12 a0_13 a0_14).bind fun bt383 => (some (t372 == bt383.1 && (t373 == bt383.2.1 && (t374 == bt383.2.2.1 && (t375 == bt383.2.2.2.1 && (t376 == bt383.2.2.2.2.1 && (t377 == bt383.2.2.2.2.2)))))))) = some r := by rw [if_pos (show (none : Option Int).isNone = true by rfl)] at H; exact H
     clear H
     have H := H1
     clear H1
     try simp only [errW_none, errW_some]
     replace H := Option.bind_eq_some_iff.mp H
     obtain ⟨⟨t383, t384, t385, t386, t387, t388⟩, A210, H⟩ := H
     replace H : (some (t372 == t383 && (t373 == t384 && (t374 == t385 && (t375 == t386 && (t376 == t387 && (t377 == t388))))))) = some r := H
     have A21 := ka A210
     clear A210
     obtain rfl := Option.some.inj H
     go_enter Try.func6, Try.ntmps6
     try go_wp2_with (first | ((with_reducible refine gate_dst (N := 1) rfl ?_); refine kx (N := 1) (cs := #[.int .i64 a0_0, .int .i64 a0_1, .int .i64 a0_2, .int .i64 a0_3, .int .i64 a0_4, .int .i64 a0_5, .int .i64 a0_6, .int .i64 a0_7, .int .i64 a0_8, .int .i64 a0_9, .int .i64 a0_10, .int .i64 a0_11, .int .i64 a0_12, .int .i64 a0_13, .int .i64 a0_14]) (t := 25) ?_; intro gb370 hg w22 hbox hb; have n0_ := ka (below_step (kw HB.out) hb); have n1_ := ka (hbox); have n2_ := ka ((by rw [hg]; exact (below_size (kw HB.out)) : w.heap.size ≤ gb370)); have n3_ := n2_; clear HB; have HB := n0_; have BK370 := n1_; have GW370 := n2_; have GE370 := n3_; clear n0_ n1_ n2_ n3_; clear hb hbox hg) | ((with_reducible refine gate_callee (f := 10) rfl ?_); refine kg (some 7) rfl rfl Try.func10 (by kernel_rfl) rfl #[] rfl ?_; (with_reducible refine (trivetlaw13_up_s.calls  true _ A2.out).mono ?_); rintro e w23 ⟨rfl, hb⟩; refine ⟨_, rfl, ?_⟩; have n0_ := ka (blk_below (g := gb370) (kz BK370.out) hb); have n1_ := ka (below_step (kw HB.out) hb); clear BK370; clear HB; have BK370 := n0_; have HB := n1_; clear n0_ n1_; (try clear hb); (try clear hb2); (try clear hk); (try clear hi); have hcz24 := blkAll15 BK370.out) | ((with_reducible refine gate_callee (f := 14) rfl ?_); refine kg (some 10) rfl rfl Try.func14 (by kernel_rfl) rfl #[.agg #[.int .i64 a0_0, .int .i64 a0_1, .int .i64 a0_2, .int .i64 a0_3, .int .i64 a0_4, .int .i64 a0_5, .int .i64 a0_6, .int .i64 a0_7, .int .i64 a0_8, .int .i64 a0_9, .int .i64 a0_10, .int .i64 a0_11, .int .i64 a0_12, .int .i64 a0_13, .int .i64 a0_14]] rfl ?_; (with_reducible refine (water_Instalment_s.calls a0_0 a0_1 a0_2 a0_3 a0_4 a0_5 a0_6 a0_7 a0_8 a0_9 a0_10 a0_11 a0_12 a0_13 a0_14 t372 t373 t374 t375 t376 t377 none _ A3.out).mono ?_); rintro e w25 ⟨rfl, hb⟩; refine ⟨_, rfl, ?_⟩; have n0_ := ka (blk_below (g := gb370) (kz BK370.out) hb); have n1_ := ka (below_step (kw HB.out) hb); clear BK370; clear HB; have BK370 := n0_; have HB := n1_; clear n0_ n1_; (try clear hb); (try clear hb2); (try clear hk); (try clear hi); (try simp only [errW_none, errW_some])) | ((with_reducible refine gate_dst (N := 4) rfl ?_); refine kx (N := 4) (cs := #[.int .i64 0, .int .i64 0, .int .i64 0, .int .i64 0, .int .i64 0, .int .i64 0]) (t := 28) ?_; intro gb379 hg w26 hbox hb; have n0_ := ka (blk_below (g := gb370) (kz BK370.out) hb); have n1_ := ka (below_step (kw HB.out) hb); have n2_ := ka (hbox); have n3_ := ka ((by rw [hg]; exact (below_size (kw HB.out)) : w.heap.size ≤ gb379)); have n4_ := n3_; have n5_ := ka ((by rw [hg]; exact Nat.ne_of_lt (blk_lt (g := gb370) (kz BK370.out)) : gb370 ≠ gb379)); have n6_ := ka n5_.out.symm; clear BK370; clear HB; have BK370 := n0_; have HB := n1_; have BK379 := n2_; have GW379 := n3_; have GE379 := n4_; have NB370_379 := n5_; have NB379_370 := n6_; clear n0_ n1_ n2_ n3_ n4_ n5_ n6_; clear hb hbox hg; have hnb27 := NB379_370.out; have hnc27 := NB370_379.out; have hcz28 := blkAll6 BK379.out; have hcz29 := blkAll15 BK370.out) | ((with_reducible refine gate_callee (f := 15) rfl ?_); refine kg (some 14) rfl rfl Try.func15 (by kernel_rfl) rfl #[.agg #[.int .i64 a0_0, .int .i64 a0_1, .int .i64 a0_2, .int .i64 a0_3, .int .i64 a0_4, .int .i64 a0_5, .int .i64 a0_6, .int .i64 a0_7, .int .i64 a0_8, .int .i64 a0_9, .int .i64 a0_10, .int .i64 a0_11, .int .i64 a0_12, .int .i64 a0_13, .int .i64 a0_14]] rfl ?_; (with_reducible refine (trivetref13_May_s.calls a0_0 a0_1 a0_2 a0_3 a0_4 a0_5 a0_6 a0_7 a0_8 a0_9 a0_10 a0_11 a0_12 a0_13 a0_14 true _ A4.out).mono ?_); rintro e w30 ⟨rfl, hb⟩; refine ⟨_, rfl, ?_⟩; have n0_ := ka (blk_below (g := gb370) (o := .cells #[.int .i64 a0_0, .int .i64 a0_1, .int .i64 a0_2, .int .i64 a0_3, .int .i64 a0_4, .int .i64 a0_5, .int .i64 a0_6, .int .i64 a0_7, .int .i64 a0_8, .int .i64 a0_9, .int .i64 a0_10, .int .i64 a0_11, .int .i64 a0_12, .int .i64 a0_13, .int .i64 a0_14] 25 (0, 0)) (by (with_reducible repeat (first | apply kb1 | apply kb2 | apply kb3 | refine kb4 ?_ NB370_379.out _)); exact BK370.out) hb); have n1_ := ka (blk_below (g := gb379) (o := .cells #[.int .i64 t372, .int .i64 t373, .int .i64 t374, .int .i64 t375, .int .i64 t376, .int .i64 t377] 28 (0, 0)) (by (with_reducible repeat (first | apply kb1 | apply kb2 | apply kb3 | apply blkPut6_5 | apply blkPut6_4 | apply blkPut6_3 | apply blkPut6_2 | apply blkPut6_1 | apply blkPut6_0)); exact BK379.out) hb); have n2_ := ka (below_step (kw HB.out) hb); clear BK370; clear BK379; clear HB; have BK370 := n0_; have BK379 := n1_; have HB := n2_; clear n0_ n1_ n2_; (try clear hb); (try clear hb2); (try clear hk); (try clear hi); have hcz31 := blkAll15 BK370.out))
     have n0_ := ka (blk_drew BK370.out)
     have n1_ := ka (blk_drew BK379.out)
     have n2_ := ka (below_drew1 HB.out)
     clear BK370
     clear BK379
     clear HB
     have BK370 := n0_
     have BK379 := n1_
     have HB := n2_
     clear n0_ n1_ n2_
     refine start_ (n := 12) (S := fun w' => w'.cell? ⟨gb379, 0, none⟩ = some (.int .i64 t372) ∧ w'.cell? ⟨gb379, 1, none⟩ = some (.int .i64 t373) ∧ w'.cell? ⟨gb379, 2, none⟩ = some (.int .i64 t374) ∧ w'.cell? ⟨gb379, 3, none⟩ = some (.int .i64 t375) ∧ w'.cell? ⟨gb379, 4, none⟩ = some (.int .i64 t376) ∧ w'.cell? ⟨gb379, 5, none⟩ = some (.int .i64 t377) ∧ w'.cell? ⟨gb370, 0, none⟩ = some (.int .i64 a0_0) ∧ w'.cell? ⟨gb370, 1, none⟩ = some (.int .i64 a0_1) ∧ w'.cell? ⟨gb370, 2, none⟩ = some (.int .i64 a0_2) ∧ w'.cell? ⟨gb370, 3, none⟩ = some (.int .i64 a0_3) ∧ w'.cell? ⟨gb370, 4, none⟩ = some (.int .i64 a0_4) ∧ w'.cell? ⟨gb370, 5, none⟩ = some (.int .i64 a0_5) ∧ w'.cell? ⟨gb370, 6, none⟩ = some (.int .i64 a0_6) ∧ w'.cell? ⟨gb370, 7, none⟩ = some (.int .i64 a0_7) ∧ w'.cell? ⟨gb370, 8, none⟩ = some (.int .i64 a0_8) ∧ w'.cell? ⟨gb370, 9, none⟩ = some (.int .i64 a0_9) ∧ w'.cell? ⟨gb370, 10, none⟩ = some (.int .i64 a0_10) ∧ w'.cell? ⟨gb370, 11, none⟩ = some (.int .i64 a0_11) ∧ w'.cell? ⟨gb370, 12, none⟩ = some (.int .i64 a0_12) ∧ w'.cell? ⟨gb370, 13, none⟩ = some (.int .i64 a0_13) ∧ w'.cell? ⟨gb370, 14, none⟩ = some (.int .i64 a0_14)) (ds := []) #[false, false, false, false, false, false, false, false, false, false, false, false] (by kernel_rfl) rfl rfl ⟨(blk_cell BK379.out 0).trans rfl, (blk_cell BK379.out 1).trans rfl, (blk_cell BK379.out 2).trans rfl, (blk_cell BK379.out 3).trans rfl, (blk_cell BK379.out 4).trans rfl, (blk_cell BK379.out 5).trans rfl, (blk_cell BK370.out 0).trans rfl, (blk_cell BK370.out 1).trans rfl, (blk_cell BK370.out 2).trans rfl, (blk_cell BK370.out 3).trans rfl, (blk_cell BK370.out 4).trans rfl, (blk_cell BK370.out 5).trans rfl, (blk_cell BK370.out 6).trans rfl, (blk_cell BK370.out 7).trans rfl, (blk_cell BK370.out 8).trans rfl, (blk_cell BK370.out 9).trans rfl, (blk_cell BK370.out 10).trans rfl, (blk_cell BK370.out 11).trans rfl, (blk_cell BK370.out 12).trans rfl, (blk_cell BK370.out 13).trans rfl, (blk_cell BK370.out 14).trans rfl⟩ (fun hHeld => ?_); refine with_tabW trivetlaw13_WaterInstalments.tab8 trivetlaw13_WaterInstalments.bits8 (fun HT_ HW_ => ?_)
     generalize w30.drew = w32 at BK370 BK379 HB hHeld ⊢
     refine pure_ (i := 0) (N := some 42) (v := ?_) (a' := ?_) #[true, false, false, false, false, false, false, false, false, false, false, false] rfl rfl (any_of HT_.out (by kernel_rfl)) (fun _ _ _ h => h) (Or.inl ⟨by rfl, ?_⟩) ?_ ?_
     rotate_left
     ·intro w'
      go_simp
      with_reducible rfl
     rotate_left
     ·simp only [Act.put, List.setIfInBounds_toArray, List.set_cons_zero, List.set_cons_succ, i64_w, i32_w]
      rfl
     refine pure_ (i := 1) (N := some 43) (v := ?_) (a' := ?_) #[true, true, false, false, false, false, false, false, false, false, false, false] rfl rfl (any_of HT_.out (by kernel_rfl)) (fun _ _ _ h => h) (Or.inl ⟨by rfl, ?_⟩) ?_ ?_
     rotate_left
     ·intro w'
      go_simp
      with_reducible rfl
     rotate_left
     ·simp only [Act.put, List.setIfInBounds_toArray, List.set_cons_zero, List.set_cons_succ, i64_w, i32_w]
      rfl
     refine pure_ (i := 2) (N := some 44) (v := ?_) (a' := ?_) #[true, true, true, false, false, false, false, false, false, false, false, false] rfl rfl (any_of HT_.out (by kernel_rfl)) (fun _ _ _ h => h) (Or.inl ⟨by rfl, ?_⟩) ?_ ?_
     rotate_left
     ·intro w'
      go_simp
      with_reducible rfl
     rotate_left
     ·simp only [Act.put, List.setIfInBounds_toArray, List.set_cons_zero, List.set_cons_succ, i64_w, i32_w]
      rfl
     refine pure_ (i := 3) (N := some 45) (v := ?_) (a' := ?_) #[true, true, true, true, false, false, false, false, false, false, false, false] rfl rfl (any_of HT_.out (by kernel_rfl)) (fun _ _ _ h => h) (Or.inl ⟨by rfl, ?_⟩) ?_ ?_
     rotate_left
     ·intro w'
      go_simp
      with_reducible rfl
     rotate_left
     ·simp only [Act.put, List.setIfInBounds_toArray, List.set_cons_zero, List.set_cons_succ, i64_w, i32_w]
      rfl
     refine pure_ (i := 4) (N := some 46) (v := ?_) (a' := ?_) #[true, true, true, true, true, false, false, false, false, false, false, false] rfl rfl (any_of HT_.out (by kernel_rfl)) (fun _ _ _ h => h) (Or.inl ⟨by rfl, ?_⟩) ?_ ?_
     rotate_left
     ·intro w'
      go_simp
      with_reducible rfl
     rotate_left
     ·simp only [Act.put, List.setIfInBounds_toArray, List.set_cons_zero, List.set_cons_succ, i64_w, i32_w]
      rfl
     refine pure_ (i := 5) (N := some 47) (v := ?_) (a' := ?_) #[true, true, true, true, true, true, false, false, false, false, false, false] rfl rfl (any_of HT_.out (by kernel_rfl)) (fun _ _ _ h => h) (Or.inl ⟨by rfl, ?_⟩) ?_ ?_
     rotate_left
     ·intro w'
      go_simp
      with_reducible rfl
     rotate_left
     ·simp only [Act.put, List.setIfInBounds_toArray, List.set_cons_zero, List.set_cons_succ, i64_w, i32_w]
      rfl
     refine take_ (i := 6) (N := some 48) (v := ?_) (a' := ?_) #[true, true, true, true, true, true, true, false, false, false, false, false] rfl rfl (take_ofW HT_.out HW_.out (by kernel_rfl)) (fun _ _ _ h => h) (Or.inl ⟨by rfl, ?_⟩) hHeld ?_ ?_
     rotate_left
     ·rintro w' ⟨s0, s1, s2, s3, s4, s5, s6, s7, s8, s9, s10, s11, s12, s13, s14, s15, s16, s17, s18, s19, s20⟩
      go_simp
      with_reducible rfl
     rotate_left
     ·simp only [Act.put, List.setIfInBounds_toArray, List.set_cons_zero, List.set_cons_succ, i64_w, i32_w]
      rfl
     refine take_ (i := 7) (N := some 49) (v := ?_) (a' := ?_) #[true, true, true, true, true, true, true, true, false, false, false, false] rfl rfl (take_ofW HT_.out HW_.out (by kernel_rfl)) (fun _ _ _ h => h) (Or.inl ⟨by rfl, ?_⟩) hHeld ?_ ?_
     rotate_left
     ·rintro w' ⟨s0, s1, s2, s3, s4, s5, s6, s7, s8, s9, s10, s11, s12, s13, s14, s15, s16, s17, s18, s19, s20⟩
      go_simp
      with_reducible rfl
     rotate_left
     ·simp only [Act.put, List.setIfInBounds_toArray, List.set_cons_zero, List.set_cons_succ, i64_w, i32_w]
      rfl
     refine one_ (i := 8) (N := some 50) #[true, true, true, true, true, true, true, true, true, false, false, false] rfl rfl (one_of HT_.out (by kernel_rfl)) (by decide) (fun K hK => ?_)
     refine goes_ Try.func16 (by kernel_rfl) rfl #[.agg #[.int .i64 a0_0, .int .i64 a0_1, .int .i64 a0_2, .int .i64 a0_3, .int .i64 a0_4, .int .i64 a0_5, .int .i64 a0_6, .int .i64 a0_7, .int .i64 a0_8, .int .i64 a0_9, .int .i64 a0_10, .int .i64 a0_11, .int .i64 a0_12, .int .i64 a0_13, .int .i64 a0_14]] (by rfl) rfl rfl (by (try simp only [List.map_toArray, List.map_cons, List.map_nil]); first | done | rfl | (simp only [List.length_drop, List.length_take]; rfl)) ?_
     with_reducible refine (trivetref13_Next_s.calls a0_0 a0_1 a0_2 a0_3 a0_4 a0_5 a0_6 a0_7 a0_8 a0_9 a0_10 a0_11 a0_12 a0_13 a0_14 t383 t384 t385 t386 t387 t388 _ A21.out).mono ?_
     rintro e w33 ⟨rfl, hb⟩
     refine ⟨_, rfl, ?_⟩
     have n0_ := ka (blk_below (g := gb370) (kz BK370.out) hb)
     have n1_ := ka (blk_below (g := gb379) (kz BK379.out) hb)
     have n2_ := ka (below_step (kw HB.out) hb)
     clear BK370
     clear BK379
     clear HB
     have BK370 := n0_
     have BK379 := n1_
     have HB := n2_
     clear n0_ n1_ n2_
     (try clear hb)
     (try clear hb2)
     (try clear hk)
     (try clear hi)
     refine hK.out _ _ ⟨(blk_cell BK379.out 0).trans rfl, (blk_cell BK379.out 1).trans rfl, (blk_cell BK379.out 2).trans rfl, (blk_cell BK379.out 3).trans rfl, (blk_cell BK379.out 4).trans rfl, (blk_cell BK379.out 5).trans rfl, (blk_cell BK370.out 0).trans rfl, (blk_cell BK370.out 1).trans rfl, (blk_cell BK370.out 2).trans rfl, (blk_cell BK370.out 3).trans rfl, (blk_cell BK370.out 4).trans rfl, (blk_cell BK370.out 5).trans rfl, (blk_cell BK370.out 6).trans rfl, (blk_cell BK370.out 7).trans rfl, (blk_cell BK370.out 8).trans rfl, (blk_cell BK370.out 9).trans rfl, (blk_cell BK370.out 10).trans rfl, (blk_cell BK370.out 11).trans rfl, (blk_cell BK370.out 12).trans rfl, (blk_cell BK370.out 13).trans rfl, (blk_cell BK370.out 14).trans rfl⟩ (fun hHeld => ?_)
     clear hK K
     refine norm_ (a' := ?_) ?_ ?_
     rotate_left
     ·show Act.put _ (some 50) _ = _
      simp only [Act.put, List.setIfInBounds_toArray, List.set_cons_zero, List.set_cons_succ, i64_w, i32_w]
      rfl
     refine pure_ (i := 9) (N := some 51) (v := ?_) (a' := ?_) #[true, true, true, true, true, true, true, true, true, true, false, false] rfl rfl (any_of HT_.out (by kernel_rfl)) (fun _ _ _ h => h) (Or.inl ⟨by rfl, ?_⟩) ?_ ?_
     rotate_left
     ·intro w'
      go_simp
      with_reducible rfl
     rotate_left
     ·simp only [Act.put, List.setIfInBounds_toArray, List.set_cons_zero, List.set_cons_succ, i64_w, i32_w]
      rfl
     refine pure_ (i := 10) (N := some 52) (v := ?_) (a' := ?_) #[true, true, true, true, true, true, true, true, true, true, true, false] rfl rfl (any_of HT_.out (by kernel_rfl)) (fun _ _ _ h => h) (Or.inl ⟨by rfl, ?_⟩) ?_ ?_
     rotate_left
     ·intro w'
      go_simp
      with_reducible rfl
     rotate_left
     ·simp only [Act.put, List.setIfInBounds_toArray, List.set_cons_zero, List.set_cons_succ, i64_w, i32_w]
      rfl
     refine pure_ (i := 11) (N := some 2) (v := ?_) (a' := ?_) #[true, true, true, true, true, true, true, true, true, true, true, true] rfl rfl (any_of HT_.out (by kernel_rfl)) (fun _ _ _ h => h) (Or.inl ⟨by rfl, ?_⟩) ?_ ?_
     rotate_left
     ·intro w'
      go_simp
      with_reducible rfl
     rotate_left
     ·simp only [Act.put, List.setIfInBounds_toArray, List.set_cons_zero, List.set_cons_succ, i64_w, i32_w]
      rfl
     refine done_ (done_of HT_.out (by kernel_rfl)) ?_
     try go_wp2
     go_ret
     exact ⟨by first | rfl | (simp [errW_none, errW_some] <;> rfl) | (simp [*, errW_none, errW_some] <;> rfl), by repeat (first | (with_reducible first | exact HB.out | apply kc1 | apply kc2 | apply kc3 | refine kc4 ?_ GE370.out | refine kc4 ?_ GE379.out) | exact HB.out)⟩
    ·have H1 : (none) = some r := by rw [if_neg (show ¬ (some q382).isNone = true by simp)] at H; exact H
     clear H
     have H := H1
     clear H1
     try simp only [errW_none, errW_some]
     exact absurd H (by simp)
   ·replace c20 := Bool.eq_false_iff.mpr c20
    subst c20
    have H1 : (none) = some r := by rw [if_neg (show ¬ (false = true) by decide)] at H; exact H
    clear H
    have H := H1
    clear H1
    exact absurd H (by simp)
 ·replace c5 := Bool.eq_false_iff.mpr c5
  subst c5
  have H1 : (if t371 = true then (if t378.isNone = true then (none) else (if (t378.getD 0) = 1 then (some (t372 == 0 && (t373 == 0 && (t374 == 0 && (t375 == 0 && (t376 == 0 && (t377 == 0))))))) else (none))) else (none)) = some r := by rw [if_neg (show ¬ (false = true) by decide)] at H; exact H
  clear H
  have H := H1
  clear H1
  by_cases c34 : t371 = true
  ·subst c34
   have H1 : (if t378.isNone = true then (none) else (if (t378.getD 0) = 1 then (some (t372 == 0 && (t373 == 0 && (t374 == 0 && (t375 == 0 && (t376 == 0 && (t377 == 0))))))) else (none))) = some r := by rw [if_pos rfl] at H; exact H
   clear H
   have H := H1
   clear H1
   rcases t378 with _ | q389
   ·have H1 : (none) = some r := by rw [if_pos (show (none : Option Int).isNone = true by rfl)] at H; exact H
    clear H
    have H := H1
    clear H1
    try simp only [errW_none, errW_some]
    exact absurd H (by simp)
   ·have H1 : (if q389 = 1 then (some (t372 == 0 && (t373 == 0 && (t374 == 0 && (t375 == 0 && (t376 == 0 && (t377 == 0))))))) else (none)) = some r := by rw [if_neg (show ¬ (some q389).isNone = true by simp)] at H; exact H
    clear H
    have H := H1
    clear H1
    try simp only [errW_none, errW_some]
    by_cases c35 : q389 = 1
    ·rw [if_pos c35] at H
     have c35b0 : (q389 == 1) = true := beq_iff_eq.mpr c35
     have c35b1 : (q389 != 1) = false := bne_eq_false_iff_eq.mpr c35
     clear c35
     obtain rfl := Option.some.inj H
     go_enter Try.func6, Try.ntmps6
     go_wp2_with (first | ((with_reducible refine gate_dst (N := 1) rfl ?_); refine kx (N := 1) (cs := #[.int .i64 a0_0, .int .i64 a0_1, .int .i64 a0_2, .int .i64 a0_3, .int .i64 a0_4, .int .i64 a0_5, .int .i64 a0_6, .int .i64 a0_7, .int .i64 a0_8, .int .i64 a0_9, .int .i64 a0_10, .int .i64 a0_11, .int .i64 a0_12, .int .i64 a0_13, .int .i64 a0_14]) (t := 25) ?_; intro gb370 hg w36 hbox hb; have n0_ := ka (below_step (kw HB.out) hb); have n1_ := ka (hbox); have n2_ := ka ((by rw [hg]; exact (below_size (kw HB.out)) : w.heap.size ≤ gb370)); have n3_ := n2_; clear HB; have HB := n0_; have BK370 := n1_; have GW370 := n2_; have GE370 := n3_; clear n0_ n1_ n2_ n3_; clear hb hbox hg) | ((with_reducible refine gate_callee (f := 10) rfl ?_); refine kg (some 7) rfl rfl Try.func10 (by kernel_rfl) rfl #[] rfl ?_; (with_reducible refine (trivetlaw13_up_s.calls  true _ A2.out).mono ?_); rintro e w37 ⟨rfl, hb⟩; refine ⟨_, rfl, ?_⟩; have n0_ := ka (blk_below (g := gb370) (kz BK370.out) hb); have n1_ := ka (below_step (kw HB.out) hb); clear BK370; clear HB; have BK370 := n0_; have HB := n1_; clear n0_ n1_; (try clear hb); (try clear hb2); (try clear hk); (try clear hi); have hcz38 := blkAll15 BK370.out) | ((with_reducible refine gate_callee (f := 14) rfl ?_); refine kg (some 10) rfl rfl Try.func14 (by kernel_rfl) rfl #[.agg #[.int .i64 a0_0, .int .i64 a0_1, .int .i64 a0_2, .int .i64 a0_3, .int .i64 a0_4, .int .i64 a0_5, .int .i64 a0_6, .int .i64 a0_7, .int .i64 a0_8, .int .i64 a0_9, .int .i64 a0_10, .int .i64 a0_11, .int .i64 a0_12, .int .i64 a0_13, .int .i64 a0_14]] rfl ?_; (with_reducible refine (water_Instalment_s.calls a0_0 a0_1 a0_2 a0_3 a0_4 a0_5 a0_6 a0_7 a0_8 a0_9 a0_10 a0_11 a0_12 a0_13 a0_14 t372 t373 t374 t375 t376 t377 (some q389) _ A3.out).mono ?_); rintro e w39 ⟨rfl, hb⟩; refine ⟨_, rfl, ?_⟩; have n0_ := ka (blk_below (g := gb370) (kz BK370.out) hb); have n1_ := ka (below_step (kw HB.out) hb); clear BK370; clear HB; have BK370 := n0_; have HB := n1_; clear n0_ n1_; (try clear hb); (try clear hb2); (try clear hk); (try clear hi); (try simp only [errW_none, errW_some])) | ((with_reducible refine gate_dst (N := 4) rfl ?_); refine kx (N := 4) (cs := #[.int .i64 0, .int .i64 0, .int .i64 0, .int .i64 0, .int .i64 0, .int .i64 0]) (t := 28) ?_; intro gb379 hg w40 hbox hb; have n0_ := ka (blk_below (g := gb370) (kz BK370.out) hb); have n1_ := ka (below_step (kw HB.out) hb); have n2_ := ka (hbox); have n3_ := ka ((by rw [hg]; exact (below_size (kw HB.out)) : w.heap.size ≤ gb379)); have n4_ := n3_; have n5_ := ka ((by rw [hg]; exact Nat.ne_of_lt (blk_lt (g := gb370) (kz BK370.out)) : gb370 ≠ gb379)); have n6_ := ka n5_.out.symm; clear BK370; clear HB; have BK370 := n0_; have HB := n1_; have BK379 := n2_; have GW379 := n3_; have GE379 := n4_; have NB370_379 := n5_; have NB379_370 := n6_; clear n0_ n1_ n2_ n3_ n4_ n5_ n6_; clear hb hbox hg; have hnb41 := NB379_370.out; have hnc41 := NB370_379.out; have hcz42 := blkAll6 BK379.out; have hcz43 := blkAll15 BK370.out) | ((with_reducible refine gate_callee (f := 15) rfl ?_); refine kg (some 14) rfl rfl Try.func15 (by kernel_rfl) rfl #[.agg #[.int .i64 a0_0, .int .i64 a0_1, .int .i64 a0_2, .int .i64 a0_3, .int .i64 a0_4, .int .i64 a0_5, .int .i64 a0_6, .int .i64 a0_7, .int .i64 a0_8, .int .i64 a0_9, .int .i64 a0_10, .int .i64 a0_11, .int .i64 a0_12, .int .i64 a0_13, .int .i64 a0_14]] rfl ?_; (with_reducible refine (trivetref13_May_s.calls a0_0 a0_1 a0_2 a0_3 a0_4 a0_5 a0_6 a0_7 a0_8 a0_9 a0_10 a0_11 a0_12 a0_13 a0_14 false _ A4.out).mono ?_); rintro e w44 ⟨rfl, hb⟩; refine ⟨_, rfl, ?_⟩; have n0_ := ka (blk_below (g := gb370) (o := .cells #[.int .i64 a0_0, .int .i64 a0_1, .int .i64 a0_2, .int .i64 a0_3, .int .i64 a0_4, .int .i64 a0_5, .int .i64 a0_6, .int .i64 a0_7, .int .i64 a0_8, .int .i64 a0_9, .int .i64 a0_10, .int .i64 a0_11, .int .i64 a0_12, .int .i64 a0_13, .int .i64 a0_14] 25 (0, 0)) (by (with_reducible repeat (first | apply kb1 | apply kb2 | apply kb3 | refine kb4 ?_ NB370_379.out _)); exact BK370.out) hb); have n1_ := ka (blk_below (g := gb379) (o := .cells #[.int .i64 t372, .int .i64 t373, .int .i64 t374, .int .i64 t375, .int .i64 t376, .int .i64 t377] 28 (0, 0)) (by (with_reducible repeat (first | apply kb1 | apply kb2 | apply kb3 | apply blkPut6_5 | apply blkPut6_4 | apply blkPut6_3 | apply blkPut6_2 | apply blkPut6_1 | apply blkPut6_0)); exact BK379.out) hb); have n2_ := ka (below_step (kw HB.out) hb); clear BK370; clear BK379; clear HB; have BK370 := n0_; have BK379 := n1_; have HB := n2_; clear n0_ n1_ n2_; (try clear hb); (try clear hb2); (try clear hk); (try clear hi); have hcz45 := blkAll6 BK379.out) | ((with_reducible refine gate_load (T := 25) rfl ?_); first | refine load_event (g := gb370) rfl rfl rfl Try.underlying25 rfl (by (with_reducible repeat (first | apply kb1 | apply kb2 | apply kb3)); with_reducible exact BK370.out) (by kernel_rfl) ?_))
     go_ret
     exact ⟨by first | rfl | (simp [errW_none, errW_some] <;> rfl) | (simp [*, errW_none, errW_some] <;> rfl), by repeat (first | (with_reducible first | exact HB.out | apply kc1 | apply kc2 | apply kc3 | refine kc4 ?_ GE370.out | refine kc4 ?_ GE379.out) | exact HB.out)⟩
    ·rw [if_neg c35] at H
     exact absurd H (by simp)
  ·replace c34 := Bool.eq_false_iff.mpr c34
   subst c34
   have H1 : (none) = some r := by rw [if_neg (show ¬ (false = true) by decide)] at H; exact H
   clear H
   have H := H1
   clear H1
   exact absurd H (by simp)

/-- THE ONE PURE STATEMENT of trivetlaw13_WaterInstalments: yours. -/
def trivetlaw13_WaterInstalments.Pure : Prop := ∀ (a0_0 : Int) (a0_1 : Int) (a0_2 : Int) (a0_3 : Int) (a0_4 : Int) (a0_5 : Int) (a0_6 : Int) (a0_7 : Int) (a0_8 : Int) (a0_9 : Int) (a0_10 : Int) (a0_11 : Int) (a0_12 : Int) (a0_13 : Int) (a0_14 : Int), (Lit.int .i64 a0_0).wf = true → (Lit.int .i64 a0_1).wf = true → (Lit.int .i64 a0_2).wf = true → (Lit.int .i64 a0_3).wf = true → (Lit.int .i64 a0_4).wf = true → (Lit.int .i64 a0_5).wf = true → (Lit.int .i64 a0_6).wf = true → (Lit.int .i64 a0_7).wf = true → (Lit.int .i64 a0_8).wf = true → (Lit.int .i64 a0_9).wf = true → (Lit.int .i64 a0_10).wf = true → (Lit.int .i64 a0_11).wf = true → (Lit.int .i64 a0_12).wf = true → (Lit.int .i64 a0_13).wf = true → (Lit.int .i64 a0_14).wf = true → trivetlaw13_WaterInstalments.f a0_0 a0_1 a0_2 a0_3 a0_4 a0_5 a0_6 a0_7 a0_8 a0_9 a0_10 a0_11 a0_12 a0_13 a0_14 = some true
theorem trivetlaw13_WaterInstalments.walk (P : trivetlaw13_WaterInstalments.Pure) (a0_0 : Int) (a0_1 : Int) (a0_2 : Int) (a0_3 : Int) (a0_4 : Int) (a0_5 : Int) (a0_6 : Int) (a0_7 : Int) (a0_8 : Int) (a0_9 : Int) (a0_10 : Int) (a0_11 : Int) (a0_12 : Int) (a0_13 : Int) (a0_14 : Int) (w : World) (w0_0 : (Lit.int .i64 a0_0).wf = true) (w0_1 : (Lit.int .i64 a0_1).wf = true) (w0_2 : (Lit.int .i64 a0_2).wf = true) (w0_3 : (Lit.int .i64 a0_3).wf = true) (w0_4 : (Lit.int .i64 a0_4).wf = true) (w0_5 : (Lit.int .i64 a0_5).wf = true) (w0_6 : (Lit.int .i64 a0_6).wf = true) (w0_7 : (Lit.int .i64 a0_7).wf = true) (w0_8 : (Lit.int .i64 a0_8).wf = true) (w0_9 : (Lit.int .i64 a0_9).wf = true) (w0_10 : (Lit.int .i64 a0_10).wf = true) (w0_11 : (Lit.int .i64 a0_11).wf = true) (w0_12 : (Lit.int .i64 a0_12).wf = true) (w0_13 : (Lit.int .i64 a0_13).wf = true) (w0_14 : (Lit.int .i64 a0_14).wf = true) :
  Calls Try.prog 6 #[.agg #[.int .i64 a0_0, .int .i64 a0_1, .int .i64 a0_2, .int .i64 a0_3, .int .i64 a0_4, .int .i64 a0_5, .int .i64 a0_6, .int .i64 a0_7, .int .i64 a0_8, .int .i64 a0_9, .int .i64 a0_10, .int .i64 a0_11, .int .i64 a0_12, .int .i64 a0_13, .int .i64 a0_14]] w fun e w' => e = .returned (.bool true) ∧ Below w.heap.size w w' := by
 have h := P a0_0 a0_1 a0_2 a0_3 a0_4 a0_5 a0_6 a0_7 a0_8 a0_9 a0_10 a0_11 a0_12 a0_13 a0_14 w0_0 w0_1 w0_2 w0_3 w0_4 w0_5 w0_6 w0_7 w0_8 w0_9 w0_10 w0_11 w0_12 w0_13 w0_14
 refine (trivetlaw13_WaterInstalments.calls a0_0 a0_1 a0_2 a0_3 a0_4 a0_5 a0_6 a0_7 a0_8 a0_9 a0_10 a0_11 a0_12 a0_13 a0_14 true w h).mono ?_
 rintro e w' ⟨rfl, hd⟩
 exact ⟨rfl, hd⟩

end Go.Proofs.Ytimobafoidplaaa.P
