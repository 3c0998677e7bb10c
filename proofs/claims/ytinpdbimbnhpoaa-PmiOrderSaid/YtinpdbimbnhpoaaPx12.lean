-- Written by a program of this session out of the translation of the seat: Lean functions and the proofs that the Go functions come to them.
import Derived.Test.YtinpdbimbnhpoaaPx0
import Derived.Test.YtinpdbimbnhpoaaPx9
import Derived.Test.YtinpdbimbnhpoaaPx10
import Derived.Test.YtinpdbimbnhpoaaPx11
namespace Go.Proofs.Ytinpdbimbnhpoaa.P
open Go.RowKit Go.Proofs.YtinpdbimbnhpoaaW.PrintWords Go.Proofs.YtinpdbimbnhpoaaW.PrintLast Go.Proofs.YtinpdbimbnhpoaaW.PrintMore
attribute [local go_sem] max2_int min2_int max_two min_two max_three min_three max_four min_four   -- for this text's walks alone
set_option linter.unusedVariables false
set_option linter.unusedSimpArgs false

/-! ### trivetref11_May_s: function 14, told plainly -/
theorem trivetref11_May.tells (b r m f e i w fe g : Int) (h : M.In f ∧ M.In fe ∧ M.In g) (k : Nat) (hk : 4 ≤ k) : trivetref11_May.f k b r m f e i w fe g = some (decide (M.termsOk b r m f e i w fe g)) := by
  obtain ⟨k, rfl⟩ : ∃ m, k = m + 4 := ⟨k - 4, by omega⟩
  have out : ¬ M.termsOk b r m f e i w fe g → ∀ x y z, trivetref11_May.j0 (k + 4) true b r m f e i w fe g x y z = some (decide (M.termsOk b r m f e i w fe g)) := by
    intro hn x y z
    rw [decide_eq_false hn]
    simp [trivetref11_May.j0]
  unfold trivetref11_May.f
  by_cases h1 : -25567 ≤ f ∧ f ≤ 84005
  · rw [trivetref04_Of_s.yes h1, Option.bind_some]
    simp only [if_true]
    by_cases h2 : M.dy f = 1
    · have hf : M.firstOk f := ⟨h1.1, h1.2, h2⟩
      have fd := M.first_date hf
      rw [if_pos h2]
      by_cases h4 : m < 1
      · rw [if_pos h4]; exact out (fun hh => by have := hh.2.2; omega) _ _ _
      rw [if_neg h4]
      by_cases h5 : m > 480
      · rw [decide_eq_true h5]; exact out (fun hh => by have := hh.2.2; omega) _ _ _
      rw [decide_eq_false h5]
      simp only [trivetref11_May.j0]
      rw [if_neg (by decide), h2]
      have rest : ∀ x : Bool, (x = true ↔ M.inYears (M.m0 f + m)) → (if b ≥ 1 then (if b ≤ 10000000000000 then (if e ≥ 0 then trivetref11_May.j1 (k + 3) x (decide (e ≤ 10000000000000)) b r m f e i w fe g else trivetref11_May.j1 (k + 3) x false b r m f e i w fe g) else trivetref11_May.j1 (k + 3) x false b r m f e i w fe g) else trivetref11_May.j1 (k + 3) x false b r m f e i w fe g) = some (decide (M.termsOk b r m f e i w fe g)) := by
        intro x hx
        have j3 : ∀ z : Bool, trivetref11_May.j3 (k + 1) z = some z := fun z => by simp [trivetref11_May.j3]
        have j2 : ∀ p q : Bool, trivetref11_May.j2 (k + 2) x p q b r m f e i w fe g = some (decide (x = true ∧ p = true ∧ q = true ∧ i ≥ 1 ∧ i ≤ 64 ∧ w ≥ 1 ∧ w ≤ 3)) := by
          intro p q
          simp only [trivetref11_May.j2, j3, M.and_if]
        have j1 : ∀ p : Bool, trivetref11_May.j1 (k + 3) x p b r m f e i w fe g = some (decide (x = true ∧ p = true ∧ (r ≥ 0 ∧ r ≤ 300000 ∧ fe ≥ 0 ∧ g ≥ 0 ∧ fe ≤ 300000 ∧ g ≤ 300000 ∧ wrap64 (fe + g) ≤ r) ∧ i ≥ 1 ∧ i ≤ 64 ∧ w ≥ 1 ∧ w ≤ 3)) := by
          intro p
          simp only [trivetref11_May.j1, j2]
          by_cases c1 : r ≥ 0 <;> by_cases c2 : r ≤ 300000 <;> by_cases c3 : fe ≥ 0 <;> by_cases c4 : g ≥ 0 <;> simp only [c1, c2, c3, c4, if_true, if_false, true_and, false_and, and_false, Bool.false_eq_true, decide_eq_true_eq]
          by_cases c5 : fe ≤ 300000 <;> by_cases c6 : g ≤ 300000 <;> simp only [c5, c6, if_true, if_false, true_and, false_and, and_false, Bool.false_eq_true, decide_eq_true_eq]
        simp only [j1]
        have fin : ∀ p : Bool, (p = true ↔ (b ≥ 1 ∧ b ≤ 10000000000000 ∧ e ≥ 0 ∧ e ≤ 10000000000000)) → some (decide (x = true ∧ p = true ∧ (r ≥ 0 ∧ r ≤ 300000 ∧ fe ≥ 0 ∧ g ≥ 0 ∧ fe ≤ 300000 ∧ g ≤ 300000 ∧ wrap64 (fe + g) ≤ r) ∧ i ≥ 1 ∧ i ≤ 64 ∧ w ≥ 1 ∧ w ≤ 3)) = some (decide (M.termsOk b r m f e i w fe g)) := by
          intro p hp
          refine congrArg some (decide_eq_decide.mpr ?_)
          rw [hx, hp]
          unfold M.termsOk M.moneyOk
          constructor
          · rintro ⟨a1, a2, a3, a4⟩
            have := a3.2.2.2.2.2.2
            rw [M.w64_id (by omega) (by omega)] at this
            exact ⟨hf, by omega, by omega, by omega, by omega, by omega, by omega, by omega, a1⟩
          · rintro ⟨a1, a2, a3, a4, a5, a6, a7, a8, a9⟩
            rw [M.w64_id (by omega) (by omega)]
            exact ⟨a9, by omega, by omega, by omega⟩
        by_cases c1 : b ≥ 1
        · rw [if_pos c1]
          by_cases c2 : b ≤ 10000000000000
          · rw [if_pos c2]
            by_cases c3 : e ≥ 0
            · rw [if_pos c3]; exact fin _ (by simp only [decide_eq_true_eq]; omega)
            · rw [if_neg c3]; exact fin _ (by simp only [Bool.false_eq_true, false_iff]; omega)
          · rw [if_neg c2]; exact fin _ (by simp only [Bool.false_eq_true, false_iff]; omega)
        · rw [if_neg c1]; exact fin _ (by simp only [Bool.false_eq_true, false_iff]; omega)
      by_cases hy : M.inYears (M.m0 f + m)
      · rw [trivetref04_Months_s.yes fd.1 ⟨by omega, by omega, hy⟩, Option.bind_some]
        exact rest true ⟨fun _ => hy, fun _ => rfl⟩
      · rw [trivetref04_Months_s.no fd.1 (fun hh => hy hh.2.2), Option.bind_some]
        exact rest false ⟨fun hh => (by cases hh), fun hh => absurd hh hy⟩
    · rw [if_neg h2]
      exact out (fun hh => h2 hh.1.2.2) _ _ _
  · rw [trivetref04_Of_s.no h.1 h1, Option.bind_some]
    simp only [Bool.false_eq_true, if_false]
    exact out (fun hh => h1 ⟨hh.1.1, hh.1.2.1⟩) _ _ _
def trivetref11_May_s.f (b r m f e i w fe g : Int) : Option Bool := if M.In f ∧ M.In fe ∧ M.In g then some (decide (M.termsOk b r m f e i w fe g)) else none
theorem trivetref11_May_s.calls (a0_0 : Int) (a0_1 : Int) (a0_2 : Int) (a0_3 : Int) (a0_4 : Int) (a0_5 : Int) (a0_6 : Int) (a0_7 : Int) (a0_8 : Int) (r : Bool) (w : World) (h : trivetref11_May_s.f a0_0 a0_1 a0_2 a0_3 a0_4 a0_5 a0_6 a0_7 a0_8 = some r) :
    Calls Try.prog 14 #[.agg #[.int .i64 a0_0, .int .i64 a0_1, .int .i64 a0_2, .int .i64 a0_3, .int .i64 a0_4, .int .i64 a0_5, .int .i64 a0_6, .int .i64 a0_7, .int .i64 a0_8]] w fun e w' => e = .returned (.bool r) ∧ Below w.heap.size w w' := by
  unfold trivetref11_May_s.f at h
  split at h
  · rename_i hr
    exact trivetref11_May.calls (4) a0_0 a0_1 a0_2 a0_3 a0_4 a0_5 a0_6 a0_7 a0_8 r w ((trivetref11_May.tells a0_0 a0_1 a0_2 a0_3 a0_4 a0_5 a0_6 a0_7 a0_8 hr (4) (Nat.le_refl _)).trans h)
  · cases h
theorem trivetref11_May_s.at_ {b r m f e i w fe g : Int} (h : M.In f ∧ M.In fe ∧ M.In g) : trivetref11_May_s.f b r m f e i w fe g = some (decide (M.termsOk b r m f e i w fe g)) := by unfold trivetref11_May_s.f; rw [if_pos h]

/-! ### trivetref02_Month: function 25 -/
def trivetref02_Month.f (a0 : Int) (a1 : Int) : Option (Int) := if (Int.tmod (wrap64 (a0 * a1)) 12000000) > 6000000 then (some (wrap64 ((wrap64 (Int.tdiv (wrap64 (a0 * a1)) 12000000)) + 1))) else (if (Int.tmod (wrap64 (a0 * a1)) 12000000) = 6000000 then (if (Int.tmod (wrap64 (Int.tdiv (wrap64 (a0 * a1)) 12000000)) 2) = 1 then (some (wrap64 ((wrap64 (Int.tdiv (wrap64 (a0 * a1)) 12000000)) + 1))) else (some (wrap64 (Int.tdiv (wrap64 (a0 * a1)) 12000000)))) else (some (wrap64 (Int.tdiv (wrap64 (a0 * a1)) 12000000))))
set_option maxHeartbeats 8000000 in
set_option maxRecDepth 100000 in
theorem trivetref02_Month.calls (a0 : Int) (a1 : Int) (r : Int) (w : World) (h : trivetref02_Month.f a0 a1 = some r) :
    Calls Try.prog 25 #[.int .i64 a0, .int .i64 a1] w fun e w' => e = .returned (.int .i64 r) ∧ Drawn0 w w' := by
  have H : (if (Int.tmod (wrap64 (a0 * a1)) 12000000) > 6000000 then (some (wrap64 ((wrap64 (Int.tdiv (wrap64 (a0 * a1)) 12000000)) + 1))) else (if (Int.tmod (wrap64 (a0 * a1)) 12000000) = 6000000 then (if (Int.tmod (wrap64 (Int.tdiv (wrap64 (a0 * a1)) 12000000)) 2) = 1 then (some (wrap64 ((wrap64 (Int.tdiv (wrap64 (a0 * a1)) 12000000)) + 1))) else (some (wrap64 (Int.tdiv (wrap64 (a0 * a1)) 12000000)))) else (some (wrap64 (Int.tdiv (wrap64 (a0 * a1)) 12000000))))) = some r := h
  clear h
  by_cases c3 : (Int.tmod (wrap64 (a0 * a1)) 12000000) > 6000000
  · rw [if_pos c3] at H
    have c3b0 : decide (6000000 < (Int.tmod (wrap64 (a0 * a1)) 12000000)) = true := decide_eq_true c3
    clear c3
    obtain rfl := Option.some.inj H
    go_enter Try.func25, Try.ntmps25
    go_wp2
    go_ret
    exact ⟨by first | rfl | (simp; done) | (simp [*]; done), by repeat (first | exact Drawn0.refl _ | apply Drawn0.step)⟩
  · rw [if_neg c3] at H
    have c3b0 : decide (6000000 < (Int.tmod (wrap64 (a0 * a1)) 12000000)) = false := decide_eq_false c3
    clear c3
    by_cases c4 : (Int.tmod (wrap64 (a0 * a1)) 12000000) = 6000000
    · rw [if_pos c4] at H
      have c4b0 : ((Int.tmod (wrap64 (a0 * a1)) 12000000) == 6000000) = true := beq_iff_eq.mpr c4
      have c4b1 : ((Int.tmod (wrap64 (a0 * a1)) 12000000) != 6000000) = false := bne_eq_false_iff_eq.mpr c4
      clear c4
      by_cases c5 : (Int.tmod (wrap64 (Int.tdiv (wrap64 (a0 * a1)) 12000000)) 2) = 1
      · rw [if_pos c5] at H
        have c5b0 : ((Int.tmod (wrap64 (Int.tdiv (wrap64 (a0 * a1)) 12000000)) 2) == 1) = true := beq_iff_eq.mpr c5
        have c5b1 : ((Int.tmod (wrap64 (Int.tdiv (wrap64 (a0 * a1)) 12000000)) 2) != 1) = false := bne_eq_false_iff_eq.mpr c5
        clear c5
        obtain rfl := Option.some.inj H
        go_enter Try.func25, Try.ntmps25
        go_wp2
        go_ret
        exact ⟨by first | rfl | (simp; done) | (simp [*]; done), by repeat (first | exact Drawn0.refl _ | apply Drawn0.step)⟩
      · rw [if_neg c5] at H
        have c5b0 : ((Int.tmod (wrap64 (Int.tdiv (wrap64 (a0 * a1)) 12000000)) 2) == 1) = false := beq_eq_false_iff_ne.mpr c5
        have c5b1 : ((Int.tmod (wrap64 (Int.tdiv (wrap64 (a0 * a1)) 12000000)) 2) != 1) = true := bne_iff_ne.mpr c5
        obtain rfl := Option.some.inj H
        go_enter Try.func25, Try.ntmps25
        go_wp2
        go_ret
        exact ⟨by first | rfl | (simp; done) | (simp [*]; done), by repeat (first | exact Drawn0.refl _ | apply Drawn0.step)⟩
    · rw [if_neg c4] at H
      have c4b0 : ((Int.tmod (wrap64 (a0 * a1)) 12000000) == 6000000) = false := beq_eq_false_iff_ne.mpr c4
      have c4b1 : ((Int.tmod (wrap64 (a0 * a1)) 12000000) != 6000000) = true := bne_iff_ne.mpr c4
      obtain rfl := Option.some.inj H
      go_enter Try.func25, Try.ntmps25
      go_wp2
      go_ret
      exact ⟨by first | rfl | (simp; done) | (simp [*]; done), by repeat (first | exact Drawn0.refl _ | apply Drawn0.step)⟩

/-! ### trivetref02_Month_s: function 25, told plainly -/
theorem trivetref02_Month.tells (b r : Int) (h : M.may b r) : trivetref02_Month.f b r = some (M.month b r) := by
  have hp := M.prod_bd h
  unfold trivetref02_Month.f M.month
  rw [M.quo4 _ _ (by decide), M.w64_id (n := b * r) (by omega) (by omega), M.tdivu hp.1, M.tmodu hp.1, M.w64_id (n := b * r / 12000000) (by omega) (by omega), M.tmodu (a := b * r / 12000000) (by omega), M.w64_id (n := b * r / 12000000 + 1) (by omega) (by omega)]
  generalize b * r = n at *
  by_cases h1 : n % 12000000 > 6000000
  · rw [if_pos h1, if_pos (.inl (by omega))]
  · rw [if_neg h1]
    by_cases h2 : n % 12000000 = 6000000
    · rw [if_pos h2]
      by_cases h3 : n / 12000000 % 2 = 1
      · rw [if_pos h3, if_pos (.inr ⟨by omega, h3⟩)]
      · rw [if_neg h3, if_neg (by omega), Int.add_zero]
    · rw [if_neg h2, if_neg (by omega), Int.add_zero]
def trivetref02_Month_s.f (b r : Int) : Option Int := if M.may b r then some (M.month b r) else none
theorem trivetref02_Month_s.calls (a0 : Int) (a1 : Int) (r : Int) (w : World) (h : trivetref02_Month_s.f a0 a1 = some r) :
    Calls Try.prog 25 #[.int .i64 a0, .int .i64 a1] w fun e w' => e = .returned (.int .i64 r) ∧ Drawn0 w w' := by
  unfold trivetref02_Month_s.f at h
  split at h
  · rename_i hr
    exact trivetref02_Month.calls a0 a1 r w ((trivetref02_Month.tells a0 a1 hr).trans h)
  · cases h
theorem trivetref02_Month_s.yes {b r : Int} (h : M.may b r) : trivetref02_Month_s.f b r = some (M.month b r) := by unfold trivetref02_Month_s.f; rw [if_pos h]

/-! ### trivetref02_Next: function 53 -/
def trivetref02_Next.f (a0 : Int) (a1 : Int) (a2 : Int) : Option (Int × Bool) := (trivetref02_Month_s.f a0 a1).bind fun t250 => (if a2 ≥ (wrap64 (a0 + t250)) then (some (0, true)) else (if (wrap64 ((wrap64 (a0 + t250)) - a2)) > 10000000000000 then (some (0, false)) else (some (wrap64 ((wrap64 (a0 + t250)) - a2), true))))
set_option maxHeartbeats 8000000 in
set_option maxRecDepth 100000 in
theorem trivetref02_Next.calls (a0 : Int) (a1 : Int) (a2 : Int) (r1 : Int) (r2 : Bool) (w : World) (h : trivetref02_Next.f a0 a1 a2 = some (r1, r2)) :
    Calls Try.prog 53 #[.int .i64 a0, .int .i64 a1, .int .i64 a2] w fun e w' => e = .returned (.tuple #[.int .i64 r1, .bool r2]) ∧ Drawn0 w w' := by
  have H : ((trivetref02_Month_s.f a0 a1).bind fun t250 => (if a2 ≥ (wrap64 (a0 + t250)) then (some (0, true)) else (if (wrap64 ((wrap64 (a0 + t250)) - a2)) > 10000000000000 then (some (0, false)) else (some (wrap64 ((wrap64 (a0 + t250)) - a2), true))))) = some (r1, r2) := h
  clear h
  replace H := Option.bind_eq_some_iff.mp H
  obtain ⟨t250, A40, H⟩ := H
  replace H : (if a2 ≥ (wrap64 (a0 + t250)) then (some (0, true)) else (if (wrap64 ((wrap64 (a0 + t250)) - a2)) > 10000000000000 then (some (0, false)) else (some (wrap64 ((wrap64 (a0 + t250)) - a2), true)))) = some (r1, r2) := H
  have A4 := Aside0.mk A40
  clear A40
  by_cases c5 : a2 ≥ (wrap64 (a0 + t250))
  · rw [if_pos c5] at H
    have c5b0 : decide ((wrap64 (a0 + t250)) ≤ a2) = true := decide_eq_true c5
    clear c5
    simp only [Option.some.injEq, Prod.mk.injEq] at H
    obtain ⟨rfl, rfl⟩ := H
    go_enter Try.func53, Try.ntmps53
    go_wp2_with (first | ((with_reducible refine gate_callee (f := 25) rfl ?_); refine goesL_ (some 12) rfl rfl Try.func25 (by kernel_rfl) rfl #[.int .i64 a0, .int .i64 a1] rfl (by (try simp only [List.map_toArray, List.map_cons, List.map_nil]); first | done | rfl | (simp only [List.length_drop, List.length_take]; rfl)) ?_; (with_reducible refine (trivetref02_Month_s.calls a0 a1 t250 _ A4.out).mono ?_); rintro e w' ⟨rfl, ⟨nd, rfl⟩⟩; refine ⟨_, rfl, ?_⟩))
    go_ret2
    exact ⟨by first | rfl | (simp; done) | (simp [*]; done), by repeat (first | exact Drawn0.refl _ | apply Drawn0.step)⟩
  · rw [if_neg c5] at H
    have c5b0 : decide ((wrap64 (a0 + t250)) ≤ a2) = false := decide_eq_false c5
    clear c5
    by_cases c6 : (wrap64 ((wrap64 (a0 + t250)) - a2)) > 10000000000000
    · rw [if_pos c6] at H
      have c6b0 : decide (10000000000000 < (wrap64 ((wrap64 (a0 + t250)) - a2))) = true := decide_eq_true c6
      clear c6
      simp only [Option.some.injEq, Prod.mk.injEq] at H
      obtain ⟨rfl, rfl⟩ := H
      go_enter Try.func53, Try.ntmps53
      go_wp2_with (first | ((with_reducible refine gate_callee (f := 25) rfl ?_); refine goesL_ (some 12) rfl rfl Try.func25 (by kernel_rfl) rfl #[.int .i64 a0, .int .i64 a1] rfl (by (try simp only [List.map_toArray, List.map_cons, List.map_nil]); first | done | rfl | (simp only [List.length_drop, List.length_take]; rfl)) ?_; (with_reducible refine (trivetref02_Month_s.calls a0 a1 t250 _ A4.out).mono ?_); rintro e w' ⟨rfl, ⟨nd, rfl⟩⟩; refine ⟨_, rfl, ?_⟩))
      go_ret2
      exact ⟨by first | rfl | (simp; done) | (simp [*]; done), by repeat (first | exact Drawn0.refl _ | apply Drawn0.step)⟩
    · rw [if_neg c6] at H
      have c6b0 : decide (10000000000000 < (wrap64 ((wrap64 (a0 + t250)) - a2))) = false := decide_eq_false c6
      clear c6
      simp only [Option.some.injEq, Prod.mk.injEq] at H
      obtain ⟨rfl, rfl⟩ := H
      go_enter Try.func53, Try.ntmps53
      go_wp2_with (first | ((with_reducible refine gate_callee (f := 25) rfl ?_); refine goesL_ (some 12) rfl rfl Try.func25 (by kernel_rfl) rfl #[.int .i64 a0, .int .i64 a1] rfl (by (try simp only [List.map_toArray, List.map_cons, List.map_nil]); first | done | rfl | (simp only [List.length_drop, List.length_take]; rfl)) ?_; (with_reducible refine (trivetref02_Month_s.calls a0 a1 t250 _ A4.out).mono ?_); rintro e w' ⟨rfl, ⟨nd, rfl⟩⟩; refine ⟨_, rfl, ?_⟩))
      go_ret2
      exact ⟨by first | rfl | (simp; done) | (simp [*]; done), by repeat (first | exact Drawn0.refl _ | apply Drawn0.step)⟩

/-! ### trivetref02_Next_s: function 53, told plainly -/
theorem trivetref02_Next.tells (b r p : Int) (h : M.may b r) (hp : 0 ≤ p) : trivetref02_Next.f b r p = some (if M.next b r p > 10000000000000 then (0, false) else (M.next b r p, true)) := by
  unfold trivetref02_Next.f trivetref02_Month_s.f
  have h0 := M.month_nonneg h
  have h1 := M.month_le h
  have hb := h.1
  have hb2 := h.2.1
  rw [if_pos h, Option.bind_some, M.w64_id (n := b + M.month b r) (by omega) (by omega)]
  unfold M.next
  by_cases hge : p ≥ b + M.month b r
  · rw [if_pos hge, if_neg (show ¬ p < b + M.month b r by omega), if_neg (by decide)]
  · rw [if_neg hge, M.w64_id (n := b + M.month b r - p) (by omega) (by omega), if_pos (show p < b + M.month b r by omega)]
    split <;> rfl
def trivetref02_Next_s.f (b r p : Int) : Option (Int × Bool) := if M.may b r ∧ 0 ≤ p then some (if M.next b r p > 10000000000000 then (0, false) else (M.next b r p, true)) else none
theorem trivetref02_Next_s.calls (a0 : Int) (a1 : Int) (a2 : Int) (r1 : Int) (r2 : Bool) (w : World) (h : trivetref02_Next_s.f a0 a1 a2 = some (r1, r2)) :
    Calls Try.prog 53 #[.int .i64 a0, .int .i64 a1, .int .i64 a2] w fun e w' => e = .returned (.tuple #[.int .i64 r1, .bool r2]) ∧ Drawn0 w w' := by
  unfold trivetref02_Next_s.f at h
  split at h
  · rename_i hr
    exact trivetref02_Next.calls a0 a1 a2 r1 r2 w ((trivetref02_Next.tells a0 a1 a2 hr.1 hr.2).trans h)
  · cases h
theorem trivetref02_Next_s.yes {b r p : Int} (h : M.may b r ∧ 0 ≤ p) (ho : M.next b r p ≤ 10000000000000) : trivetref02_Next_s.f b r p = some (M.next b r p, true) := by unfold trivetref02_Next_s.f; rw [if_pos h, if_neg (by omega)]
theorem trivetref02_Next_s.over {b r p : Int} (h : M.may b r ∧ 0 ≤ p) (ho : M.next b r p > 10000000000000) : trivetref02_Next_s.f b r p = some (0, false) := by unfold trivetref02_Next_s.f; rw [if_pos h, if_pos ho]

/-! ### trivetref02_Left: function 45 -/
def trivetref02_Left.l0 : Nat → Int → Int → Int → Int → Int → Option (Int × Bool)
  | 0, _, _, _, _, _ => none
  | k + 1, x0, x1, x2, x3, x10 => if x10 < x3 then ((trivetref02_Next_s.f x0 x1 x2).bind fun bt251 => (if bt251.2 = true then (trivetref02_Left.l0 k bt251.1 x1 x2 x3 (wrap64 (x10 + 1))) else (some (0, false)))) else (some (x0, true))
def trivetref02_Left.f (k : Nat) (a0 : Int) (a1 : Int) (a2 : Int) (a3 : Int) : Option (Int × Bool) := trivetref02_Left.l0 k a0 a1 a2 a3 0
theorem trivetref02_Left.mono_l : ∀ k, (∀ y0 y1 y2 y3 y4, LeO (trivetref02_Left.l0 k y0 y1 y2 y3 y4) (trivetref02_Left.l0 (k + 1) y0 y1 y2 y3 y4))
  | 0 => fun _ _ _ _ _ r h => by simp [trivetref02_Left.l0] at h
  | k + 1 => by
    have ih0 := trivetref02_Left.mono_l k
    · intro y0 y1 y2 y3 y4
      unfold trivetref02_Left.l0
      repeat' first
      | (with_reducible exact ih0 _ _ _ _ _)
      | (with_reducible exact LeO.refl _)
      | (with_reducible exact LeO.none _)
      | (with_reducible refine LeO.ite ?_ ?_)
      | (with_reducible refine LeO.bind ?_ (fun _ => ?_))
      | exact ih0 _ _ _ _ _
      | exact LeO.none _
      | refine LeO.ite ?_ ?_
      | refine LeO.bind ?_ (fun _ => ?_)
theorem trivetref02_Left.mono : ∀ a0 a1 a2 a3 k, LeO (trivetref02_Left.f k a0 a1 a2 a3) (trivetref02_Left.f (k + 1) a0 a1 a2 a3) := by
  intro a0 a1 a2 a3 k
  have ih0 := trivetref02_Left.mono_l k
  unfold trivetref02_Left.f
  repeat' first
      | (with_reducible exact ih0 _ _ _ _ _)
      | (with_reducible exact LeO.refl _)
      | (with_reducible exact LeO.none _)
      | (with_reducible refine LeO.ite ?_ ?_)
      | (with_reducible refine LeO.bind ?_ (fun _ => ?_))
      | exact ih0 _ _ _ _ _
      | exact LeO.none _
      | refine LeO.ite ?_ ?_
      | refine LeO.bind ?_ (fun _ => ?_)
set_option maxHeartbeats 8000000 in
set_option maxRecDepth 100000 in
theorem trivetref02_Left.calls (k : Nat) (a0 : Int) (a1 : Int) (a2 : Int) (a3 : Int) (r1 : Int) (r2 : Bool) (w : World) (h : trivetref02_Left.f k a0 a1 a2 a3 = some (r1, r2)) :
    Calls Try.prog 45 #[.int .i64 a0, .int .i64 a1, .int .i64 a2, .int .i64 a3] w fun e w' => e = .returned (.tuple #[.int .i64 r1, .bool r2]) ∧ Drawn0 w w' := by
  have H : (trivetref02_Left.l0 k a0 a1 a2 a3 0) = some (r1, r2) := h
  clear h
  have H' := Aside0.mk H
  clear H
  go_enter Try.func45, Try.ntmps45
  go_wp2
  (try simp only [Act.put, List.setIfInBounds_toArray, List.set_cons_zero, List.set_cons_succ])
  go_loopg [0, 10] k (fun kq v0 v10 w' => ∃ (x0_1 : Int) (x10_1 : Int), v0 = .int .i64 x0_1 ∧ v10 = .int .i64 x10_1 ∧ Aside0 (trivetref02_Left.l0 kq x0_1 a1 a2 a3 x10_1 = some (r1, r2)) ∧ Aside0 (kq ≤ k) ∧ Drawn0 w w')
  case atStart => exact ⟨(a0), (0), (by first | rfl | (simp; done) | (simp [*]; done)), (by first | rfl | (simp; done) | (simp [*]; done)), H', ⟨Nat.le_refl _⟩, by repeat (first | exact Drawn0.refl _ | apply Drawn0.step)⟩
  case round =>
    clear H'
    try clear p2
    try clear c4
    obtain ⟨x0_1, x10_1, rfl, rfl, HA, HK1, ⟨m1, rfl⟩⟩ := hrel
    cases gk with
    | zero => exact absurd HA.out (by simp [trivetref02_Left.l0])
    | succ k1 =>
      have H := HA.out
      clear HA
      simp only [trivetref02_Left.l0] at H
      by_cases c5 : x10_1 < a3
      · rw [if_pos c5] at H
        have c5b0 : decide (x10_1 < a3) = true := decide_eq_true c5
        clear c5
        replace H := Option.bind_eq_some_iff.mp H
        obtain ⟨⟨t251, t252⟩, A60, H⟩ := H
        replace H : (if t252 = true then (trivetref02_Left.l0 k1 t251 a1 a2 a3 (wrap64 (x10_1 + 1))) else (some (0, false))) = some (r1, r2) := H
        have A6 := Aside0.mk A60
        clear A60
        by_cases c7 : t252 = true
        · subst c7
          have H1 : (trivetref02_Left.l0 k1 t251 a1 a2 a3 (wrap64 (x10_1 + 1))) = some (r1, r2) := by rw [if_pos rfl] at H; exact H
          clear H
          have H := H1
          clear H1
          have H' := Aside0.mk H
          clear H
          go_wp2_with (first | ((with_reducible refine gate_callee (f := 53) rfl ?_); refine goesL_ (some 22) rfl rfl Try.func53 (by kernel_rfl) rfl #[.int .i64 x0_1, .int .i64 a1, .int .i64 a2] rfl (by (try simp only [List.map_toArray, List.map_cons, List.map_nil]); first | done | rfl | (simp only [List.length_drop, List.length_take]; rfl)) ?_; (with_reducible refine (trivetref02_Next_s.calls x0_1 a1 a2 t251 true _ A6.out).mono ?_); rintro e w' ⟨rfl, ⟨nd, rfl⟩⟩; refine ⟨_, rfl, ?_⟩))
          go_roundg k1
          case measure => have := HK1.out; omega
          case rel => exact ⟨(t251), (wrap64 (x10_1 + 1)), (by first | rfl | (simp; done) | (simp [*]; done)), (by first | rfl | (simp; done) | (simp [*]; done)), H', ⟨by have := HK1.out; omega⟩, by repeat (first | exact Drawn0.refl _ | apply Drawn0.step)⟩
        · replace c7 := Bool.eq_false_iff.mpr c7
          subst c7
          have H1 : (some (0, false)) = some (r1, r2) := by rw [if_neg (show ¬ (false = true) by decide)] at H; exact H
          clear H
          have H := H1
          clear H1
          simp only [Option.some.injEq, Prod.mk.injEq] at H
          obtain ⟨rfl, rfl⟩ := H
          go_wp2_with (first | ((with_reducible refine gate_callee (f := 53) rfl ?_); refine goesL_ (some 22) rfl rfl Try.func53 (by kernel_rfl) rfl #[.int .i64 x0_1, .int .i64 a1, .int .i64 a2] rfl (by (try simp only [List.map_toArray, List.map_cons, List.map_nil]); first | done | rfl | (simp only [List.length_drop, List.length_take]; rfl)) ?_; (with_reducible refine (trivetref02_Next_s.calls x0_1 a1 a2 t251 false _ A6.out).mono ?_); rintro e w' ⟨rfl, ⟨nd, rfl⟩⟩; refine ⟨_, rfl, ?_⟩))
          go_ret2
          exact ⟨by first | rfl | (simp; done) | (simp [*]; done), by repeat (first | exact Drawn0.refl _ | apply Drawn0.step)⟩
      · rw [if_neg c5] at H
        have c5b0 : decide (x10_1 < a3) = false := decide_eq_false c5
        clear c5
        simp only [Option.some.injEq, Prod.mk.injEq] at H
        obtain ⟨rfl, rfl⟩ := H
        go_wp2
        go_ret2
        exact ⟨by first | rfl | (simp; done) | (simp [*]; done), by repeat (first | exact Drawn0.refl _ | apply Drawn0.step)⟩

/-! ### trivetref02_Left_s: function 45, told plainly -/
theorem trivetref02_Left.loop (r p m : Int) (hp : 0 ≤ p) (hm : m ≤ 4611686018427387904) : ∀ (n : Nat) (i b : Int), i + n = m → 0 ≤ i → M.may b r → ∀ k, n + 2 ≤ k →
    trivetref02_Left.l0 k b r p m i = some (M.tellB (M.left n b r p)) := by
  intro n
  induction n with
  | zero =>
    intro i b hi h0 hb k hk
    obtain ⟨k, rfl⟩ : ∃ m, k = m + 1 := ⟨k - 1, by omega⟩
    simp only [trivetref02_Left.l0, M.left]
    rw [if_neg (by omega)]
    rfl
  | succ n ih =>
    intro i b hi h0 hb k hk
    obtain ⟨k, rfl⟩ : ∃ m, k = m + 1 := ⟨k - 1, by omega⟩
    simp only [trivetref02_Left.l0, M.left]
    unfold trivetref02_Next_s.f
    rw [if_pos (by omega), if_pos ⟨hb, hp⟩, Option.bind_some]
    by_cases ho : M.next b r p > 10000000000000
    · rw [if_pos ho, if_pos ho]
      rfl
    · rw [if_neg ho, if_neg ho]
      simp only [if_true]
      rw [M.w64_id (by omega) (by omega)]
      exact ih (i + 1) _ (by omega) (by omega) ⟨M.next_nonneg _ _ _, by omega, hb.2.2.1, hb.2.2.2⟩ k (by omega)
def trivetref02_Left_s.f (b r p m : Int) : Option (Int × Bool) :=
  if M.may b r ∧ 0 ≤ p ∧ 0 ≤ m ∧ m ≤ 4611686018427387904 then some (M.tellB (M.left m.toNat b r p)) else none
theorem trivetref02_Left_s.calls (a0 : Int) (a1 : Int) (a2 : Int) (a3 : Int) (r1 : Int) (r2 : Bool) (w : World) (h : trivetref02_Left_s.f a0 a1 a2 a3 = some (r1, r2)) :
    Calls Try.prog 45 #[.int .i64 a0, .int .i64 a1, .int .i64 a2, .int .i64 a3] w fun e w' => e = .returned (.tuple #[.int .i64 r1, .bool r2]) ∧ Drawn0 w w' := by
  unfold trivetref02_Left_s.f at h
  split at h
  · rename_i hr
    refine trivetref02_Left.calls (a3.toNat + 4) a0 a1 a2 a3 r1 r2 w (Eq.trans ?_ h)
    unfold trivetref02_Left.f
    exact trivetref02_Left.loop a1 a2 a3 hr.2.1 hr.2.2.2 a3.toNat 0 a0 (by omega) (by omega) hr.1 _ (by omega)
  · cases h
theorem trivetref02_Left_s.yes {b r p m : Int} (h : M.may b r ∧ 0 ≤ p ∧ 0 ≤ m ∧ m ≤ 4611686018427387904) : trivetref02_Left_s.f b r p m = some (M.tellB (M.left m.toNat b r p)) := by unfold trivetref02_Left_s.f; rw [if_pos h]

/-! ### trivetref02_Pays: function 37 -/
def trivetref02_Pays.f (a0 : Int) (a1 : Int) (a2 : Int) (a3 : Int) : Option (Bool) := (trivetref02_Left_s.f a0 a1 a2 a3).bind fun bt253 => (if bt253.2 = true then (some (bt253.1 == 0)) else (some false))
set_option maxHeartbeats 8000000 in
set_option maxRecDepth 100000 in
theorem trivetref02_Pays.calls (a0 : Int) (a1 : Int) (a2 : Int) (a3 : Int) (r : Bool) (w : World) (h : trivetref02_Pays.f a0 a1 a2 a3 = some r) :
    Calls Try.prog 37 #[.int .i64 a0, .int .i64 a1, .int .i64 a2, .int .i64 a3] w fun e w' => e = .returned (.bool r) ∧ Drawn0 w w' := by
  have H : ((trivetref02_Left_s.f a0 a1 a2 a3).bind fun bt253 => (if bt253.2 = true then (some (bt253.1 == 0)) else (some false))) = some r := h
  clear h
  replace H := Option.bind_eq_some_iff.mp H
  obtain ⟨⟨t253, t254⟩, A50, H⟩ := H
  replace H : (if t254 = true then (some (t253 == 0)) else (some false)) = some r := H
  have A5 := Aside0.mk A50
  clear A50
  by_cases c6 : t254 = true
  · subst c6
    have H1 : (some (t253 == 0)) = some r := by rw [if_pos rfl] at H; exact H
    clear H
    have H := H1
    clear H1
    obtain rfl := Option.some.inj H
    go_enter Try.func37, Try.ntmps37
    go_wp2_with (first | ((with_reducible refine gate_callee (f := 45) rfl ?_); refine goesL_ (some 16) rfl rfl Try.func45 (by kernel_rfl) rfl #[.int .i64 a0, .int .i64 a1, .int .i64 a2, .int .i64 a3] rfl (by (try simp only [List.map_toArray, List.map_cons, List.map_nil]); first | done | rfl | (simp only [List.length_drop, List.length_take]; rfl)) ?_; (with_reducible refine (trivetref02_Left_s.calls a0 a1 a2 a3 t253 true _ A5.out).mono ?_); rintro e w' ⟨rfl, ⟨nd, rfl⟩⟩; refine ⟨_, rfl, ?_⟩))
    go_ret
    exact ⟨by first | rfl | (simp; done) | (simp [*]; done), by repeat (first | exact Drawn0.refl _ | apply Drawn0.step)⟩
  · replace c6 := Bool.eq_false_iff.mpr c6
    subst c6
    have H1 : (some false) = some r := by rw [if_neg (show ¬ (false = true) by decide)] at H; exact H
    clear H
    have H := H1
    clear H1
    obtain rfl := Option.some.inj H
    go_enter Try.func37, Try.ntmps37
    go_wp2_with (first | ((with_reducible refine gate_callee (f := 45) rfl ?_); refine goesL_ (some 16) rfl rfl Try.func45 (by kernel_rfl) rfl #[.int .i64 a0, .int .i64 a1, .int .i64 a2, .int .i64 a3] rfl (by (try simp only [List.map_toArray, List.map_cons, List.map_nil]); first | done | rfl | (simp only [List.length_drop, List.length_take]; rfl)) ?_; (with_reducible refine (trivetref02_Left_s.calls a0 a1 a2 a3 t253 false _ A5.out).mono ?_); rintro e w' ⟨rfl, ⟨nd, rfl⟩⟩; refine ⟨_, rfl, ?_⟩))
    go_ret
    exact ⟨by first | rfl | (simp; done) | (simp [*]; done), by repeat (first | exact Drawn0.refl _ | apply Drawn0.step)⟩

/-! ### trivetref02_Pays_s: function 37, told plainly -/
theorem trivetref02_Pays.tells (b r p m : Int) (h : M.may b r ∧ 0 ≤ p ∧ 0 ≤ m ∧ m ≤ 4611686018427387904) : trivetref02_Pays.f b r p m = some (M.pays m.toNat b r p) := by
  unfold trivetref02_Pays.f trivetref02_Left_s.f M.pays
  rw [if_pos h, Option.bind_some]
  cases M.left m.toNat b r p with
  | none => rfl
  | some v => rfl
def trivetref02_Pays_s.f (b r p m : Int) : Option Bool := if M.may b r ∧ 0 ≤ p ∧ 0 ≤ m ∧ m ≤ 4611686018427387904 then some (M.pays m.toNat b r p) else none
theorem trivetref02_Pays_s.calls (a0 : Int) (a1 : Int) (a2 : Int) (a3 : Int) (r : Bool) (w : World) (h : trivetref02_Pays_s.f a0 a1 a2 a3 = some r) :
    Calls Try.prog 37 #[.int .i64 a0, .int .i64 a1, .int .i64 a2, .int .i64 a3] w fun e w' => e = .returned (.bool r) ∧ Drawn0 w w' := by
  unfold trivetref02_Pays_s.f at h
  split at h
  · rename_i hr
    exact trivetref02_Pays.calls a0 a1 a2 a3 r w ((trivetref02_Pays.tells a0 a1 a2 a3 hr).trans h)
  · cases h
theorem trivetref02_Pays_s.yes {b r p m : Int} (h : M.may b r ∧ 0 ≤ p ∧ 0 ≤ m ∧ m ≤ 4611686018427387904) : trivetref02_Pays_s.f b r p m = some (M.pays m.toNat b r p) := by unfold trivetref02_Pays_s.f; rw [if_pos h]

/-! ### trivetref12_Level: function 24 -/
def trivetref12_Level.l0 : Nat → Int → Int → Int → Int → Int → Int → Int → Int → Int → Int → Int → Option (Int)
  | 0, _, _, _, _, _, _, _, _, _, _, _ => none
  | k + 1, x3, x4, x256000, x256001, x256002, x256003, x256004, x256005, x256006, x256007, x256008 => if x3 < x4 then ((trivetref02_Pays_s.f x256000 x256001 (wrap64 (x3 + (wrap64 (Int.tdiv (wrap64 (x4 - x3)) 2)))) x256002).bind fun t256 => (if t256 = true then (trivetref12_Level.l0 k x3 (wrap64 (x3 + (wrap64 (Int.tdiv (wrap64 (x4 - x3)) 2)))) x256000 x256001 x256002 x256003 x256004 x256005 x256006 x256007 x256008) else (trivetref12_Level.l0 k (wrap64 ((wrap64 (x3 + (wrap64 (Int.tdiv (wrap64 (x4 - x3)) 2)))) + 1)) x4 x256000 x256001 x256002 x256003 x256004 x256005 x256006 x256007 x256008))) else (some x3)
def trivetref12_Level.f (k : Nat) (a0_0 : Int) (a0_1 : Int) (a0_2 : Int) (a0_3 : Int) (a0_4 : Int) (a0_5 : Int) (a0_6 : Int) (a0_7 : Int) (a0_8 : Int) : Option (Int) := trivetref12_Level.l0 k 0 (wrap64 (2 * a0_0)) a0_0 a0_1 a0_2 a0_3 a0_4 a0_5 a0_6 a0_7 a0_8
theorem trivetref12_Level.mono_l : ∀ k, (∀ y0 y1 y2 y3 y4 y5 y6 y7 y8 y9 y10, LeO (trivetref12_Level.l0 k y0 y1 y2 y3 y4 y5 y6 y7 y8 y9 y10) (trivetref12_Level.l0 (k + 1) y0 y1 y2 y3 y4 y5 y6 y7 y8 y9 y10))
  | 0 => fun _ _ _ _ _ _ _ _ _ _ _ r h => by simp [trivetref12_Level.l0] at h
  | k + 1 => by
    have ih0 := trivetref12_Level.mono_l k
    · intro y0 y1 y2 y3 y4 y5 y6 y7 y8 y9 y10
      unfold trivetref12_Level.l0
      repeat' first
      | (with_reducible exact ih0 _ _ _ _ _ _ _ _ _ _ _)
      | (with_reducible exact LeO.refl _)
      | (with_reducible exact LeO.none _)
      | (with_reducible refine LeO.ite ?_ ?_)
      | (with_reducible refine LeO.bind ?_ (fun _ => ?_))
      | exact ih0 _ _ _ _ _ _ _ _ _ _ _
      | exact LeO.none _
      | refine LeO.ite ?_ ?_
      | refine LeO.bind ?_ (fun _ => ?_)
theorem trivetref12_Level.mono : ∀ a0 a1 a2 a3 a4 a5 a6 a7 a8 k, LeO (trivetref12_Level.f k a0 a1 a2 a3 a4 a5 a6 a7 a8) (trivetref12_Level.f (k + 1) a0 a1 a2 a3 a4 a5 a6 a7 a8) := by
  intro a0 a1 a2 a3 a4 a5 a6 a7 a8 k
  have ih0 := trivetref12_Level.mono_l k
  unfold trivetref12_Level.f
  repeat' first
      | (with_reducible exact ih0 _ _ _ _ _ _ _ _ _ _ _)
      | (with_reducible exact LeO.refl _)
      | (with_reducible exact LeO.none _)
      | (with_reducible refine LeO.ite ?_ ?_)
      | (with_reducible refine LeO.bind ?_ (fun _ => ?_))
      | exact ih0 _ _ _ _ _ _ _ _ _ _ _
      | exact LeO.none _
      | refine LeO.ite ?_ ?_
      | refine LeO.bind ?_ (fun _ => ?_)
set_option maxHeartbeats 8000000 in
set_option maxRecDepth 100000 in
theorem trivetref12_Level.calls (k : Nat) (a0_0 : Int) (a0_1 : Int) (a0_2 : Int) (a0_3 : Int) (a0_4 : Int) (a0_5 : Int) (a0_6 : Int) (a0_7 : Int) (a0_8 : Int) (r : Int) (w : World) (h : trivetref12_Level.f k a0_0 a0_1 a0_2 a0_3 a0_4 a0_5 a0_6 a0_7 a0_8 = some r) :
    Calls Try.prog 24 #[.agg #[.int .i64 a0_0, .int .i64 a0_1, .int .i64 a0_2, .int .i64 a0_3, .int .i64 a0_4, .int .i64 a0_5, .int .i64 a0_6, .int .i64 a0_7, .int .i64 a0_8]] w fun e w' => e = .returned (.int .i64 r) ∧ Below w.heap.size w w' := by
  have hu23 := Try.underlying23
  have HB := Aside0.mk (Below.refl w.heap.size w)
  have H : (trivetref12_Level.l0 k 0 (wrap64 (2 * a0_0)) a0_0 a0_1 a0_2 a0_3 a0_4 a0_5 a0_6 a0_7 a0_8) = some r := h
  clear h
  have H' := Aside0.mk H
  clear H
  go_enter Try.func24, Try.ntmps24
  go_wp2_with (first | ((with_reducible refine gate_dst (N := 1) rfl ?_); refine box_event ?hg (N := 1) ?hd (cs := #[.int .i64 a0_0, .int .i64 a0_1, .int .i64 a0_2, .int .i64 a0_3, .int .i64 a0_4, .int .i64 a0_5, .int .i64 a0_6, .int .i64 a0_7, .int .i64 a0_8]) (t := 23) ?hr ?_; (case hd => rfl); (case hg => rfl); (case hr => first | (go_simp; done) | (go_simp; rfl)); intro gb255 hg w2 hbox hb; have n0_ := Aside0.mk (below_step (by repeat (first | (with_reducible first | exact HB.out | apply below_alloc | apply pw_below_drewN | apply below_drew1) | exact HB.out)) hb); have n1_ := Aside0.mk (hbox); have n2_ := Aside0.mk ((by rw [hg]; exact (below_size (by repeat (first | (with_reducible first | exact HB.out | apply below_alloc | apply pw_below_drewN | apply below_drew1) | exact HB.out))) : w.heap.size ≤ gb255)); have n3_ := Aside0.mk ((by rw [hg]; exact (below_size (by repeat (first | (with_reducible first | exact HB.out | apply below_alloc | apply pw_below_drewN | apply below_drew1) | exact HB.out))) : w.heap.size ≤ gb255)); clear HB; have HB := n0_; have BK255 := n1_; have GW255 := n2_; have GE255 := n3_; clear n0_ n1_ n2_ n3_; clear hb hbox hg; have hcz3 := blkAll9 BK255.out))
  (try simp only [Act.put, List.setIfInBounds_toArray, List.set_cons_zero, List.set_cons_succ])
  go_loopg [3, 4] k (fun kq v3 v4 w' => ∃ (x3_1 : Int) (x4_1 : Int), v3 = .int .i64 x3_1 ∧ v4 = .int .i64 x4_1 ∧ Aside0 (trivetref12_Level.l0 kq x3_1 x4_1 a0_0 a0_1 a0_2 a0_3 a0_4 a0_5 a0_6 a0_7 a0_8 = some r) ∧ Aside0 (kq ≤ k) ∧ Aside0 (w'.heap[gb255]? = some (.cells #[.int .i64 a0_0, .int .i64 a0_1, .int .i64 a0_2, .int .i64 a0_3, .int .i64 a0_4, .int .i64 a0_5, .int .i64 a0_6, .int .i64 a0_7, .int .i64 a0_8] 23 (0, 0))) ∧ Aside0 (Below w.heap.size w w'))
  case atStart => exact ⟨(0), (wrap64 (2 * a0_0)), (by first | rfl | (simp; done) | (simp [*]; done)), (by first | rfl | (simp; done) | (simp [*]; done)), H', ⟨Nat.le_refl _⟩, ⟨by (with_reducible repeat (first | refine blk_drewN ?_ _ | refine blk_drew ?_ | refine blk_alloc ?_ _)); exact BK255.out⟩, ⟨by repeat (first | (with_reducible first | exact HB.out | apply below_alloc | apply pw_below_drewN | apply below_drew1 | refine below_set ?_ GE255.out) | exact HB.out)⟩⟩
  case round =>
    clear H'
    try clear c2
    try clear p2
    try clear hcz3
    obtain ⟨x3_1, x4_1, rfl, rfl, HA, HK1, BK255, HB⟩ := hrel
    cases gk with
    | zero => exact absurd HA.out (by simp [trivetref12_Level.l0])
    | succ k1 =>
      have H := HA.out
      clear HA
      simp only [trivetref12_Level.l0] at H
      by_cases c4 : x3_1 < x4_1
      · rw [if_pos c4] at H
        have c4b0 : decide (x3_1 < x4_1) = true := decide_eq_true c4
        clear c4
        replace H := Option.bind_eq_some_iff.mp H
        obtain ⟨t256, A50, H⟩ := H
        replace H : (if t256 = true then (trivetref12_Level.l0 k1 x3_1 (wrap64 (x3_1 + (wrap64 (Int.tdiv (wrap64 (x4_1 - x3_1)) 2)))) a0_0 a0_1 a0_2 a0_3 a0_4 a0_5 a0_6 a0_7 a0_8) else (trivetref12_Level.l0 k1 (wrap64 ((wrap64 (x3_1 + (wrap64 (Int.tdiv (wrap64 (x4_1 - x3_1)) 2)))) + 1)) x4_1 a0_0 a0_1 a0_2 a0_3 a0_4 a0_5 a0_6 a0_7 a0_8)) = some r := H
        have A5 := Aside0.mk A50
        clear A50
        by_cases c6 : t256 = true
        · subst c6
          have H1 : (trivetref12_Level.l0 k1 x3_1 (wrap64 (x3_1 + (wrap64 (Int.tdiv (wrap64 (x4_1 - x3_1)) 2)))) a0_0 a0_1 a0_2 a0_3 a0_4 a0_5 a0_6 a0_7 a0_8) = some r := by rw [if_pos rfl] at H; exact H
          clear H
          have H := H1
          clear H1
          have H' := Aside0.mk H
          clear H
          have hcz7 := blkAll9 BK255.out
          go_wp2_with (first | ((with_reducible refine gate_callee (f := 37) rfl ?_); refine goesL_ (some 26) rfl rfl Try.func37 (by kernel_rfl) rfl #[.int .i64 a0_0, .int .i64 a0_1, .int .i64 (wrap64 (x3_1 + (wrap64 (Int.tdiv (wrap64 (x4_1 - x3_1)) 2)))), .int .i64 a0_2] rfl (by (try simp only [List.map_toArray, List.map_cons, List.map_nil]); first | done | rfl | (simp only [List.length_drop, List.length_take]; rfl)) ?_; (with_reducible refine (trivetref02_Pays_s.calls a0_0 a0_1 (wrap64 (x3_1 + (wrap64 (Int.tdiv (wrap64 (x4_1 - x3_1)) 2)))) a0_2 true _ A5.out).mono ?_); rintro e w' ⟨rfl, ⟨nd, rfl⟩⟩; refine ⟨_, rfl, ?_⟩))
          go_roundg k1
          case measure => have := HK1.out; omega
          case rel => exact ⟨(x3_1), (wrap64 (x3_1 + (wrap64 (Int.tdiv (wrap64 (x4_1 - x3_1)) 2)))), (by first | rfl | (simp; done) | (simp [*]; done)), (by first | rfl | (simp; done) | (simp [*]; done)), H', ⟨by have := HK1.out; omega⟩, ⟨by (with_reducible repeat (first | refine blk_drewN ?_ _ | refine blk_drew ?_ | refine blk_alloc ?_ _)); exact BK255.out⟩, ⟨by repeat (first | (with_reducible first | exact HB.out | apply below_alloc | apply pw_below_drewN | apply below_drew1 | refine below_set ?_ GE255.out) | exact HB.out)⟩⟩
        · replace c6 := Bool.eq_false_iff.mpr c6
          subst c6
          have H1 : (trivetref12_Level.l0 k1 (wrap64 ((wrap64 (x3_1 + (wrap64 (Int.tdiv (wrap64 (x4_1 - x3_1)) 2)))) + 1)) x4_1 a0_0 a0_1 a0_2 a0_3 a0_4 a0_5 a0_6 a0_7 a0_8) = some r := by rw [if_neg (show ¬ (false = true) by decide)] at H; exact H
          clear H
          have H := H1
          clear H1
          have H' := Aside0.mk H
          clear H
          have hcz8 := blkAll9 BK255.out
          go_wp2_with (first | ((with_reducible refine gate_callee (f := 37) rfl ?_); refine goesL_ (some 26) rfl rfl Try.func37 (by kernel_rfl) rfl #[.int .i64 a0_0, .int .i64 a0_1, .int .i64 (wrap64 (x3_1 + (wrap64 (Int.tdiv (wrap64 (x4_1 - x3_1)) 2)))), .int .i64 a0_2] rfl (by (try simp only [List.map_toArray, List.map_cons, List.map_nil]); first | done | rfl | (simp only [List.length_drop, List.length_take]; rfl)) ?_; (with_reducible refine (trivetref02_Pays_s.calls a0_0 a0_1 (wrap64 (x3_1 + (wrap64 (Int.tdiv (wrap64 (x4_1 - x3_1)) 2)))) a0_2 false _ A5.out).mono ?_); rintro e w' ⟨rfl, ⟨nd, rfl⟩⟩; refine ⟨_, rfl, ?_⟩))
          go_roundg k1
          case measure => have := HK1.out; omega
          case rel => exact ⟨(wrap64 ((wrap64 (x3_1 + (wrap64 (Int.tdiv (wrap64 (x4_1 - x3_1)) 2)))) + 1)), (x4_1), (by first | rfl | (simp; done) | (simp [*]; done)), (by first | rfl | (simp; done) | (simp [*]; done)), H', ⟨by have := HK1.out; omega⟩, ⟨by (with_reducible repeat (first | refine blk_drewN ?_ _ | refine blk_drew ?_ | refine blk_alloc ?_ _)); exact BK255.out⟩, ⟨by repeat (first | (with_reducible first | exact HB.out | apply below_alloc | apply pw_below_drewN | apply below_drew1 | refine below_set ?_ GE255.out) | exact HB.out)⟩⟩
      · rw [if_neg c4] at H
        have c4b0 : decide (x3_1 < x4_1) = false := decide_eq_false c4
        clear c4
        obtain rfl := Option.some.inj H
        go_wp2
        go_ret
        exact ⟨by first | rfl | (simp [errW_none, errW_some] <;> rfl) | (simp [*, errW_none, errW_some] <;> rfl), by repeat (first | (with_reducible first | exact HB.out | apply below_alloc | apply pw_below_drewN | apply below_drew1 | refine below_set ?_ GE255.out) | exact HB.out)⟩

/-! ### trivetref12_Level_s: function 24, told plainly -/
theorem trivetref12_Level.loop {b r m f e i w fe g : Int} (hok : M.termsOk b r m f e i w fe g) : ∀ (j : Nat) (lo hi : Int) (k : Nat), 0 ≤ lo → lo ≤ M.level m.toNat b r → M.level m.toNat b r ≤ hi → hi ≤ 2 * b → hi - lo < 2 ^ j → trivetref12_Level.l0 (k + j + 1) lo hi b r m f e i w fe g = some (M.level m.toNat b r)
  | j, lo, hi, k, h0, h1, h2, h3, h4 => by
    have ht := M.terms_may hok
    have hb := ht.1.2.1
    by_cases c : lo < hi
    · obtain ⟨j, rfl⟩ : ∃ q, j = q + 1 := by
        cases j with
        | zero => simp only [Int.pow_zero] at h4; omega
        | succ q => exact ⟨q, rfl⟩
      have hp : (2 : Int) ^ (j + 1) = 2 ^ j * 2 := by rw [Int.pow_succ]
      rw [hp] at h4
      obtain ⟨mid, hmid⟩ : ∃ z, z = lo + (hi - lo) / 2 := ⟨_, rfl⟩
      have ih1 := trivetref12_Level.loop (f := f) hok j lo mid k h0 h1
      have ih2 := trivetref12_Level.loop (f := f) hok j (mid + 1) hi k (by omega)
      obtain ⟨K, hK⟩ : ∃ K, K = k + j + 1 := ⟨_, rfl⟩
      rw [← hK] at ih1 ih2
      rw [show k + (j + 1) + 1 = K + 1 by omega]
      simp only [trivetref12_Level.l0]
      rw [if_pos c, M.w64_id (n := hi - lo) (by omega) (by omega), M.tdivu (a := hi - lo) (by omega), M.w64_id (n := (hi - lo) / 2) (by omega) (by omega), ← hmid, M.w64_id (n := mid) (by omega) (by omega), trivetref02_Pays_s.yes ⟨ht.1, by omega, by omega, by omega⟩, Option.bind_some, M.w64_id (n := mid + 1) (by omega) (by omega)]
      by_cases p : M.pays m.toNat b r mid = true
      · rw [if_pos p]
        have : M.level m.toNat b r ≤ mid := by
          rcases Int.lt_or_le mid (M.level m.toNat b r) with hlt | hge
          · have := ht.2.2.2.2.2.2.2 mid (by omega) hlt
            rw [this] at p
            cases p
          · exact hge
        exact ih1 this (by omega) (by omega)
      · rw [if_neg p]
        have : mid < M.level m.toNat b r := by
          rcases Int.lt_or_le mid (M.level m.toNat b r) with hlt | hge
          · exact hlt
          · exact absurd (M.pays_mono ht.1 hge ((M.pays_iff _ _ _ _).mpr ht.2.2.2.2.2.2.1)) p
        exact ih2 (by omega) h2 h3 (by omega)
    · simp only [trivetref12_Level.l0]
      rw [if_neg c]
      exact congrArg some (by omega)
theorem trivetref12_Level.tells (b r m f e i w fe g : Int) (hok : M.termsOk b r m f e i w fe g) (k : Nat) (hk : 51 ≤ k) : trivetref12_Level.f k b r m f e i w fe g = some (M.level m.toNat b r) := by
  have ht := M.terms_may hok
  have hb := ht.1.2.1
  unfold trivetref12_Level.f
  rw [M.w64_id (n := 2 * b) (by omega) (by omega)]
  obtain ⟨z, rfl⟩ : ∃ z, k = z + 50 + 1 := ⟨k - 51, by omega⟩
  exact trivetref12_Level.loop hok 50 0 (2 * b) z (by omega) (by omega) (by omega) (by omega) (Int.lt_of_le_of_lt (show 2 * b - 0 ≤ 20000000000000 by omega) (by decide))
def trivetref12_Level_s.f (b r m f e i w fe g : Int) : Option Int := if M.termsOk b r m f e i w fe g then some (M.level m.toNat b r) else none
theorem trivetref12_Level_s.calls (a0_0 : Int) (a0_1 : Int) (a0_2 : Int) (a0_3 : Int) (a0_4 : Int) (a0_5 : Int) (a0_6 : Int) (a0_7 : Int) (a0_8 : Int) (r : Int) (w : World) (h : trivetref12_Level_s.f a0_0 a0_1 a0_2 a0_3 a0_4 a0_5 a0_6 a0_7 a0_8 = some r) :
    Calls Try.prog 24 #[.agg #[.int .i64 a0_0, .int .i64 a0_1, .int .i64 a0_2, .int .i64 a0_3, .int .i64 a0_4, .int .i64 a0_5, .int .i64 a0_6, .int .i64 a0_7, .int .i64 a0_8]] w fun e w' => e = .returned (.int .i64 r) ∧ Below w.heap.size w w' := by
  unfold trivetref12_Level_s.f at h
  split at h
  · rename_i hr
    exact trivetref12_Level.calls (51) a0_0 a0_1 a0_2 a0_3 a0_4 a0_5 a0_6 a0_7 a0_8 r w ((trivetref12_Level.tells a0_0 a0_1 a0_2 a0_3 a0_4 a0_5 a0_6 a0_7 a0_8 hr (51) (Nat.le_refl _)).trans h)
  · cases h
theorem trivetref12_Level_s.yes {b r m f e i w fe g : Int} (h : M.termsOk b r m f e i w fe g) : trivetref12_Level_s.f b r m f e i w fe g = some (M.level m.toNat b r) := by unfold trivetref12_Level_s.f; rw [if_pos h]

/-! ### trivetref11_Due: function 26 -/
def trivetref11_Due.f (a0_0 : Int) (a0_1 : Int) (a0_2 : Int) (a0_3 : Int) (a0_4 : Int) (a0_5 : Int) (a0_6 : Int) (a0_7 : Int) (a0_8 : Int) (a1 : Int) : Option (Int) := (trivetref04_Of_s.f a0_3).bind fun bt258 => ((trivetref04_Months_s.f bt258.1 bt258.2.1 bt258.2.2.1 a1).bind fun bt263 => ((trivetref04_Number_s.f bt263.1 bt263.2.1 bt263.2.2.1).bind fun t268 => (some t268)))
set_option maxHeartbeats 8000000 in
set_option maxRecDepth 100000 in
theorem trivetref11_Due.calls (a0_0 : Int) (a0_1 : Int) (a0_2 : Int) (a0_3 : Int) (a0_4 : Int) (a0_5 : Int) (a0_6 : Int) (a0_7 : Int) (a0_8 : Int) (a1 : Int) (r : Int) (w : World) (h : trivetref11_Due.f a0_0 a0_1 a0_2 a0_3 a0_4 a0_5 a0_6 a0_7 a0_8 a1 = some r) :
    Calls Try.prog 26 #[.agg #[.int .i64 a0_0, .int .i64 a0_1, .int .i64 a0_2, .int .i64 a0_3, .int .i64 a0_4, .int .i64 a0_5, .int .i64 a0_6, .int .i64 a0_7, .int .i64 a0_8], .int .i64 a1] w fun e w' => e = .returned (.int .i64 r) ∧ Below w.heap.size w w' := by
  have hu23 := Try.underlying23
  have hu56 := Try.underlying56
  have HB := Aside0.mk (Below.refl w.heap.size w)
  have H : ((trivetref04_Of_s.f a0_3).bind fun bt258 => ((trivetref04_Months_s.f bt258.1 bt258.2.1 bt258.2.2.1 a1).bind fun bt263 => ((trivetref04_Number_s.f bt263.1 bt263.2.1 bt263.2.2.1).bind fun t268 => (some t268)))) = some r := h
  clear h
  replace H := Option.bind_eq_some_iff.mp H
  obtain ⟨⟨t258, t259, t260, t261⟩, A30, H⟩ := H
  replace H : ((trivetref04_Months_s.f t258 t259 t260 a1).bind fun bt263 => ((trivetref04_Number_s.f bt263.1 bt263.2.1 bt263.2.2.1).bind fun t268 => (some t268))) = some r := H
  have A3 := Aside0.mk A30
  clear A30
  replace H := Option.bind_eq_some_iff.mp H
  obtain ⟨⟨t263, t264, t265, t266⟩, A40, H⟩ := H
  replace H : ((trivetref04_Number_s.f t263 t264 t265).bind fun t268 => (some t268)) = some r := H
  have A4 := Aside0.mk A40
  clear A40
  replace H := Option.bind_eq_some_iff.mp H
  obtain ⟨t268, A50, H⟩ := H
  replace H : (some t268) = some r := H
  have A5 := Aside0.mk A50
  clear A50
  obtain rfl := Option.some.inj H
  go_enter Try.func26, Try.ntmps26
  go_wp2_with (first | ((with_reducible refine gate_dst (N := 2) rfl ?_); refine box_event ?hg (N := 2) ?hd (cs := #[.int .i64 a0_0, .int .i64 a0_1, .int .i64 a0_2, .int .i64 a0_3, .int .i64 a0_4, .int .i64 a0_5, .int .i64 a0_6, .int .i64 a0_7, .int .i64 a0_8]) (t := 23) ?hr ?_; (case hd => rfl); (case hg => rfl); (case hr => first | (go_simp; done) | (go_simp; rfl)); intro gb257 hg w6 hbox hb; have n0_ := Aside0.mk (below_step (by repeat (first | (with_reducible first | exact HB.out | apply below_alloc | apply pw_below_drewN | apply below_drew1) | exact HB.out)) hb); have n1_ := Aside0.mk (hbox); have n2_ := Aside0.mk ((by rw [hg]; exact (below_size (by repeat (first | (with_reducible first | exact HB.out | apply below_alloc | apply pw_below_drewN | apply below_drew1) | exact HB.out))) : w.heap.size ≤ gb257)); have n3_ := Aside0.mk ((by rw [hg]; exact (below_size (by repeat (first | (with_reducible first | exact HB.out | apply below_alloc | apply pw_below_drewN | apply below_drew1) | exact HB.out))) : w.heap.size ≤ gb257)); clear HB; have HB := n0_; have BK257 := n1_; have GW257 := n2_; have GE257 := n3_; clear n0_ n1_ n2_ n3_; clear hb hbox hg; have hcz7 := blkAll9 BK257.out) | ((with_reducible refine gate_callee (f := 22) rfl ?_); refine goesL_ (some 12) rfl rfl Try.func22 (by kernel_rfl) rfl #[.int .i64 a0_3] rfl (by (try simp only [List.map_toArray, List.map_cons, List.map_nil]); first | done | rfl | (simp only [List.length_drop, List.length_take]; rfl)) ?_; (with_reducible refine (trivetref04_Of_s.calls a0_3 t258 t259 t260 t261 _ A3.out).mono ?_); rintro e w8 ⟨rfl, hb⟩; refine ⟨_, rfl, ?_⟩; have n0_ := Aside0.mk (blk_below (g := gb257) (o := .cells #[.int .i64 a0_0, .int .i64 a0_1, .int .i64 a0_2, .int .i64 a0_3, .int .i64 a0_4, .int .i64 a0_5, .int .i64 a0_6, .int .i64 a0_7, .int .i64 a0_8] 23 (0, 0)) (by (with_reducible repeat (first | refine blk_drewN ?_ _ | refine blk_drew ?_ | refine blk_alloc ?_ _)); exact BK257.out) hb); have n1_ := Aside0.mk (below_step (by repeat (first | (with_reducible first | exact HB.out | apply below_alloc | apply pw_below_drewN | apply below_drew1 | refine below_set ?_ GE257.out) | exact HB.out)) hb); clear BK257; clear HB; have BK257 := n0_; have HB := n1_; clear n0_ n1_; (try clear hb); (try clear hb2); (try clear hk); (try clear hi)) | ((with_reducible refine gate_dst (N := 5) rfl ?_); refine box_event ?hg (N := 5) ?hd (cs := #[.int .i64 0, .int .i64 0, .int .i64 0]) (t := 56) ?hr ?_; (case hd => rfl); (case hg => rfl); (case hr => first | (go_simp; done) | (go_simp; rfl)); intro gb262 hg w9 hbox hb; have n0_ := Aside0.mk (blk_below (g := gb257) (o := .cells #[.int .i64 a0_0, .int .i64 a0_1, .int .i64 a0_2, .int .i64 a0_3, .int .i64 a0_4, .int .i64 a0_5, .int .i64 a0_6, .int .i64 a0_7, .int .i64 a0_8] 23 (0, 0)) (by (with_reducible repeat (first | refine blk_drewN ?_ _ | refine blk_drew ?_ | refine blk_alloc ?_ _)); exact BK257.out) hb); have n1_ := Aside0.mk (below_step (by repeat (first | (with_reducible first | exact HB.out | apply below_alloc | apply pw_below_drewN | apply below_drew1 | refine below_set ?_ GE257.out) | exact HB.out)) hb); have n2_ := Aside0.mk (hbox); have n3_ := Aside0.mk ((by rw [hg]; exact (below_size (by repeat (first | (with_reducible first | exact HB.out | apply below_alloc | apply pw_below_drewN | apply below_drew1 | refine below_set ?_ GE257.out) | exact HB.out))) : w.heap.size ≤ gb262)); have n4_ := Aside0.mk ((by rw [hg]; exact (below_size (by repeat (first | (with_reducible first | exact HB.out | apply below_alloc | apply pw_below_drewN | apply below_drew1 | refine below_set ?_ GE257.out) | exact HB.out))) : w.heap.size ≤ gb262)); have n5_ := Aside0.mk ((by rw [hg]; exact Nat.ne_of_lt (blk_lt (g := gb257) (o := .cells #[.int .i64 a0_0, .int .i64 a0_1, .int .i64 a0_2, .int .i64 a0_3, .int .i64 a0_4, .int .i64 a0_5, .int .i64 a0_6, .int .i64 a0_7, .int .i64 a0_8] 23 (0, 0)) (by (with_reducible repeat (first | refine blk_drewN ?_ _ | refine blk_drew ?_ | refine blk_alloc ?_ _)); exact BK257.out)) : gb257 ≠ gb262)); have n6_ := Aside0.mk ((by rw [hg]; exact Nat.ne_of_gt (blk_lt (g := gb257) (o := .cells #[.int .i64 a0_0, .int .i64 a0_1, .int .i64 a0_2, .int .i64 a0_3, .int .i64 a0_4, .int .i64 a0_5, .int .i64 a0_6, .int .i64 a0_7, .int .i64 a0_8] 23 (0, 0)) (by (with_reducible repeat (first | refine blk_drewN ?_ _ | refine blk_drew ?_ | refine blk_alloc ?_ _)); exact BK257.out)) : gb262 ≠ gb257)); clear BK257; clear HB; have BK257 := n0_; have HB := n1_; have BK262 := n2_; have GW262 := n3_; have GE262 := n4_; have NB257_262 := n5_; have NB262_257 := n6_; clear n0_ n1_ n2_ n3_ n4_ n5_ n6_; clear hb hbox hg; have hnb10 := NB262_257.out; have hnc10 := NB257_262.out; have hcz11 := blkAll3 BK262.out) | ((with_reducible refine gate_callee (f := 23) rfl ?_); refine goesL_ (some 18) rfl rfl Try.func23 (by kernel_rfl) rfl #[.agg #[.int .i64 t258, .int .i64 t259, .int .i64 t260], .int .i64 a1] rfl (by (try simp only [List.map_toArray, List.map_cons, List.map_nil]); first | done | rfl | (simp only [List.length_drop, List.length_take]; rfl)) ?_; (with_reducible refine (trivetref04_Months_s.calls t258 t259 t260 a1 t263 t264 t265 t266 _ A4.out).mono ?_); rintro e w12 ⟨rfl, hb⟩; refine ⟨_, rfl, ?_⟩; have n0_ := Aside0.mk (blk_below (g := gb257) (o := .cells #[.int .i64 a0_0, .int .i64 a0_1, .int .i64 a0_2, .int .i64 a0_3, .int .i64 a0_4, .int .i64 a0_5, .int .i64 a0_6, .int .i64 a0_7, .int .i64 a0_8] 23 (0, 0)) (by (with_reducible repeat (first | refine blk_drewN ?_ _ | refine blk_drew ?_ | refine blk_alloc ?_ _ | refine blk_far ?_ NB257_262.out _)); exact BK257.out) hb); have n1_ := Aside0.mk (blk_below (g := gb262) (o := .cells #[.int .i64 t258, .int .i64 t259, .int .i64 t260] 56 (0, 0)) (by (with_reducible repeat (first | refine blk_drewN ?_ _ | refine blk_drew ?_ | refine blk_alloc ?_ _ | apply blkPut3_2 | apply blkPut3_1 | apply blkPut3_0)); exact BK262.out) hb); have n2_ := Aside0.mk (below_step (by repeat (first | (with_reducible first | exact HB.out | apply below_alloc | apply pw_below_drewN | apply below_drew1 | refine below_set ?_ GE257.out | refine below_set ?_ GE262.out) | exact HB.out)) hb); clear BK257; clear BK262; clear HB; have BK257 := n0_; have BK262 := n1_; have HB := n2_; clear n0_ n1_ n2_; (try clear hb); (try clear hb2); (try clear hk); (try clear hi)) | ((with_reducible refine gate_dst (N := 7) rfl ?_); refine box_event ?hg (N := 7) ?hd (cs := #[.int .i64 0, .int .i64 0, .int .i64 0]) (t := 56) ?hr ?_; (case hd => rfl); (case hg => rfl); (case hr => first | (go_simp; done) | (go_simp; rfl)); intro gb267 hg w13 hbox hb; have n0_ := Aside0.mk (blk_below (g := gb257) (o := .cells #[.int .i64 a0_0, .int .i64 a0_1, .int .i64 a0_2, .int .i64 a0_3, .int .i64 a0_4, .int .i64 a0_5, .int .i64 a0_6, .int .i64 a0_7, .int .i64 a0_8] 23 (0, 0)) (by (with_reducible repeat (first | refine blk_drewN ?_ _ | refine blk_drew ?_ | refine blk_alloc ?_ _)); exact BK257.out) hb); have n1_ := Aside0.mk (blk_below (g := gb262) (o := .cells #[.int .i64 t258, .int .i64 t259, .int .i64 t260] 56 (0, 0)) (by (with_reducible repeat (first | refine blk_drewN ?_ _ | refine blk_drew ?_ | refine blk_alloc ?_ _)); exact BK262.out) hb); have n2_ := Aside0.mk (below_step (by repeat (first | (with_reducible first | exact HB.out | apply below_alloc | apply pw_below_drewN | apply below_drew1 | refine below_set ?_ GE257.out | refine below_set ?_ GE262.out) | exact HB.out)) hb); have n3_ := Aside0.mk (hbox); have n4_ := Aside0.mk ((by rw [hg]; exact (below_size (by repeat (first | (with_reducible first | exact HB.out | apply below_alloc | apply pw_below_drewN | apply below_drew1 | refine below_set ?_ GE257.out | refine below_set ?_ GE262.out) | exact HB.out))) : w.heap.size ≤ gb267)); have n5_ := Aside0.mk ((by rw [hg]; exact (below_size (by repeat (first | (with_reducible first | exact HB.out | apply below_alloc | apply pw_below_drewN | apply below_drew1 | refine below_set ?_ GE257.out | refine below_set ?_ GE262.out) | exact HB.out))) : w.heap.size ≤ gb267)); have n6_ := Aside0.mk ((by rw [hg]; exact Nat.ne_of_lt (blk_lt (g := gb257) (o := .cells #[.int .i64 a0_0, .int .i64 a0_1, .int .i64 a0_2, .int .i64 a0_3, .int .i64 a0_4, .int .i64 a0_5, .int .i64 a0_6, .int .i64 a0_7, .int .i64 a0_8] 23 (0, 0)) (by (with_reducible repeat (first | refine blk_drewN ?_ _ | refine blk_drew ?_ | refine blk_alloc ?_ _)); exact BK257.out)) : gb257 ≠ gb267)); have n7_ := Aside0.mk ((by rw [hg]; exact Nat.ne_of_gt (blk_lt (g := gb257) (o := .cells #[.int .i64 a0_0, .int .i64 a0_1, .int .i64 a0_2, .int .i64 a0_3, .int .i64 a0_4, .int .i64 a0_5, .int .i64 a0_6, .int .i64 a0_7, .int .i64 a0_8] 23 (0, 0)) (by (with_reducible repeat (first | refine blk_drewN ?_ _ | refine blk_drew ?_ | refine blk_alloc ?_ _)); exact BK257.out)) : gb267 ≠ gb257)); have n8_ := Aside0.mk ((by rw [hg]; exact Nat.ne_of_lt (blk_lt (g := gb262) (o := .cells #[.int .i64 t258, .int .i64 t259, .int .i64 t260] 56 (0, 0)) (by (with_reducible repeat (first | refine blk_drewN ?_ _ | refine blk_drew ?_ | refine blk_alloc ?_ _)); exact BK262.out)) : gb262 ≠ gb267)); have n9_ := Aside0.mk ((by rw [hg]; exact Nat.ne_of_gt (blk_lt (g := gb262) (o := .cells #[.int .i64 t258, .int .i64 t259, .int .i64 t260] 56 (0, 0)) (by (with_reducible repeat (first | refine blk_drewN ?_ _ | refine blk_drew ?_ | refine blk_alloc ?_ _)); exact BK262.out)) : gb267 ≠ gb262)); clear BK257; clear BK262; clear HB; have BK257 := n0_; have BK262 := n1_; have HB := n2_; have BK267 := n3_; have GW267 := n4_; have GE267 := n5_; have NB257_267 := n6_; have NB267_257 := n7_; have NB262_267 := n8_; have NB267_262 := n9_; clear n0_ n1_ n2_ n3_ n4_ n5_ n6_ n7_ n8_ n9_; clear hb hbox hg; have hnb14 := NB267_257.out; have hnc14 := NB257_267.out; have hnb15 := NB267_262.out; have hnc15 := NB262_267.out; have hcz16 := blkAll3 BK267.out) | ((with_reducible refine gate_callee (f := 34) rfl ?_); refine goesL_ (some 22) rfl rfl Try.func34 (by kernel_rfl) rfl #[.agg #[.int .i64 t263, .int .i64 t264, .int .i64 t265]] rfl (by (try simp only [List.map_toArray, List.map_cons, List.map_nil]); first | done | rfl | (simp only [List.length_drop, List.length_take]; rfl)) ?_; (with_reducible refine (trivetref04_Number_s.calls t263 t264 t265 t268 _ A5.out).mono ?_); rintro e w17 ⟨rfl, hb⟩; refine ⟨_, rfl, ?_⟩; have n0_ := Aside0.mk (blk_below (g := gb257) (o := .cells #[.int .i64 a0_0, .int .i64 a0_1, .int .i64 a0_2, .int .i64 a0_3, .int .i64 a0_4, .int .i64 a0_5, .int .i64 a0_6, .int .i64 a0_7, .int .i64 a0_8] 23 (0, 0)) (by (with_reducible repeat (first | refine blk_drewN ?_ _ | refine blk_drew ?_ | refine blk_alloc ?_ _ | refine blk_far ?_ NB257_267.out _)); exact BK257.out) hb); have n1_ := Aside0.mk (blk_below (g := gb262) (o := .cells #[.int .i64 t258, .int .i64 t259, .int .i64 t260] 56 (0, 0)) (by (with_reducible repeat (first | refine blk_drewN ?_ _ | refine blk_drew ?_ | refine blk_alloc ?_ _ | refine blk_far ?_ NB262_267.out _)); exact BK262.out) hb); have n2_ := Aside0.mk (blk_below (g := gb267) (o := .cells #[.int .i64 t263, .int .i64 t264, .int .i64 t265] 56 (0, 0)) (by (with_reducible repeat (first | refine blk_drewN ?_ _ | refine blk_drew ?_ | refine blk_alloc ?_ _ | apply blkPut3_2 | apply blkPut3_1 | apply blkPut3_0)); exact BK267.out) hb); have n3_ := Aside0.mk (below_step (by repeat (first | (with_reducible first | exact HB.out | apply below_alloc | apply pw_below_drewN | apply below_drew1 | refine below_set ?_ GE257.out | refine below_set ?_ GE262.out | refine below_set ?_ GE267.out) | exact HB.out)) hb); clear BK257; clear BK262; clear BK267; clear HB; have BK257 := n0_; have BK262 := n1_; have BK267 := n2_; have HB := n3_; clear n0_ n1_ n2_ n3_; (try clear hb); (try clear hb2); (try clear hk); (try clear hi)))
  go_ret
  exact ⟨by first | rfl | (simp [errW_none, errW_some] <;> rfl) | (simp [*, errW_none, errW_some] <;> rfl), by repeat (first | (with_reducible first | exact HB.out | apply below_alloc | apply pw_below_drewN | apply below_drew1 | refine below_set ?_ GE257.out | refine below_set ?_ GE262.out | refine below_set ?_ GE267.out) | exact HB.out)⟩

/-! ### trivetref11_Due_s: function 26, told plainly -/
theorem trivetref11_Due.tells (b r m f e i w fe g n : Int) (h : M.termsOk b r m f e i w fe g ∧ 0 ≤ n ∧ n ≤ m) : trivetref11_Due.f b r m f e i w fe g n = some (M.due f n) := by
  obtain ⟨hok, h1, h2⟩ := h
  have fd := M.first_date hok.1
  have hi : M.inYears (M.m0 f + n) := by
    have a := hok.2.2.2.2.2.2.2.2
    have b' := fd.2.2.1
    unfold M.inYears at *
    omega
  have md := M.month_date hi
  have hm := hok.2.2.2.1
  unfold trivetref11_Due.f
  rw [trivetref04_Of_s.yes ⟨hok.1.1, hok.1.2.1⟩, Option.bind_some]
  simp only []
  rw [hok.1.2.2, trivetref04_Months_s.yes fd.1 ⟨by omega, by omega, hi⟩, Option.bind_some]
  have e1 : M.mt (M.yr f) (M.mo f) = M.m0 f := rfl
  simp only []
  rw [e1, md.2.2, trivetref04_Number_s.yes md.1, md.2.1]
  rfl
def trivetref11_Due_s.f (b r m f e i w fe g n : Int) : Option Int := if M.termsOk b r m f e i w fe g ∧ 0 ≤ n ∧ n ≤ m then some (M.due f n) else none
theorem trivetref11_Due_s.calls (a0_0 : Int) (a0_1 : Int) (a0_2 : Int) (a0_3 : Int) (a0_4 : Int) (a0_5 : Int) (a0_6 : Int) (a0_7 : Int) (a0_8 : Int) (a1 : Int) (r : Int) (w : World) (h : trivetref11_Due_s.f a0_0 a0_1 a0_2 a0_3 a0_4 a0_5 a0_6 a0_7 a0_8 a1 = some r) :
    Calls Try.prog 26 #[.agg #[.int .i64 a0_0, .int .i64 a0_1, .int .i64 a0_2, .int .i64 a0_3, .int .i64 a0_4, .int .i64 a0_5, .int .i64 a0_6, .int .i64 a0_7, .int .i64 a0_8], .int .i64 a1] w fun e w' => e = .returned (.int .i64 r) ∧ Below w.heap.size w w' := by
  unfold trivetref11_Due_s.f at h
  split at h
  · rename_i hr
    exact trivetref11_Due.calls a0_0 a0_1 a0_2 a0_3 a0_4 a0_5 a0_6 a0_7 a0_8 a1 r w ((trivetref11_Due.tells a0_0 a0_1 a0_2 a0_3 a0_4 a0_5 a0_6 a0_7 a0_8 a1 hr).trans h)
  · cases h
theorem trivetref11_Due_s.yes {b r m f e i w fe g n : Int} (h : M.termsOk b r m f e i w fe g ∧ 0 ≤ n ∧ n ≤ m) : trivetref11_Due_s.f b r m f e i w fe g n = some (M.due f n) := by unfold trivetref11_Due_s.f; rw [if_pos h]

end Go.Proofs.Ytinpdbimbnhpoaa.P
