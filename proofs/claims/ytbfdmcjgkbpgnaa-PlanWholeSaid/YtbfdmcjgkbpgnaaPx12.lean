-- Written by a program of this session out of the translation of the seat: Lean functions and the proofs that the Go functions come to them.
import Derived.Test.YtbfdmcjgkbpgnaaPx0
import Derived.Test.YtbfdmcjgkbpgnaaPx10
import Derived.Test.YtbfdmcjgkbpgnaaPx11
namespace Go.Proofs.Ytbfdmcjgkbpgnaa.P
open Go.RowKit Go.Proofs.YtbfdmcjgkbpgnaaW.PrintWords Go.Proofs.YtbfdmcjgkbpgnaaW.PrintLast Go.Proofs.YtbfdmcjgkbpgnaaW.PrintMore
attribute [local go_sem] max2_int min2_int max_two min_two max_three min_three max_four min_four   -- for this text's walks alone
set_option linter.unusedVariables false
set_option linter.unusedSimpArgs false

/-! ### trivetref11_May_s: function 8, told plainly -/
theorem trivetref11_May.tells (b r m f e i w fe g : Int) (h : M.In f ∧ M.In fe ∧ M.In g) (k : Nat) (hk : 4 ≤ k) : trivetref11_May.f k b r m f e i w fe g = some (decide (M.termsOk b r m f e i w fe g)) := by
  obtain ⟨k, rfl⟩ : ∃ m, k = m + 4 := ⟨k - 4, by omega⟩
  have out : ¬ M.termsOk b r m f e i w fe g → ∀ x y z, trivetref11_May.j0 (k + 4) true b r m f e i w fe g x y z = some (decide (M.termsOk b r m f e i w fe g)) := by
    intro hn x y z
    rw [decide_eq_false hn]
    simp [trivetref11_May.j0]
  unfold trivetref11_May.f
  by_cases h1 : -25567 ≤ f ∧ f ≤ 84005
  · rw [trivetref04_Of_s.yes h1, Option.bind_some]
    simp only [if_true]
    by_cases h2 : M.dy f = 1
    · have hf : M.firstOk f := ⟨h1.1, h1.2, h2⟩
      have fd := M.first_date hf
      rw [if_pos h2]
      by_cases h4 : m < 1
      · rw [if_pos h4]; exact out (fun hh => by have := hh.2.2; omega) _ _ _
      rw [if_neg h4]
      by_cases h5 : m > 480
      · rw [decide_eq_true h5]; exact out (fun hh => by have := hh.2.2; omega) _ _ _
      rw [decide_eq_false h5]
      simp only [trivetref11_May.j0]
      rw [if_neg (by decide), h2]
      have rest : ∀ x : Bool, (x = true ↔ M.inYears (M.m0 f + m)) → (if b ≥ 1 then (if b ≤ 10000000000000 then (if e ≥ 0 then trivetref11_May.j1 (k + 3) x (decide (e ≤ 10000000000000)) b r m f e i w fe g else trivetref11_May.j1 (k + 3) x false b r m f e i w fe g) else trivetref11_May.j1 (k + 3) x false b r m f e i w fe g) else trivetref11_May.j1 (k + 3) x false b r m f e i w fe g) = some (decide (M.termsOk b r m f e i w fe g)) := by
        intro x hx
        have j3 : ∀ z : Bool, trivetref11_May.j3 (k + 1) z = some z := fun z => by simp [trivetref11_May.j3]
        have j2 : ∀ p q : Bool, trivetref11_May.j2 (k + 2) x p q b r m f e i w fe g = some (decide (x = true ∧ p = true ∧ q = true ∧ i ≥ 1 ∧ i ≤ 64 ∧ w ≥ 1 ∧ w ≤ 3)) := by
          intro p q
          simp only [trivetref11_May.j2, j3, M.and_if]
        have j1 : ∀ p : Bool, trivetref11_May.j1 (k + 3) x p b r m f e i w fe g = some (decide (x = true ∧ p = true ∧ (r ≥ 0 ∧ r ≤ 300000 ∧ fe ≥ 0 ∧ g ≥ 0 ∧ fe ≤ 300000 ∧ g ≤ 300000 ∧ wrap64 (fe + g) ≤ r) ∧ i ≥ 1 ∧ i ≤ 64 ∧ w ≥ 1 ∧ w ≤ 3)) := by
          intro p
          simp only [trivetref11_May.j1, j2]
          by_cases c1 : r ≥ 0 <;> by_cases c2 : r ≤ 300000 <;> by_cases c3 : fe ≥ 0 <;> by_cases c4 : g ≥ 0 <;> simp only [c1, c2, c3, c4, if_true, if_false, true_and, false_and, and_false, Bool.false_eq_true, decide_eq_true_eq]
          by_cases c5 : fe ≤ 300000 <;> by_cases c6 : g ≤ 300000 <;> simp only [c5, c6, if_true, if_false, true_and, false_and, and_false, Bool.false_eq_true, decide_eq_true_eq]
        simp only [j1]
        have fin : ∀ p : Bool, (p = true ↔ (b ≥ 1 ∧ b ≤ 10000000000000 ∧ e ≥ 0 ∧ e ≤ 10000000000000)) → some (decide (x = true ∧ p = true ∧ (r ≥ 0 ∧ r ≤ 300000 ∧ fe ≥ 0 ∧ g ≥ 0 ∧ fe ≤ 300000 ∧ g ≤ 300000 ∧ wrap64 (fe + g) ≤ r) ∧ i ≥ 1 ∧ i ≤ 64 ∧ w ≥ 1 ∧ w ≤ 3)) = some (decide (M.termsOk b r m f e i w fe g)) := by
          intro p hp
          refine congrArg some (decide_eq_decide.mpr ?_)
          rw [hx, hp]
          unfold M.termsOk M.moneyOk
          constructor
          · rintro ⟨a1, a2, a3, a4⟩
            have := a3.2.2.2.2.2.2
            rw [M.w64_id (by omega) (by omega)] at this
            exact ⟨hf, by omega, by omega, by omega, by omega, by omega, by omega, by omega, a1⟩
          · rintro ⟨a1, a2, a3, a4, a5, a6, a7, a8, a9⟩
            rw [M.w64_id (by omega) (by omega)]
            exact ⟨a9, by omega, by omega, by omega⟩
        by_cases c1 : b ≥ 1
        · rw [if_pos c1]
          by_cases c2 : b ≤ 10000000000000
          · rw [if_pos c2]
            by_cases c3 : e ≥ 0
            · rw [if_pos c3]; exact fin _ (by simp only [decide_eq_true_eq]; omega)
            · rw [if_neg c3]; exact fin _ (by simp only [Bool.false_eq_true, false_iff]; omega)
          · rw [if_neg c2]; exact fin _ (by simp only [Bool.false_eq_true, false_iff]; omega)
        · rw [if_neg c1]; exact fin _ (by simp only [Bool.false_eq_true, false_iff]; omega)
      by_cases hy : M.inYears (M.m0 f + m)
      · rw [trivetref04_Months_s.yes fd.1 ⟨by omega, by omega, hy⟩, Option.bind_some]
        exact rest true ⟨fun _ => hy, fun _ => rfl⟩
      · rw [trivetref04_Months_s.no fd.1 (fun hh => hy hh.2.2), Option.bind_some]
        exact rest false ⟨fun hh => (by cases hh), fun hh => absurd hh hy⟩
    · rw [if_neg h2]
      exact out (fun hh => h2 hh.1.2.2) _ _ _
  · rw [trivetref04_Of_s.no h.1 h1, Option.bind_some]
    simp only [Bool.false_eq_true, if_false]
    exact out (fun hh => h1 ⟨hh.1.1, hh.1.2.1⟩) _ _ _
def trivetref11_May_s.f (b r m f e i w fe g : Int) : Option Bool := if M.In f ∧ M.In fe ∧ M.In g then some (decide (M.termsOk b r m f e i w fe g)) else none
theorem trivetref11_May_s.calls (a0_0 : Int) (a0_1 : Int) (a0_2 : Int) (a0_3 : Int) (a0_4 : Int) (a0_5 : Int) (a0_6 : Int) (a0_7 : Int) (a0_8 : Int) (r : Bool) (w : World) (h : trivetref11_May_s.f a0_0 a0_1 a0_2 a0_3 a0_4 a0_5 a0_6 a0_7 a0_8 = some r) :
    Calls Try.prog 8 #[.agg #[.int .i64 a0_0, .int .i64 a0_1, .int .i64 a0_2, .int .i64 a0_3, .int .i64 a0_4, .int .i64 a0_5, .int .i64 a0_6, .int .i64 a0_7, .int .i64 a0_8]] w fun e w' => e = .returned (.bool r) ∧ Below w.heap.size w w' := by
  unfold trivetref11_May_s.f at h
  split at h
  · rename_i hr
    exact trivetref11_May.calls (4) a0_0 a0_1 a0_2 a0_3 a0_4 a0_5 a0_6 a0_7 a0_8 r w ((trivetref11_May.tells a0_0 a0_1 a0_2 a0_3 a0_4 a0_5 a0_6 a0_7 a0_8 hr (4) (Nat.le_refl _)).trans h)
  · cases h
theorem trivetref11_May_s.at_ {b r m f e i w fe g : Int} (h : M.In f ∧ M.In fe ∧ M.In g) : trivetref11_May_s.f b r m f e i w fe g = some (decide (M.termsOk b r m f e i w fe g)) := by unfold trivetref11_May_s.f; rw [if_pos h]

/-! ### trivetref02_Month: function 9 -/
def trivetref02_Month.f (a0 : Int) (a1 : Int) : Option (Int) := if (Int.tmod (wrap64 (a0 * a1)) 12000000) > 6000000 then (some (wrap64 ((wrap64 (Int.tdiv (wrap64 (a0 * a1)) 12000000)) + 1))) else (if (Int.tmod (wrap64 (a0 * a1)) 12000000) = 6000000 then (if (Int.tmod (wrap64 (Int.tdiv (wrap64 (a0 * a1)) 12000000)) 2) = 1 then (some (wrap64 ((wrap64 (Int.tdiv (wrap64 (a0 * a1)) 12000000)) + 1))) else (some (wrap64 (Int.tdiv (wrap64 (a0 * a1)) 12000000)))) else (some (wrap64 (Int.tdiv (wrap64 (a0 * a1)) 12000000))))
set_option maxHeartbeats 8000000 in
set_option maxRecDepth 100000 in
theorem trivetref02_Month.calls (a0 : Int) (a1 : Int) (r : Int) (w : World) (h : trivetref02_Month.f a0 a1 = some r) :
    Calls Try.prog 9 #[.int .i64 a0, .int .i64 a1] w fun e w' => e = .returned (.int .i64 r) ∧ Drawn0 w w' := by
  have H : (if (Int.tmod (wrap64 (a0 * a1)) 12000000) > 6000000 then (some (wrap64 ((wrap64 (Int.tdiv (wrap64 (a0 * a1)) 12000000)) + 1))) else (if (Int.tmod (wrap64 (a0 * a1)) 12000000) = 6000000 then (if (Int.tmod (wrap64 (Int.tdiv (wrap64 (a0 * a1)) 12000000)) 2) = 1 then (some (wrap64 ((wrap64 (Int.tdiv (wrap64 (a0 * a1)) 12000000)) + 1))) else (some (wrap64 (Int.tdiv (wrap64 (a0 * a1)) 12000000)))) else (some (wrap64 (Int.tdiv (wrap64 (a0 * a1)) 12000000))))) = some r := h
  clear h
  by_cases c3 : (Int.tmod (wrap64 (a0 * a1)) 12000000) > 6000000
  · rw [if_pos c3] at H
    have c3b0 : decide (6000000 < (Int.tmod (wrap64 (a0 * a1)) 12000000)) = true := decide_eq_true c3
    clear c3
    obtain rfl := Option.some.inj H
    go_enter Try.func9, Try.ntmps9
    go_wp2
    go_ret
    exact ⟨by first | rfl | (simp; done) | (simp [*]; done), by repeat (first | exact Drawn0.refl _ | apply Drawn0.step)⟩
  · rw [if_neg c3] at H
    have c3b0 : decide (6000000 < (Int.tmod (wrap64 (a0 * a1)) 12000000)) = false := decide_eq_false c3
    clear c3
    by_cases c4 : (Int.tmod (wrap64 (a0 * a1)) 12000000) = 6000000
    · rw [if_pos c4] at H
      have c4b0 : ((Int.tmod (wrap64 (a0 * a1)) 12000000) == 6000000) = true := beq_iff_eq.mpr c4
      have c4b1 : ((Int.tmod (wrap64 (a0 * a1)) 12000000) != 6000000) = false := bne_eq_false_iff_eq.mpr c4
      clear c4
      by_cases c5 : (Int.tmod (wrap64 (Int.tdiv (wrap64 (a0 * a1)) 12000000)) 2) = 1
      · rw [if_pos c5] at H
        have c5b0 : ((Int.tmod (wrap64 (Int.tdiv (wrap64 (a0 * a1)) 12000000)) 2) == 1) = true := beq_iff_eq.mpr c5
        have c5b1 : ((Int.tmod (wrap64 (Int.tdiv (wrap64 (a0 * a1)) 12000000)) 2) != 1) = false := bne_eq_false_iff_eq.mpr c5
        clear c5
        obtain rfl := Option.some.inj H
        go_enter Try.func9, Try.ntmps9
        go_wp2
        go_ret
        exact ⟨by first | rfl | (simp; done) | (simp [*]; done), by repeat (first | exact Drawn0.refl _ | apply Drawn0.step)⟩
      · rw [if_neg c5] at H
        have c5b0 : ((Int.tmod (wrap64 (Int.tdiv (wrap64 (a0 * a1)) 12000000)) 2) == 1) = false := beq_eq_false_iff_ne.mpr c5
        have c5b1 : ((Int.tmod (wrap64 (Int.tdiv (wrap64 (a0 * a1)) 12000000)) 2) != 1) = true := bne_iff_ne.mpr c5
        obtain rfl := Option.some.inj H
        go_enter Try.func9, Try.ntmps9
        go_wp2
        go_ret
        exact ⟨by first | rfl | (simp; done) | (simp [*]; done), by repeat (first | exact Drawn0.refl _ | apply Drawn0.step)⟩
    · rw [if_neg c4] at H
      have c4b0 : ((Int.tmod (wrap64 (a0 * a1)) 12000000) == 6000000) = false := beq_eq_false_iff_ne.mpr c4
      have c4b1 : ((Int.tmod (wrap64 (a0 * a1)) 12000000) != 6000000) = true := bne_iff_ne.mpr c4
      obtain rfl := Option.some.inj H
      go_enter Try.func9, Try.ntmps9
      go_wp2
      go_ret
      exact ⟨by first | rfl | (simp; done) | (simp [*]; done), by repeat (first | exact Drawn0.refl _ | apply Drawn0.step)⟩

/-! ### trivetref02_Month_s: function 9, told plainly -/
theorem trivetref02_Month.tells (b r : Int) (h : M.may b r) : trivetref02_Month.f b r = some (M.month b r) := by
  have hp := M.prod_bd h
  unfold trivetref02_Month.f M.month
  rw [M.quo4 _ _ (by decide), M.w64_id (n := b * r) (by omega) (by omega), M.tdivu hp.1, M.tmodu hp.1, M.w64_id (n := b * r / 12000000) (by omega) (by omega), M.tmodu (a := b * r / 12000000) (by omega), M.w64_id (n := b * r / 12000000 + 1) (by omega) (by omega)]
  generalize b * r = n at *
  by_cases h1 : n % 12000000 > 6000000
  · rw [if_pos h1, if_pos (.inl (by omega))]
  · rw [if_neg h1]
    by_cases h2 : n % 12000000 = 6000000
    · rw [if_pos h2]
      by_cases h3 : n / 12000000 % 2 = 1
      · rw [if_pos h3, if_pos (.inr ⟨by omega, h3⟩)]
      · rw [if_neg h3, if_neg (by omega), Int.add_zero]
    · rw [if_neg h2, if_neg (by omega), Int.add_zero]
def trivetref02_Month_s.f (b r : Int) : Option Int := if M.may b r then some (M.month b r) else none
theorem trivetref02_Month_s.calls (a0 : Int) (a1 : Int) (r : Int) (w : World) (h : trivetref02_Month_s.f a0 a1 = some r) :
    Calls Try.prog 9 #[.int .i64 a0, .int .i64 a1] w fun e w' => e = .returned (.int .i64 r) ∧ Drawn0 w w' := by
  unfold trivetref02_Month_s.f at h
  split at h
  · rename_i hr
    exact trivetref02_Month.calls a0 a1 r w ((trivetref02_Month.tells a0 a1 hr).trans h)
  · cases h
theorem trivetref02_Month_s.yes {b r : Int} (h : M.may b r) : trivetref02_Month_s.f b r = some (M.month b r) := by unfold trivetref02_Month_s.f; rw [if_pos h]

/-! ### trivetref02_Next: function 30 -/
def trivetref02_Next.f (a0 : Int) (a1 : Int) (a2 : Int) : Option (Int × Bool) := (trivetref02_Month_s.f a0 a1).bind fun t250 => (if a2 ≥ (wrap64 (a0 + t250)) then (some (0, true)) else (if (wrap64 ((wrap64 (a0 + t250)) - a2)) > 10000000000000 then (some (0, false)) else (some (wrap64 ((wrap64 (a0 + t250)) - a2), true))))
set_option maxHeartbeats 8000000 in
set_option maxRecDepth 100000 in
theorem trivetref02_Next.calls (a0 : Int) (a1 : Int) (a2 : Int) (r1 : Int) (r2 : Bool) (w : World) (h : trivetref02_Next.f a0 a1 a2 = some (r1, r2)) :
    Calls Try.prog 30 #[.int .i64 a0, .int .i64 a1, .int .i64 a2] w fun e w' => e = .returned (.tuple #[.int .i64 r1, .bool r2]) ∧ Drawn0 w w' := by
  have H : ((trivetref02_Month_s.f a0 a1).bind fun t250 => (if a2 ≥ (wrap64 (a0 + t250)) then (some (0, true)) else (if (wrap64 ((wrap64 (a0 + t250)) - a2)) > 10000000000000 then (some (0, false)) else (some (wrap64 ((wrap64 (a0 + t250)) - a2), true))))) = some (r1, r2) := h
  clear h
  replace H := Option.bind_eq_some_iff.mp H
  obtain ⟨t250, A40, H⟩ := H
  replace H : (if a2 ≥ (wrap64 (a0 + t250)) then (some (0, true)) else (if (wrap64 ((wrap64 (a0 + t250)) - a2)) > 10000000000000 then (some (0, false)) else (some (wrap64 ((wrap64 (a0 + t250)) - a2), true)))) = some (r1, r2) := H
  have A4 := Aside0.mk A40
  clear A40
  by_cases c5 : a2 ≥ (wrap64 (a0 + t250))
  · rw [if_pos c5] at H
    have c5b0 : decide ((wrap64 (a0 + t250)) ≤ a2) = true := decide_eq_true c5
    clear c5
    simp only [Option.some.injEq, Prod.mk.injEq] at H
    obtain ⟨rfl, rfl⟩ := H
    go_enter Try.func30, Try.ntmps30
    go_wp2_with (first | ((with_reducible refine gate_callee (f := 9) rfl ?_); refine goesL_ (some 12) rfl rfl Try.func9 (by kernel_rfl) rfl #[.int .i64 a0, .int .i64 a1] rfl (by (try simp only [List.map_toArray, List.map_cons, List.map_nil]); first | done | rfl | (simp only [List.length_drop, List.length_take]; rfl)) ?_; (with_reducible refine (trivetref02_Month_s.calls a0 a1 t250 _ A4.out).mono ?_); rintro e w' ⟨rfl, ⟨nd, rfl⟩⟩; refine ⟨_, rfl, ?_⟩))
    go_ret2
    exact ⟨by first | rfl | (simp; done) | (simp [*]; done), by repeat (first | exact Drawn0.refl _ | apply Drawn0.step)⟩
  · rw [if_neg c5] at H
    have c5b0 : decide ((wrap64 (a0 + t250)) ≤ a2) = false := decide_eq_false c5
    clear c5
    by_cases c6 : (wrap64 ((wrap64 (a0 + t250)) - a2)) > 10000000000000
    · rw [if_pos c6] at H
      have c6b0 : decide (10000000000000 < (wrap64 ((wrap64 (a0 + t250)) - a2))) = true := decide_eq_true c6
      clear c6
      simp only [Option.some.injEq, Prod.mk.injEq] at H
      obtain ⟨rfl, rfl⟩ := H
      go_enter Try.func30, Try.ntmps30
      go_wp2_with (first | ((with_reducible refine gate_callee (f := 9) rfl ?_); refine goesL_ (some 12) rfl rfl Try.func9 (by kernel_rfl) rfl #[.int .i64 a0, .int .i64 a1] rfl (by (try simp only [List.map_toArray, List.map_cons, List.map_nil]); first | done | rfl | (simp only [List.length_drop, List.length_take]; rfl)) ?_; (with_reducible refine (trivetref02_Month_s.calls a0 a1 t250 _ A4.out).mono ?_); rintro e w' ⟨rfl, ⟨nd, rfl⟩⟩; refine ⟨_, rfl, ?_⟩))
      go_ret2
      exact ⟨by first | rfl | (simp; done) | (simp [*]; done), by repeat (first | exact Drawn0.refl _ | apply Drawn0.step)⟩
    · rw [if_neg c6] at H
      have c6b0 : decide (10000000000000 < (wrap64 ((wrap64 (a0 + t250)) - a2))) = false := decide_eq_false c6
      clear c6
      simp only [Option.some.injEq, Prod.mk.injEq] at H
      obtain ⟨rfl, rfl⟩ := H
      go_enter Try.func30, Try.ntmps30
      go_wp2_with (first | ((with_reducible refine gate_callee (f := 9) rfl ?_); refine goesL_ (some 12) rfl rfl Try.func9 (by kernel_rfl) rfl #[.int .i64 a0, .int .i64 a1] rfl (by (try simp only [List.map_toArray, List.map_cons, List.map_nil]); first | done | rfl | (simp only [List.length_drop, List.length_take]; rfl)) ?_; (with_reducible refine (trivetref02_Month_s.calls a0 a1 t250 _ A4.out).mono ?_); rintro e w' ⟨rfl, ⟨nd, rfl⟩⟩; refine ⟨_, rfl, ?_⟩))
      go_ret2
      exact ⟨by first | rfl | (simp; done) | (simp [*]; done), by repeat (first | exact Drawn0.refl _ | apply Drawn0.step)⟩

/-! ### trivetref02_Next_s: function 30, told plainly -/
theorem trivetref02_Next.tells (b r p : Int) (h : M.may b r) (hp : 0 ≤ p) : trivetref02_Next.f b r p = some (if M.next b r p > 10000000000000 then (0, false) else (M.next b r p, true)) := by
  unfold trivetref02_Next.f trivetref02_Month_s.f
  have h0 := M.month_nonneg h
  have h1 := M.month_le h
  have hb := h.1
  have hb2 := h.2.1
  rw [if_pos h, Option.bind_some, M.w64_id (n := b + M.month b r) (by omega) (by omega)]
  unfold M.next
  by_cases hge : p ≥ b + M.month b r
  · rw [if_pos hge, if_neg (show ¬ p < b + M.month b r by omega), if_neg (by decide)]
  · rw [if_neg hge, M.w64_id (n := b + M.month b r - p) (by omega) (by omega), if_pos (show p < b + M.month b r by omega)]
    split <;> rfl
def trivetref02_Next_s.f (b r p : Int) : Option (Int × Bool) := if M.may b r ∧ 0 ≤ p then some (if M.next b r p > 10000000000000 then (0, false) else (M.next b r p, true)) else none
theorem trivetref02_Next_s.calls (a0 : Int) (a1 : Int) (a2 : Int) (r1 : Int) (r2 : Bool) (w : World) (h : trivetref02_Next_s.f a0 a1 a2 = some (r1, r2)) :
    Calls Try.prog 30 #[.int .i64 a0, .int .i64 a1, .int .i64 a2] w fun e w' => e = .returned (.tuple #[.int .i64 r1, .bool r2]) ∧ Drawn0 w w' := by
  unfold trivetref02_Next_s.f at h
  split at h
  · rename_i hr
    exact trivetref02_Next.calls a0 a1 a2 r1 r2 w ((trivetref02_Next.tells a0 a1 a2 hr.1 hr.2).trans h)
  · cases h
theorem trivetref02_Next_s.yes {b r p : Int} (h : M.may b r ∧ 0 ≤ p) (ho : M.next b r p ≤ 10000000000000) : trivetref02_Next_s.f b r p = some (M.next b r p, true) := by unfold trivetref02_Next_s.f; rw [if_pos h, if_neg (by omega)]
theorem trivetref02_Next_s.over {b r p : Int} (h : M.may b r ∧ 0 ≤ p) (ho : M.next b r p > 10000000000000) : trivetref02_Next_s.f b r p = some (0, false) := by unfold trivetref02_Next_s.f; rw [if_pos h, if_pos ho]

/-! ### trivetref02_Left: function 19 -/
def trivetref02_Left.l0 : Nat → Int → Int → Int → Int → Int → Option (Int × Bool)
  | 0, _, _, _, _, _ => none
  | k + 1, x0, x1, x2, x3, x10 => if x10 < x3 then ((trivetref02_Next_s.f x0 x1 x2).bind fun bt251 => (if bt251.2 = true then (trivetref02_Left.l0 k bt251.1 x1 x2 x3 (wrap64 (x10 + 1))) else (some (0, false)))) else (some (x0, true))
def trivetref02_Left.f (k : Nat) (a0 : Int) (a1 : Int) (a2 : Int) (a3 : Int) : Option (Int × Bool) := trivetref02_Left.l0 k a0 a1 a2 a3 0
theorem trivetref02_Left.mono_l : ∀ k, (∀ y0 y1 y2 y3 y4, LeO (trivetref02_Left.l0 k y0 y1 y2 y3 y4) (trivetref02_Left.l0 (k + 1) y0 y1 y2 y3 y4))
  | 0 => fun _ _ _ _ _ r h => by simp [trivetref02_Left.l0] at h
  | k + 1 => by
    have ih0 := trivetref02_Left.mono_l k
    · intro y0 y1 y2 y3 y4
      unfold trivetref02_Left.l0
      repeat' first
      | (with_reducible exact ih0 _ _ _ _ _)
      | (with_reducible exact LeO.refl _)
      | (with_reducible exact LeO.none _)
      | (with_reducible refine LeO.ite ?_ ?_)
      | (with_reducible refine LeO.bind ?_ (fun _ => ?_))
      | exact ih0 _ _ _ _ _
      | exact LeO.none _
      | refine LeO.ite ?_ ?_
      | refine LeO.bind ?_ (fun _ => ?_)
theorem trivetref02_Left.mono : ∀ a0 a1 a2 a3 k, LeO (trivetref02_Left.f k a0 a1 a2 a3) (trivetref02_Left.f (k + 1) a0 a1 a2 a3) := by
  intro a0 a1 a2 a3 k
  have ih0 := trivetref02_Left.mono_l k
  unfold trivetref02_Left.f
  repeat' first
      | (with_reducible exact ih0 _ _ _ _ _)
      | (with_reducible exact LeO.refl _)
      | (with_reducible exact LeO.none _)
      | (with_reducible refine LeO.ite ?_ ?_)
      | (with_reducible refine LeO.bind ?_ (fun _ => ?_))
      | exact ih0 _ _ _ _ _
      | exact LeO.none _
      | refine LeO.ite ?_ ?_
      | refine LeO.bind ?_ (fun _ => ?_)
set_option maxHeartbeats 8000000 in
set_option maxRecDepth 100000 in
theorem trivetref02_Left.calls (k : Nat) (a0 : Int) (a1 : Int) (a2 : Int) (a3 : Int) (r1 : Int) (r2 : Bool) (w : World) (h : trivetref02_Left.f k a0 a1 a2 a3 = some (r1, r2)) :
    Calls Try.prog 19 #[.int .i64 a0, .int .i64 a1, .int .i64 a2, .int .i64 a3] w fun e w' => e = .returned (.tuple #[.int .i64 r1, .bool r2]) ∧ Drawn0 w w' := by
  have H : (trivetref02_Left.l0 k a0 a1 a2 a3 0) = some (r1, r2) := h
  clear h
  have H' := Aside0.mk H
  clear H
  go_enter Try.func19, Try.ntmps19
  go_wp2
  (try simp only [Act.put, List.setIfInBounds_toArray, List.set_cons_zero, List.set_cons_succ])
  go_loopg [0, 10] k (fun kq v0 v10 w' => ∃ (x0_1 : Int) (x10_1 : Int), v0 = .int .i64 x0_1 ∧ v10 = .int .i64 x10_1 ∧ Aside0 (trivetref02_Left.l0 kq x0_1 a1 a2 a3 x10_1 = some (r1, r2)) ∧ Aside0 (kq ≤ k) ∧ Drawn0 w w')
  case atStart => exact ⟨(a0), (0), (by first | rfl | (simp; done) | (simp [*]; done)), (by first | rfl | (simp; done) | (simp [*]; done)), H', ⟨Nat.le_refl _⟩, by repeat (first | exact Drawn0.refl _ | apply Drawn0.step)⟩
  case round =>
    clear H'
    try clear c1
    try clear p2
    obtain ⟨x0_1, x10_1, rfl, rfl, HA, HK1, ⟨m1, rfl⟩⟩ := hrel
    cases gk with
    | zero => exact absurd HA.out (by simp [trivetref02_Left.l0])
    | succ k1 =>
      have H := HA.out
      clear HA
      simp only [trivetref02_Left.l0] at H
      by_cases c5 : x10_1 < a3
      · rw [if_pos c5] at H
        have c5b0 : decide (x10_1 < a3) = true := decide_eq_true c5
        clear c5
        replace H := Option.bind_eq_some_iff.mp H
        obtain ⟨⟨t251, t252⟩, A60, H⟩ := H
        replace H : (if t252 = true then (trivetref02_Left.l0 k1 t251 a1 a2 a3 (wrap64 (x10_1 + 1))) else (some (0, false))) = some (r1, r2) := H
        have A6 := Aside0.mk A60
        clear A60
        by_cases c7 : t252 = true
        · subst c7
          have H1 : (trivetref02_Left.l0 k1 t251 a1 a2 a3 (wrap64 (x10_1 + 1))) = some (r1, r2) := by rw [if_pos rfl] at H; exact H
          clear H
          have H := H1
          clear H1
          have H' := Aside0.mk H
          clear H
          go_wp2_with (first | ((with_reducible refine gate_callee (f := 30) rfl ?_); refine goesL_ (some 22) rfl rfl Try.func30 (by kernel_rfl) rfl #[.int .i64 x0_1, .int .i64 a1, .int .i64 a2] rfl (by (try simp only [List.map_toArray, List.map_cons, List.map_nil]); first | done | rfl | (simp only [List.length_drop, List.length_take]; rfl)) ?_; (with_reducible refine (trivetref02_Next_s.calls x0_1 a1 a2 t251 true _ A6.out).mono ?_); rintro e w' ⟨rfl, ⟨nd, rfl⟩⟩; refine ⟨_, rfl, ?_⟩))
          go_roundg k1
          case measure => have := HK1.out; omega
          case rel => exact ⟨(t251), (wrap64 (x10_1 + 1)), (by first | rfl | (simp; done) | (simp [*]; done)), (by first | rfl | (simp; done) | (simp [*]; done)), H', ⟨by have := HK1.out; omega⟩, by repeat (first | exact Drawn0.refl _ | apply Drawn0.step)⟩
        · replace c7 := Bool.eq_false_iff.mpr c7
          subst c7
          have H1 : (some (0, false)) = some (r1, r2) := by rw [if_neg (show ¬ (false = true) by decide)] at H; exact H
          clear H
          have H := H1
          clear H1
          simp only [Option.some.injEq, Prod.mk.injEq] at H
          obtain ⟨rfl, rfl⟩ := H
          go_wp2_with (first | ((with_reducible refine gate_callee (f := 30) rfl ?_); refine goesL_ (some 22) rfl rfl Try.func30 (by kernel_rfl) rfl #[.int .i64 x0_1, .int .i64 a1, .int .i64 a2] rfl (by (try simp only [List.map_toArray, List.map_cons, List.map_nil]); first | done | rfl | (simp only [List.length_drop, List.length_take]; rfl)) ?_; (with_reducible refine (trivetref02_Next_s.calls x0_1 a1 a2 t251 false _ A6.out).mono ?_); rintro e w' ⟨rfl, ⟨nd, rfl⟩⟩; refine ⟨_, rfl, ?_⟩))
          go_ret2
          exact ⟨by first | rfl | (simp; done) | (simp [*]; done), by repeat (first | exact Drawn0.refl _ | apply Drawn0.step)⟩
      · rw [if_neg c5] at H
        have c5b0 : decide (x10_1 < a3) = false := decide_eq_false c5
        clear c5
        simp only [Option.some.injEq, Prod.mk.injEq] at H
        obtain ⟨rfl, rfl⟩ := H
        go_wp2
        go_ret2
        exact ⟨by first | rfl | (simp; done) | (simp [*]; done), by repeat (first | exact Drawn0.refl _ | apply Drawn0.step)⟩

/-! ### trivetref02_Left_s: function 19, told plainly -/
theorem trivetref02_Left.loop (r p m : Int) (hp : 0 ≤ p) (hm : m ≤ 4611686018427387904) : ∀ (n : Nat) (i b : Int), i + n = m → 0 ≤ i → M.may b r → ∀ k, n + 2 ≤ k →
    trivetref02_Left.l0 k b r p m i = some (M.tellB (M.left n b r p)) := by
  intro n
  induction n with
  | zero =>
    intro i b hi h0 hb k hk
    obtain ⟨k, rfl⟩ : ∃ m, k = m + 1 := ⟨k - 1, by omega⟩
    simp only [trivetref02_Left.l0, M.left]
    rw [if_neg (by omega)]
    rfl
  | succ n ih =>
    intro i b hi h0 hb k hk
    obtain ⟨k, rfl⟩ : ∃ m, k = m + 1 := ⟨k - 1, by omega⟩
    simp only [trivetref02_Left.l0, M.left]
    unfold trivetref02_Next_s.f
    rw [if_pos (by omega), if_pos ⟨hb, hp⟩, Option.bind_some]
    by_cases ho : M.next b r p > 10000000000000
    · rw [if_pos ho, if_pos ho]
      rfl
    · rw [if_neg ho, if_neg ho]
      simp only [if_true]
      rw [M.w64_id (by omega) (by omega)]
      exact ih (i + 1) _ (by omega) (by omega) ⟨M.next_nonneg _ _ _, by omega, hb.2.2.1, hb.2.2.2⟩ k (by omega)
def trivetref02_Left_s.f (b r p m : Int) : Option (Int × Bool) :=
  if M.may b r ∧ 0 ≤ p ∧ 0 ≤ m ∧ m ≤ 4611686018427387904 then some (M.tellB (M.left m.toNat b r p)) else none
theorem trivetref02_Left_s.calls (a0 : Int) (a1 : Int) (a2 : Int) (a3 : Int) (r1 : Int) (r2 : Bool) (w : World) (h : trivetref02_Left_s.f a0 a1 a2 a3 = some (r1, r2)) :
    Calls Try.prog 19 #[.int .i64 a0, .int .i64 a1, .int .i64 a2, .int .i64 a3] w fun e w' => e = .returned (.tuple #[.int .i64 r1, .bool r2]) ∧ Drawn0 w w' := by
  unfold trivetref02_Left_s.f at h
  split at h
  · rename_i hr
    refine trivetref02_Left.calls (a3.toNat + 4) a0 a1 a2 a3 r1 r2 w (Eq.trans ?_ h)
    unfold trivetref02_Left.f
    exact trivetref02_Left.loop a1 a2 a3 hr.2.1 hr.2.2.2 a3.toNat 0 a0 (by omega) (by omega) hr.1 _ (by omega)
  · cases h
theorem trivetref02_Left_s.yes {b r p m : Int} (h : M.may b r ∧ 0 ≤ p ∧ 0 ≤ m ∧ m ≤ 4611686018427387904) : trivetref02_Left_s.f b r p m = some (M.tellB (M.left m.toNat b r p)) := by unfold trivetref02_Left_s.f; rw [if_pos h]

/-! ### trivetref02_Pays: function 10 -/
def trivetref02_Pays.f (a0 : Int) (a1 : Int) (a2 : Int) (a3 : Int) : Option (Bool) := (trivetref02_Left_s.f a0 a1 a2 a3).bind fun bt253 => (if bt253.2 = true then (some (bt253.1 == 0)) else (some false))
set_option maxHeartbeats 8000000 in
set_option maxRecDepth 100000 in
theorem trivetref02_Pays.calls (a0 : Int) (a1 : Int) (a2 : Int) (a3 : Int) (r : Bool) (w : World) (h : trivetref02_Pays.f a0 a1 a2 a3 = some r) :
    Calls Try.prog 10 #[.int .i64 a0, .int .i64 a1, .int .i64 a2, .int .i64 a3] w fun e w' => e = .returned (.bool r) ∧ Drawn0 w w' := by
  have H : ((trivetref02_Left_s.f a0 a1 a2 a3).bind fun bt253 => (if bt253.2 = true then (some (bt253.1 == 0)) else (some false))) = some r := h
  clear h
  replace H := Option.bind_eq_some_iff.mp H
  obtain ⟨⟨t253, t254⟩, A50, H⟩ := H
  replace H : (if t254 = true then (some (t253 == 0)) else (some false)) = some r := H
  have A5 := Aside0.mk A50
  clear A50
  by_cases c6 : t254 = true
  · subst c6
    have H1 : (some (t253 == 0)) = some r := by rw [if_pos rfl] at H; exact H
    clear H
    have H := H1
    clear H1
    obtain rfl := Option.some.inj H
    go_enter Try.func10, Try.ntmps10
    go_wp2_with (first | ((with_reducible refine gate_callee (f := 19) rfl ?_); refine goesL_ (some 16) rfl rfl Try.func19 (by kernel_rfl) rfl #[.int .i64 a0, .int .i64 a1, .int .i64 a2, .int .i64 a3] rfl (by (try simp only [List.map_toArray, List.map_cons, List.map_nil]); first | done | rfl | (simp only [List.length_drop, List.length_take]; rfl)) ?_; (with_reducible refine (trivetref02_Left_s.calls a0 a1 a2 a3 t253 true _ A5.out).mono ?_); rintro e w' ⟨rfl, ⟨nd, rfl⟩⟩; refine ⟨_, rfl, ?_⟩))
    go_ret
    exact ⟨by first | rfl | (simp; done) | (simp [*]; done), by repeat (first | exact Drawn0.refl _ | apply Drawn0.step)⟩
  · replace c6 := Bool.eq_false_iff.mpr c6
    subst c6
    have H1 : (some false) = some r := by rw [if_neg (show ¬ (false = true) by decide)] at H; exact H
    clear H
    have H := H1
    clear H1
    obtain rfl := Option.some.inj H
    go_enter Try.func10, Try.ntmps10
    go_wp2_with (first | ((with_reducible refine gate_callee (f := 19) rfl ?_); refine goesL_ (some 16) rfl rfl Try.func19 (by kernel_rfl) rfl #[.int .i64 a0, .int .i64 a1, .int .i64 a2, .int .i64 a3] rfl (by (try simp only [List.map_toArray, List.map_cons, List.map_nil]); first | done | rfl | (simp only [List.length_drop, List.length_take]; rfl)) ?_; (with_reducible refine (trivetref02_Left_s.calls a0 a1 a2 a3 t253 false _ A5.out).mono ?_); rintro e w' ⟨rfl, ⟨nd, rfl⟩⟩; refine ⟨_, rfl, ?_⟩))
    go_ret
    exact ⟨by first | rfl | (simp; done) | (simp [*]; done), by repeat (first | exact Drawn0.refl _ | apply Drawn0.step)⟩

/-! ### trivetref02_Pays_s: function 10, told plainly -/
theorem trivetref02_Pays.tells (b r p m : Int) (h : M.may b r ∧ 0 ≤ p ∧ 0 ≤ m ∧ m ≤ 4611686018427387904) : trivetref02_Pays.f b r p m = some (M.pays m.toNat b r p) := by
  unfold trivetref02_Pays.f trivetref02_Left_s.f M.pays
  rw [if_pos h, Option.bind_some]
  cases M.left m.toNat b r p with
  | none => rfl
  | some v => rfl
def trivetref02_Pays_s.f (b r p m : Int) : Option Bool := if M.may b r ∧ 0 ≤ p ∧ 0 ≤ m ∧ m ≤ 4611686018427387904 then some (M.pays m.toNat b r p) else none
theorem trivetref02_Pays_s.calls (a0 : Int) (a1 : Int) (a2 : Int) (a3 : Int) (r : Bool) (w : World) (h : trivetref02_Pays_s.f a0 a1 a2 a3 = some r) :
    Calls Try.prog 10 #[.int .i64 a0, .int .i64 a1, .int .i64 a2, .int .i64 a3] w fun e w' => e = .returned (.bool r) ∧ Drawn0 w w' := by
  unfold trivetref02_Pays_s.f at h
  split at h
  · rename_i hr
    exact trivetref02_Pays.calls a0 a1 a2 a3 r w ((trivetref02_Pays.tells a0 a1 a2 a3 hr).trans h)
  · cases h
theorem trivetref02_Pays_s.yes {b r p m : Int} (h : M.may b r ∧ 0 ≤ p ∧ 0 ≤ m ∧ m ≤ 4611686018427387904) : trivetref02_Pays_s.f b r p m = some (M.pays m.toNat b r p) := by unfold trivetref02_Pays_s.f; rw [if_pos h]

end Go.Proofs.Ytbfdmcjgkbpgnaa.P
