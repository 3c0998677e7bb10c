-- Written by a program of this session out of the translation of the seat: Lean functions and the proofs that the Go functions come to them.
import Derived.Test.YtinpdbimbnhpoaaPx0
namespace Go.Proofs.Ytinpdbimbnhpoaa.P
open Go.RowKit Go.Proofs.YtinpdbimbnhpoaaW.PrintWords Go.Proofs.YtinpdbimbnhpoaaW.PrintLast Go.Proofs.YtinpdbimbnhpoaaW.PrintMore
attribute [local go_sem] max2_int min2_int max_two min_two max_three min_three max_four min_four   -- for this text's walks alone
set_option linter.unusedVariables false
set_option linter.unusedSimpArgs false

/-! ### trivetref04_Days: function 36 -/
mutual
def trivetref04_Days.j0 : Nat → Int → Int → Bool → Option (Int)
  | 0, _, _, _ => none
  | k + 1, x0, x1, x18 => if x18 = true then (some 0) else (if x1 = 2 then (if (Int.tmod x0 400) = 0 then (trivetref04_Days.j1 k true) else (if (Int.tmod x0 4) = 0 then (trivetref04_Days.j1 k ((Int.tmod x0 100) != 0)) else (trivetref04_Days.j1 k false))) else (if x1 = 4 then (some 30) else (if x1 = 6 then (some 30) else (if x1 = 9 then (some 30) else (if x1 = 11 then (some 30) else (some 31))))))
def trivetref04_Days.j1 : Nat → Bool → Option (Int)
  | 0, _ => none
  | k + 1, x33 => if x33 = true then (some 29) else (some 28)
end
def trivetref04_Days.f (k : Nat) (a0 : Int) (a1 : Int) : Option (Int) := if a0 < 1900 then (trivetref04_Days.j0 k a0 a1 true) else (if a0 > 2199 then (trivetref04_Days.j0 k a0 a1 true) else (if a1 < 1 then (trivetref04_Days.j0 k a0 a1 true) else (trivetref04_Days.j0 k a0 a1 (decide (a1 > 12)))))
theorem trivetref04_Days.mono_l : ∀ k, (∀ y0 y1 y2, LeO (trivetref04_Days.j0 k y0 y1 y2) (trivetref04_Days.j0 (k + 1) y0 y1 y2)) ∧ (∀ y0, LeO (trivetref04_Days.j1 k y0) (trivetref04_Days.j1 (k + 1) y0))
  | 0 => ⟨fun _ _ _ r h => by simp [trivetref04_Days.j0] at h, fun _ r h => by simp [trivetref04_Days.j1] at h⟩
  | k + 1 => by
    obtain ⟨ih0, ih1⟩ := trivetref04_Days.mono_l k
    refine ⟨?_, ?_⟩
    · intro y0 y1 y2
      unfold trivetref04_Days.j0
      repeat' first
      | (with_reducible exact ih0 _ _ _)
      | (with_reducible exact ih1 _)
      | (with_reducible exact LeO.refl _)
      | (with_reducible exact LeO.none _)
      | (with_reducible refine LeO.ite ?_ ?_)
      | (with_reducible refine LeO.bind ?_ (fun _ => ?_))
      | exact ih0 _ _ _
      | exact ih1 _
      | exact LeO.none _
      | refine LeO.ite ?_ ?_
      | refine LeO.bind ?_ (fun _ => ?_)
    · intro y0
      unfold trivetref04_Days.j1
      repeat' first
      | (with_reducible exact ih0 _ _ _)
      | (with_reducible exact ih1 _)
      | (with_reducible exact LeO.refl _)
      | (with_reducible exact LeO.none _)
      | (with_reducible refine LeO.ite ?_ ?_)
      | (with_reducible refine LeO.bind ?_ (fun _ => ?_))
      | exact ih0 _ _ _
      | exact ih1 _
      | exact LeO.none _
      | refine LeO.ite ?_ ?_
      | refine LeO.bind ?_ (fun _ => ?_)
theorem trivetref04_Days.mono : ∀ a0 a1 k, LeO (trivetref04_Days.f k a0 a1) (trivetref04_Days.f (k + 1) a0 a1) := by
  intro a0 a1 k
  obtain ⟨ih0, ih1⟩ := trivetref04_Days.mono_l k
  unfold trivetref04_Days.f
  repeat' first
      | (with_reducible exact ih0 _ _ _)
      | (with_reducible exact ih1 _)
      | (with_reducible exact LeO.refl _)
      | (with_reducible exact LeO.none _)
      | (with_reducible refine LeO.ite ?_ ?_)
      | (with_reducible refine LeO.bind ?_ (fun _ => ?_))
      | exact ih0 _ _ _
      | exact ih1 _
      | exact LeO.none _
      | refine LeO.ite ?_ ?_
      | refine LeO.bind ?_ (fun _ => ?_)
set_option maxHeartbeats 8000000 in
set_option maxRecDepth 100000 in
theorem trivetref04_Days.calls (k : Nat) (a0 : Int) (a1 : Int) (r : Int) (w : World) (h : trivetref04_Days.f k a0 a1 = some r) :
    Calls Try.prog 36 #[.int .i64 a0, .int .i64 a1] w fun e w' => e = .returned (.int .i64 r) ∧ Drawn0 w w' := by
  have H : (if a0 < 1900 then (trivetref04_Days.j0 k a0 a1 true) else (if a0 > 2199 then (trivetref04_Days.j0 k a0 a1 true) else (if a1 < 1 then (trivetref04_Days.j0 k a0 a1 true) else (trivetref04_Days.j0 k a0 a1 (decide (a1 > 12)))))) = some r := h
  clear h
  have HC3 := Aside0.mk H
  clear H
  go_enter Try.func36, Try.ntmps36
  go_upto_region 1 with (fail)
  go_cut [18] (fun v18 wc => ∃ (kq : Nat) (x18_2 : Bool), v18 = .bool x18_2 ∧ Aside0 (trivetref04_Days.j0 kq a0 a1 x18_2 = some r) ∧ Aside0 (kq ≤ k) ∧ Drawn0 w wc)
  case first =>
    have H := HC3.out
    clear HC3
    by_cases c4 : a0 < 1900
    · rw [if_pos c4] at H
      have c4b0 : decide (a0 < 1900) = true := decide_eq_true c4
      clear c4
      (first | rw [c4b0] | (simp only [i64_w, i32_w]; rw [c4b0]) | skip)
      have H' := Aside0.mk H
      clear H
      go_wp2
      go_meet
      case rel => exact ⟨_, (true), (by first | rfl | (simp; done) | (simp [*]; done)), H', ⟨by first | omega | exact Nat.le_refl _⟩, by repeat (first | exact Drawn0.refl _ | apply Drawn0.step)⟩
    · rw [if_neg c4] at H
      have c4b0 : decide (a0 < 1900) = false := decide_eq_false c4
      clear c4
      (first | rw [c4b0] | (simp only [i64_w, i32_w]; rw [c4b0]) | skip)
      by_cases c5 : a0 > 2199
      · rw [if_pos c5] at H
        have c5b0 : decide (2199 < a0) = true := decide_eq_true c5
        clear c5
        have H' := Aside0.mk H
        clear H
        go_wp2
        go_meet
        case rel => exact ⟨_, (true), (by first | rfl | (simp; done) | (simp [*]; done)), H', ⟨by first | omega | exact Nat.le_refl _⟩, by repeat (first | exact Drawn0.refl _ | apply Drawn0.step)⟩
      · rw [if_neg c5] at H
        have c5b0 : decide (2199 < a0) = false := decide_eq_false c5
        clear c5
        by_cases c6 : a1 < 1
        · rw [if_pos c6] at H
          have c6b0 : decide (a1 < 1) = true := decide_eq_true c6
          clear c6
          have H' := Aside0.mk H
          clear H
          go_wp2
          go_meet
          case rel => exact ⟨_, (true), (by first | rfl | (simp; done) | (simp [*]; done)), H', ⟨by first | omega | exact Nat.le_refl _⟩, by repeat (first | exact Drawn0.refl _ | apply Drawn0.step)⟩
        · rw [if_neg c6] at H
          have c6b0 : decide (a1 < 1) = false := decide_eq_false c6
          clear c6
          have H' := Aside0.mk H
          clear H
          go_wp2
          go_meet
          case rel => exact ⟨_, (decide (a1 > 12)), (by first | rfl | (simp; done) | (simp [*]; done)), H', ⟨by first | omega | exact Nat.le_refl _⟩, by repeat (first | exact Drawn0.refl _ | apply Drawn0.step)⟩
  case rest =>
    clear HC3
    try clear p2
    try clear c3
    try clear c4
    try clear c4b0
    try clear c5
    try clear c5b0
    try clear c6
    try clear c6b0
    obtain ⟨kq, x18_2, rfl, HA, HJ2, ⟨mc2, rfl⟩⟩ := hcut
    cases kq with
    | zero => exact absurd HA.out (by simp [trivetref04_Days.j0])
    | succ kj2 =>
      have H := HA.out
      clear HA
      simp only [trivetref04_Days.j0] at H
      by_cases c7 : x18_2 = true
      · subst c7
        have H1 : (some 0) = some r := by rw [if_pos rfl] at H; exact H
        clear H
        have H := H1
        clear H1
        obtain rfl := Option.some.inj H
        go_wp2
        go_ret
        exact ⟨by first | rfl | (simp; done) | (simp [*]; done), by repeat (first | exact Drawn0.refl _ | apply Drawn0.step)⟩
      · replace c7 := Bool.eq_false_iff.mpr c7
        subst c7
        have H1 : (if a1 = 2 then (if (Int.tmod a0 400) = 0 then (trivetref04_Days.j1 kj2 true) else (if (Int.tmod a0 4) = 0 then (trivetref04_Days.j1 kj2 ((Int.tmod a0 100) != 0)) else (trivetref04_Days.j1 kj2 false))) else (if a1 = 4 then (some 30) else (if a1 = 6 then (some 30) else (if a1 = 9 then (some 30) else (if a1 = 11 then (some 30) else (some 31)))))) = some r := by rw [if_neg (show ¬ (false = true) by decide)] at H; exact H
        clear H
        have H := H1
        clear H1
        by_cases c8 : a1 = 2
        · rw [if_pos c8] at H
          have c8b0 : (a1 == 2) = true := beq_iff_eq.mpr c8
          have c8b1 : (a1 != 2) = false := bne_eq_false_iff_eq.mpr c8
          clear c8
          have HC9 := Aside0.mk H
          clear H
          go_upto_region 4 with (fail)
          go_cut [33] (fun v33 wc => ∃ (kq : Nat) (x33_8 : Bool), v33 = .bool x33_8 ∧ Aside0 (trivetref04_Days.j1 kq x33_8 = some r) ∧ Aside0 (kq ≤ kj2) ∧ Drawn0 w wc)
          case first =>
            have H := HC9.out
            clear HC9
            by_cases c10 : (Int.tmod a0 400) = 0
            · rw [if_pos c10] at H
              have c10b0 : ((Int.tmod a0 400) == 0) = true := beq_iff_eq.mpr c10
              have c10b1 : ((Int.tmod a0 400) != 0) = false := bne_eq_false_iff_eq.mpr c10
              clear c10
              (first | rw [c10b0] | (simp only [i64_w, i32_w]; rw [c10b0]) | skip)
              have H' := Aside0.mk H
              clear H
              go_wp2
              go_meet
              case rel => exact ⟨_, (true), (by first | rfl | (simp; done) | (simp [*]; done)), H', ⟨by have := HJ2.out; first | omega | exact Nat.le_refl _⟩, by repeat (first | exact Drawn0.refl _ | apply Drawn0.step)⟩
            · rw [if_neg c10] at H
              have c10b0 : ((Int.tmod a0 400) == 0) = false := beq_eq_false_iff_ne.mpr c10
              have c10b1 : ((Int.tmod a0 400) != 0) = true := bne_iff_ne.mpr c10
              (first | rw [c10b0] | (simp only [i64_w, i32_w]; rw [c10b0]) | skip)
              by_cases c11 : (Int.tmod a0 4) = 0
              · rw [if_pos c11] at H
                have c11b0 : ((Int.tmod a0 4) == 0) = true := beq_iff_eq.mpr c11
                have c11b1 : ((Int.tmod a0 4) != 0) = false := bne_eq_false_iff_eq.mpr c11
                clear c11
                have H' := Aside0.mk H
                clear H
                go_wp2
                go_meet
                case rel => exact ⟨_, (((Int.tmod a0 100) != 0)), (by first | rfl | (simp; done) | (simp [*]; done)), H', ⟨by have := HJ2.out; first | omega | exact Nat.le_refl _⟩, by repeat (first | exact Drawn0.refl _ | apply Drawn0.step)⟩
              · rw [if_neg c11] at H
                have c11b0 : ((Int.tmod a0 4) == 0) = false := beq_eq_false_iff_ne.mpr c11
                have c11b1 : ((Int.tmod a0 4) != 0) = true := bne_iff_ne.mpr c11
                have H' := Aside0.mk H
                clear H
                go_wp2
                go_meet
                case rel => exact ⟨_, (false), (by first | rfl | (simp; done) | (simp [*]; done)), H', ⟨by have := HJ2.out; first | omega | exact Nat.le_refl _⟩, by repeat (first | exact Drawn0.refl _ | apply Drawn0.step)⟩
          case rest =>
            clear HC9
            try clear c1
            try clear c2
            try clear p2
            try clear c3
            try clear c4
            try clear c4b0
            try clear c5
            try clear c5b0
            try clear c6
            try clear c6b0
            try clear c7
            try clear c8
            try clear c8b0
            try clear c8b1
            try clear c10
            try clear c10b0
            try clear c10b1
            try clear c11
            try clear c11b0
            try clear c11b1
            try clear p2
            obtain ⟨kq, x33_8, rfl, HA, HJ8, ⟨mc8, rfl⟩⟩ := hcut
            cases kq with
            | zero => exact absurd HA.out (by simp [trivetref04_Days.j1])
            | succ kj8 =>
              have H := HA.out
              clear HA
              simp only [trivetref04_Days.j1] at H
              by_cases c12 : x33_8 = true
              · subst c12
                have H1 : (some 29) = some r := by rw [if_pos rfl] at H; exact H
                clear H
                have H := H1
                clear H1
                obtain rfl := Option.some.inj H
                go_wp2
                go_ret
                exact ⟨by first | rfl | (simp; done) | (simp [*]; done), by repeat (first | exact Drawn0.refl _ | apply Drawn0.step)⟩
              · replace c12 := Bool.eq_false_iff.mpr c12
                subst c12
                have H1 : (some 28) = some r := by rw [if_neg (show ¬ (false = true) by decide)] at H; exact H
                clear H
                have H := H1
                clear H1
                obtain rfl := Option.some.inj H
                go_wp2
                go_ret
                exact ⟨by first | rfl | (simp; done) | (simp [*]; done), by repeat (first | exact Drawn0.refl _ | apply Drawn0.step)⟩
        · rw [if_neg c8] at H
          have c8b0 : (a1 == 2) = false := beq_eq_false_iff_ne.mpr c8
          have c8b1 : (a1 != 2) = true := bne_iff_ne.mpr c8
          by_cases c13 : a1 = 4
          · rw [if_pos c13] at H
            have c13b0 : (a1 == 4) = true := beq_iff_eq.mpr c13
            have c13b1 : (a1 != 4) = false := bne_eq_false_iff_eq.mpr c13
            clear c13
            obtain rfl := Option.some.inj H
            go_wp2
            go_ret
            exact ⟨by first | rfl | (simp; done) | (simp [*]; done), by repeat (first | exact Drawn0.refl _ | apply Drawn0.step)⟩
          · rw [if_neg c13] at H
            have c13b0 : (a1 == 4) = false := beq_eq_false_iff_ne.mpr c13
            have c13b1 : (a1 != 4) = true := bne_iff_ne.mpr c13
            by_cases c14 : a1 = 6
            · rw [if_pos c14] at H
              have c14b0 : (a1 == 6) = true := beq_iff_eq.mpr c14
              have c14b1 : (a1 != 6) = false := bne_eq_false_iff_eq.mpr c14
              clear c14
              obtain rfl := Option.some.inj H
              go_wp2
              go_ret
              exact ⟨by first | rfl | (simp; done) | (simp [*]; done), by repeat (first | exact Drawn0.refl _ | apply Drawn0.step)⟩
            · rw [if_neg c14] at H
              have c14b0 : (a1 == 6) = false := beq_eq_false_iff_ne.mpr c14
              have c14b1 : (a1 != 6) = true := bne_iff_ne.mpr c14
              by_cases c15 : a1 = 9
              · rw [if_pos c15] at H
                have c15b0 : (a1 == 9) = true := beq_iff_eq.mpr c15
                have c15b1 : (a1 != 9) = false := bne_eq_false_iff_eq.mpr c15
                clear c15
                obtain rfl := Option.some.inj H
                go_wp2
                go_ret
                exact ⟨by first | rfl | (simp; done) | (simp [*]; done), by repeat (first | exact Drawn0.refl _ | apply Drawn0.step)⟩
              · rw [if_neg c15] at H
                have c15b0 : (a1 == 9) = false := beq_eq_false_iff_ne.mpr c15
                have c15b1 : (a1 != 9) = true := bne_iff_ne.mpr c15
                by_cases c16 : a1 = 11
                · rw [if_pos c16] at H
                  have c16b0 : (a1 == 11) = true := beq_iff_eq.mpr c16
                  have c16b1 : (a1 != 11) = false := bne_eq_false_iff_eq.mpr c16
                  clear c16
                  obtain rfl := Option.some.inj H
                  go_wp2
                  go_ret
                  exact ⟨by first | rfl | (simp; done) | (simp [*]; done), by repeat (first | exact Drawn0.refl _ | apply Drawn0.step)⟩
                · rw [if_neg c16] at H
                  have c16b0 : (a1 == 11) = false := beq_eq_false_iff_ne.mpr c16
                  have c16b1 : (a1 != 11) = true := bne_iff_ne.mpr c16
                  obtain rfl := Option.some.inj H
                  go_wp2
                  go_ret
                  exact ⟨by first | rfl | (simp; done) | (simp [*]; done), by repeat (first | exact Drawn0.refl _ | apply Drawn0.step)⟩

/-! ### trivetref04_Days_s: function 36, told plainly -/
theorem trivetref04_Days.tells (y m : Int) (k : Nat) (hk : 2 ≤ k) : trivetref04_Days.f k y m = some (M.days y m) := by
  obtain ⟨k, rfl⟩ : ∃ m, k = m + 2 := ⟨k - 2, by omega⟩
  have out : ¬ (1900 ≤ y ∧ y ≤ 2199 ∧ 1 ≤ m ∧ m ≤ 12) → trivetref04_Days.j0 (k + 2) y m true = some (M.days y m) := by
    intro h
    unfold M.days
    rw [if_neg h]
    simp [trivetref04_Days.j0]
  unfold trivetref04_Days.f
  by_cases h1 : y < 1900
  · rw [if_pos h1]; exact out (by omega)
  rw [if_neg h1]
  by_cases h2 : y > 2199
  · rw [if_pos h2]; exact out (by omega)
  rw [if_neg h2]
  by_cases h3 : m < 1
  · rw [if_pos h3]; exact out (by omega)
  rw [if_neg h3]
  by_cases h4 : m > 12
  · rw [decide_eq_true h4]; exact out (by omega)
  rw [decide_eq_false h4]
  simp only [trivetref04_Days.j0]
  rw [if_neg (by decide), M.tmodu (by omega), M.tmodu (by omega), M.tmodu (by omega)]
  unfold M.days
  rw [if_pos (show 1900 ≤ y ∧ y ≤ 2199 ∧ 1 ≤ m ∧ m ≤ 12 by omega)]
  by_cases h5 : m = 2
  · rw [if_pos h5, if_pos h5]
    unfold M.leap
    simp only [trivetref04_Days.j1]
    by_cases g1 : y % 400 = 0
    · have : y % 4 = 0 := by omega
      simp [g1]
    · by_cases g2 : y % 4 = 0
      · by_cases g3 : y % 100 = 0 <;> simp [g1, g2, g3]
      · simp [g1, g2]
  · rw [if_neg h5, if_neg h5]
    by_cases g4 : m = 4
    · rw [if_pos g4, if_pos (.inl g4)]
    rw [if_neg g4]
    by_cases g6 : m = 6
    · rw [if_pos g6, if_pos (.inr (.inl g6))]
    rw [if_neg g6]
    by_cases g9 : m = 9
    · rw [if_pos g9, if_pos (.inr (.inr (.inl g9)))]
    rw [if_neg g9]
    by_cases g11 : m = 11
    · rw [if_pos g11, if_pos (.inr (.inr (.inr g11)))]
    rw [if_neg g11, if_neg (by omega)]
def trivetref04_Days_s.f (y m : Int) : Option Int := some (M.days y m)
theorem trivetref04_Days_s.calls (a0 : Int) (a1 : Int) (r : Int) (w : World) (h : trivetref04_Days_s.f a0 a1 = some r) :
    Calls Try.prog 36 #[.int .i64 a0, .int .i64 a1] w fun e w' => e = .returned (.int .i64 r) ∧ Drawn0 w w' := by
  exact trivetref04_Days.calls (2) a0 a1 r w ((trivetref04_Days.tells a0 a1 (2) (Nat.le_refl _)).trans h)

/-! ### trivetref04_year: function 35 -/
def trivetref04_year.f (a0 : Int) : Option (Int) := (trivetref04_Days_s.f a0 2).bind fun t224 => (some (wrap64 (337 + t224)))
set_option maxHeartbeats 8000000 in
set_option maxRecDepth 100000 in
theorem trivetref04_year.calls (a0 : Int) (r : Int) (w : World) (h : trivetref04_year.f a0 = some r) :
    Calls Try.prog 35 #[.int .i64 a0] w fun e w' => e = .returned (.int .i64 r) ∧ Drawn0 w w' := by
  have H : ((trivetref04_Days_s.f a0 2).bind fun t224 => (some (wrap64 (337 + t224)))) = some r := h
  clear h
  replace H := Option.bind_eq_some_iff.mp H
  obtain ⟨t224, A20, H⟩ := H
  replace H : (some (wrap64 (337 + t224))) = some r := H
  have A2 := Aside0.mk A20
  clear A20
  obtain rfl := Option.some.inj H
  go_enter Try.func35, Try.ntmps35
  go_wp2_with (first | ((with_reducible refine gate_callee (f := 36) rfl ?_); refine goesL_ (some 4) rfl rfl Try.func36 (by kernel_rfl) rfl #[.int .i64 a0, .int .i64 2] rfl (by (try simp only [List.map_toArray, List.map_cons, List.map_nil]); first | done | rfl | (simp only [List.length_drop, List.length_take]; rfl)) ?_; (with_reducible refine (trivetref04_Days_s.calls a0 2 t224 _ A2.out).mono ?_); rintro e w' ⟨rfl, ⟨nd, rfl⟩⟩; refine ⟨_, rfl, ?_⟩))
  go_ret
  exact ⟨by first | rfl | (simp; done) | (simp [*]; done), by repeat (first | exact Drawn0.refl _ | apply Drawn0.step)⟩

/-! ### trivetref04_year_s: function 35, told plainly -/
theorem trivetref04_year.tells (y : Int) : trivetref04_year.f y = some (337 + M.days y 2) := by
  have := M.days_bd y 2
  unfold trivetref04_year.f trivetref04_Days_s.f
  rw [Option.bind_some, M.w64_id (by omega) (by omega)]
def trivetref04_year_s.f (y : Int) : Option Int := some (337 + M.days y 2)
theorem trivetref04_year_s.calls (a0 : Int) (r : Int) (w : World) (h : trivetref04_year_s.f a0 = some r) :
    Calls Try.prog 35 #[.int .i64 a0] w fun e w' => e = .returned (.int .i64 r) ∧ Drawn0 w w' := by
  exact trivetref04_year.calls a0 r w ((trivetref04_year.tells a0).trans h)

/-! ### trivetref04_Number: function 34 -/
mutual
def trivetref04_Number.l0 : Nat → Int → Int → Int → Int → Int → Option (Int)
  | 0, _, _, _, _, _ => none
  | k + 1, x3, x4, x226000, x226001, x226002 => if x4 < x226001 then ((trivetref04_Days_s.f x226000 x4).bind fun t226 => (trivetref04_Number.l0 k (wrap64 (x3 + t226)) (wrap64 (x4 + 1)) x226000 x226001 x226002)) else (trivetref04_Number.l1 k x3 1970 x226000 x226001 x226002)
def trivetref04_Number.l1 : Nat → Int → Int → Int → Int → Int → Option (Int)
  | 0, _, _, _, _, _ => none
  | k + 1, x3, x5, x226000, x226001, x226002 => if x5 < x226000 then ((trivetref04_year_s.f x5).bind fun t227 => (trivetref04_Number.l1 k (wrap64 (x3 + t227)) (wrap64 (x5 + 1)) x226000 x226001 x226002)) else (trivetref04_Number.l2 k x3 x226000)
def trivetref04_Number.l2 : Nat → Int → Int → Option (Int)
  | 0, _, _ => none
  | k + 1, x3, x6 => if x6 < 1970 then ((trivetref04_year_s.f x6).bind fun t228 => (trivetref04_Number.l2 k (wrap64 (x3 - t228)) (wrap64 (x6 + 1)))) else (some x3)
end
def trivetref04_Number.f (k : Nat) (a0_0 : Int) (a0_1 : Int) (a0_2 : Int) : Option (Int) := trivetref04_Number.l0 k (wrap64 (a0_2 - 1)) 1 a0_0 a0_1 a0_2
theorem trivetref04_Number.mono_l : ∀ k, (∀ y0 y1 y2 y3 y4, LeO (trivetref04_Number.l0 k y0 y1 y2 y3 y4) (trivetref04_Number.l0 (k + 1) y0 y1 y2 y3 y4)) ∧ (∀ y0 y1 y2 y3 y4, LeO (trivetref04_Number.l1 k y0 y1 y2 y3 y4) (trivetref04_Number.l1 (k + 1) y0 y1 y2 y3 y4)) ∧ (∀ y0 y1, LeO (trivetref04_Number.l2 k y0 y1) (trivetref04_Number.l2 (k + 1) y0 y1))
  | 0 => ⟨fun _ _ _ _ _ r h => by simp [trivetref04_Number.l0] at h, fun _ _ _ _ _ r h => by simp [trivetref04_Number.l1] at h, fun _ _ r h => by simp [trivetref04_Number.l2] at h⟩
  | k + 1 => by
    obtain ⟨ih0, ih1, ih2⟩ := trivetref04_Number.mono_l k
    refine ⟨?_, ?_, ?_⟩
    · intro y0 y1 y2 y3 y4
      unfold trivetref04_Number.l0
      repeat' first
      | (with_reducible exact ih0 _ _ _ _ _)
      | (with_reducible exact ih1 _ _ _ _ _)
      | (with_reducible exact ih2 _ _)
      | (with_reducible exact LeO.refl _)
      | (with_reducible exact LeO.none _)
      | (with_reducible refine LeO.ite ?_ ?_)
      | (with_reducible refine LeO.bind ?_ (fun _ => ?_))
      | exact ih0 _ _ _ _ _
      | exact ih1 _ _ _ _ _
      | exact ih2 _ _
      | exact LeO.none _
      | refine LeO.ite ?_ ?_
      | refine LeO.bind ?_ (fun _ => ?_)
    · intro y0 y1 y2 y3 y4
      unfold trivetref04_Number.l1
      repeat' first
      | (with_reducible exact ih0 _ _ _ _ _)
      | (with_reducible exact ih1 _ _ _ _ _)
      | (with_reducible exact ih2 _ _)
      | (with_reducible exact LeO.refl _)
      | (with_reducible exact LeO.none _)
      | (with_reducible refine LeO.ite ?_ ?_)
      | (with_reducible refine LeO.bind ?_ (fun _ => ?_))
      | exact ih0 _ _ _ _ _
      | exact ih1 _ _ _ _ _
      | exact ih2 _ _
      | exact LeO.none _
      | refine LeO.ite ?_ ?_
      | refine LeO.bind ?_ (fun _ => ?_)
    · intro y0 y1
      unfold trivetref04_Number.l2
      repeat' first
      | (with_reducible exact ih0 _ _ _ _ _)
      | (with_reducible exact ih1 _ _ _ _ _)
      | (with_reducible exact ih2 _ _)
      | (with_reducible exact LeO.refl _)
      | (with_reducible exact LeO.none _)
      | (with_reducible refine LeO.ite ?_ ?_)
      | (with_reducible refine LeO.bind ?_ (fun _ => ?_))
      | exact ih0 _ _ _ _ _
      | exact ih1 _ _ _ _ _
      | exact ih2 _ _
      | exact LeO.none _
      | refine LeO.ite ?_ ?_
      | refine LeO.bind ?_ (fun _ => ?_)
theorem trivetref04_Number.mono : ∀ a0 a1 a2 k, LeO (trivetref04_Number.f k a0 a1 a2) (trivetref04_Number.f (k + 1) a0 a1 a2) := by
  intro a0 a1 a2 k
  obtain ⟨ih0, ih1, ih2⟩ := trivetref04_Number.mono_l k
  unfold trivetref04_Number.f
  repeat' first
      | (with_reducible exact ih0 _ _ _ _ _)
      | (with_reducible exact ih1 _ _ _ _ _)
      | (with_reducible exact ih2 _ _)
      | (with_reducible exact LeO.refl _)
      | (with_reducible exact LeO.none _)
      | (with_reducible refine LeO.ite ?_ ?_)
      | (with_reducible refine LeO.bind ?_ (fun _ => ?_))
      | exact ih0 _ _ _ _ _
      | exact ih1 _ _ _ _ _
      | exact ih2 _ _
      | exact LeO.none _
      | refine LeO.ite ?_ ?_
      | refine LeO.bind ?_ (fun _ => ?_)
set_option maxHeartbeats 8000000 in
set_option maxRecDepth 100000 in
theorem trivetref04_Number.calls (k : Nat) (a0_0 : Int) (a0_1 : Int) (a0_2 : Int) (r : Int) (w : World) (h : trivetref04_Number.f k a0_0 a0_1 a0_2 = some r) :
    Calls Try.prog 34 #[.agg #[.int .i64 a0_0, .int .i64 a0_1, .int .i64 a0_2]] w fun e w' => e = .returned (.int .i64 r) ∧ Below w.heap.size w w' := by
  have hu56 := Try.underlying56
  have HB := Aside0.mk (Below.refl w.heap.size w)
  have H : (trivetref04_Number.l0 k (wrap64 (a0_2 - 1)) 1 a0_0 a0_1 a0_2) = some r := h
  clear h
  have H' := Aside0.mk H
  clear H
  go_enter Try.func34, Try.ntmps34
  go_wp2_with (first | ((with_reducible refine gate_dst (N := 1) rfl ?_); refine box_event ?hg (N := 1) ?hd (cs := #[.int .i64 a0_0, .int .i64 a0_1, .int .i64 a0_2]) (t := 56) ?hr ?_; (case hd => rfl); (case hg => rfl); (case hr => first | (go_simp; done) | (go_simp; rfl)); intro gb225 hg w2 hbox hb; have n0_ := Aside0.mk (below_step (by repeat (first | (with_reducible first | exact HB.out | apply below_alloc | apply pw_below_drewN | apply below_drew1) | exact HB.out)) hb); have n1_ := Aside0.mk (hbox); have n2_ := Aside0.mk ((by rw [hg]; exact (below_size (by repeat (first | (with_reducible first | exact HB.out | apply below_alloc | apply pw_below_drewN | apply below_drew1) | exact HB.out))) : w.heap.size ≤ gb225)); have n3_ := Aside0.mk ((by rw [hg]; exact (below_size (by repeat (first | (with_reducible first | exact HB.out | apply below_alloc | apply pw_below_drewN | apply below_drew1) | exact HB.out))) : w.heap.size ≤ gb225)); clear HB; have HB := n0_; have BK225 := n1_; have GW225 := n2_; have GE225 := n3_; clear n0_ n1_ n2_ n3_; clear hb hbox hg; have hcz3 := blkAll3 BK225.out))
  (try simp only [Act.put, List.setIfInBounds_toArray, List.set_cons_zero, List.set_cons_succ])
  go_loopg [3, 4] k (fun kq v3 v4 w' => ∃ (x3_1 : Int) (x4_1 : Int), v3 = .int .i64 x3_1 ∧ v4 = .int .i64 x4_1 ∧ Aside0 (trivetref04_Number.l0 kq x3_1 x4_1 a0_0 a0_1 a0_2 = some r) ∧ Aside0 (kq ≤ k) ∧ Aside0 (w'.heap[gb225]? = some (.cells #[.int .i64 a0_0, .int .i64 a0_1, .int .i64 a0_2] 56 (0, 0))) ∧ Aside0 (Below w.heap.size w w'))
  case atStart => exact ⟨(wrap64 (a0_2 - 1)), (1), (by first | rfl | (simp; done) | (simp [*]; done)), (by first | rfl | (simp; done) | (simp [*]; done)), H', ⟨Nat.le_refl _⟩, ⟨by (with_reducible repeat (first | refine blk_drewN ?_ _ | refine blk_drew ?_ | refine blk_alloc ?_ _)); exact BK225.out⟩, ⟨by repeat (first | (with_reducible first | exact HB.out | apply below_alloc | apply pw_below_drewN | apply below_drew1 | refine below_set ?_ GE225.out) | exact HB.out)⟩⟩
  case round =>
    clear H'
    try clear p2
    try clear c3
    try clear hcz3
    obtain ⟨x3_1, x4_1, rfl, rfl, HA, HK1, BK225, HB⟩ := hrel
    cases gk with
    | zero => exact absurd HA.out (by simp [trivetref04_Number.l0])
    | succ k1 =>
      have H := HA.out
      clear HA
      simp only [trivetref04_Number.l0] at H
      by_cases c4 : x4_1 < a0_1
      · rw [if_pos c4] at H
        have c4b0 : decide (x4_1 < a0_1) = true := decide_eq_true c4
        clear c4
        replace H := Option.bind_eq_some_iff.mp H
        obtain ⟨t226, A50, H⟩ := H
        replace H : (trivetref04_Number.l0 k1 (wrap64 (x3_1 + t226)) (wrap64 (x4_1 + 1)) a0_0 a0_1 a0_2) = some r := H
        have A5 := Aside0.mk A50
        clear A50
        have H' := Aside0.mk H
        clear H
        have hcz6 := blkAll3 BK225.out
        go_wp2_with (first | ((with_reducible refine gate_callee (f := 36) rfl ?_); refine goesL_ (some 20) rfl rfl Try.func36 (by kernel_rfl) rfl #[.int .i64 a0_0, .int .i64 x4_1] rfl (by (try simp only [List.map_toArray, List.map_cons, List.map_nil]); first | done | rfl | (simp only [List.length_drop, List.length_take]; rfl)) ?_; (with_reducible refine (trivetref04_Days_s.calls a0_0 x4_1 t226 _ A5.out).mono ?_); rintro e w' ⟨rfl, ⟨nd, rfl⟩⟩; refine ⟨_, rfl, ?_⟩))
        go_roundg k1
        case measure => have := HK1.out; omega
        case rel => exact ⟨(wrap64 (x3_1 + t226)), (wrap64 (x4_1 + 1)), (by first | rfl | (simp; done) | (simp [*]; done)), (by first | rfl | (simp; done) | (simp [*]; done)), H', ⟨by have := HK1.out; omega⟩, ⟨by (with_reducible repeat (first | refine blk_drewN ?_ _ | refine blk_drew ?_ | refine blk_alloc ?_ _)); exact BK225.out⟩, ⟨by repeat (first | (with_reducible first | exact HB.out | apply below_alloc | apply pw_below_drewN | apply below_drew1 | refine below_set ?_ GE225.out) | exact HB.out)⟩⟩
      · rw [if_neg c4] at H
        have c4b0 : decide (x4_1 < a0_1) = false := decide_eq_false c4
        clear c4
        have H' := Aside0.mk H
        clear H
        have hcz7 := blkAll3 BK225.out
        go_wp2
        (try simp only [Act.put, List.setIfInBounds_toArray, List.set_cons_zero, List.set_cons_succ])
        go_loopg [3, 5] k1 (fun kq v3 v5 w' => ∃ (x3_2 : Int) (x5_2 : Int), v3 = .int .i64 x3_2 ∧ v5 = .int .i64 x5_2 ∧ Aside0 (trivetref04_Number.l1 kq x3_2 x5_2 a0_0 a0_1 a0_2 = some r) ∧ Aside0 (kq ≤ k1) ∧ Aside0 (w'.heap[gb225]? = some (.cells #[.int .i64 a0_0, .int .i64 a0_1, .int .i64 a0_2] 56 (0, 0))) ∧ Aside0 (Below w.heap.size w w'))
        case atStart => exact ⟨(x3_1), (1970), (by first | rfl | (simp; done) | (simp [*]; done)), (by first | rfl | (simp; done) | (simp [*]; done)), H', ⟨Nat.le_refl _⟩, ⟨by (with_reducible repeat (first | refine blk_drewN ?_ _ | refine blk_drew ?_ | refine blk_alloc ?_ _)); exact BK225.out⟩, ⟨by repeat (first | (with_reducible first | exact HB.out | apply below_alloc | apply pw_below_drewN | apply below_drew1 | refine below_set ?_ GE225.out) | exact HB.out)⟩⟩
        case round =>
          clear H'
          try clear p2
          try clear c3
          try clear c4
          try clear c4b0
          try clear p6
          try clear hcz3
          try clear hcz6
          try clear hcz7
          try clear p2
          obtain ⟨x3_2, x5_2, rfl, rfl, HA, HK2, BK225, HB⟩ := hrel
          cases gk with
          | zero => exact absurd HA.out (by simp [trivetref04_Number.l1])
          | succ k2 =>
            have H := HA.out
            clear HA
            simp only [trivetref04_Number.l1] at H
            by_cases c8 : x5_2 < a0_0
            · rw [if_pos c8] at H
              have c8b0 : decide (x5_2 < a0_0) = true := decide_eq_true c8
              clear c8
              replace H := Option.bind_eq_some_iff.mp H
              obtain ⟨t227, A90, H⟩ := H
              replace H : (trivetref04_Number.l1 k2 (wrap64 (x3_2 + t227)) (wrap64 (x5_2 + 1)) a0_0 a0_1 a0_2) = some r := H
              have A9 := Aside0.mk A90
              clear A90
              have H' := Aside0.mk H
              clear H
              have hcz10 := blkAll3 BK225.out
              go_wp2_with (first | ((with_reducible refine gate_callee (f := 35) rfl ?_); refine goesL_ (some 30) rfl rfl Try.func35 (by kernel_rfl) rfl #[.int .i64 x5_2] rfl (by (try simp only [List.map_toArray, List.map_cons, List.map_nil]); first | done | rfl | (simp only [List.length_drop, List.length_take]; rfl)) ?_; (with_reducible refine (trivetref04_year_s.calls x5_2 t227 _ A9.out).mono ?_); rintro e w' ⟨rfl, ⟨nd, rfl⟩⟩; refine ⟨_, rfl, ?_⟩))
              go_roundg k2
              case measure => have := HK1.out; have := HK2.out; omega
              case rel => exact ⟨(wrap64 (x3_2 + t227)), (wrap64 (x5_2 + 1)), (by first | rfl | (simp; done) | (simp [*]; done)), (by first | rfl | (simp; done) | (simp [*]; done)), H', ⟨by have := HK1.out; have := HK2.out; omega⟩, ⟨by (with_reducible repeat (first | refine blk_drewN ?_ _ | refine blk_drew ?_ | refine blk_alloc ?_ _)); exact BK225.out⟩, ⟨by repeat (first | (with_reducible first | exact HB.out | apply below_alloc | apply pw_below_drewN | apply below_drew1 | refine below_set ?_ GE225.out) | exact HB.out)⟩⟩
            · rw [if_neg c8] at H
              have c8b0 : decide (x5_2 < a0_0) = false := decide_eq_false c8
              clear c8
              have H' := Aside0.mk H
              clear H
              have hcz11 := blkAll3 BK225.out
              go_wp2
              (try simp only [Act.put, List.setIfInBounds_toArray, List.set_cons_zero, List.set_cons_succ])
              go_loopg [3, 6] k2 (fun kq v3 v6 w' => ∃ (x3_3 : Int) (x6_3 : Int), v3 = .int .i64 x3_3 ∧ v6 = .int .i64 x6_3 ∧ Aside0 (trivetref04_Number.l2 kq x3_3 x6_3 = some r) ∧ Aside0 (kq ≤ k2) ∧ Aside0 (w'.heap[gb225]? = some (.cells #[.int .i64 a0_0, .int .i64 a0_1, .int .i64 a0_2] 56 (0, 0))) ∧ Aside0 (Below w.heap.size w w'))
              case atStart => exact ⟨(x3_2), (a0_0), (by first | rfl | (simp; done) | (simp [*]; done)), (by first | rfl | (simp; done) | (simp [*]; done)), H', ⟨Nat.le_refl _⟩, ⟨by (with_reducible repeat (first | refine blk_drewN ?_ _ | refine blk_drew ?_ | refine blk_alloc ?_ _)); exact BK225.out⟩, ⟨by repeat (first | (with_reducible first | exact HB.out | apply below_alloc | apply pw_below_drewN | apply below_drew1 | refine below_set ?_ GE225.out) | exact HB.out)⟩⟩
              case round =>
                clear H'
                try clear p2
                try clear c3
                try clear c4
                try clear c4b0
                try clear p6
                try clear c8
                try clear c8b0
                try clear hcz10
                try clear hcz11
                try clear hcz3
                try clear hcz6
                try clear hcz7
                try clear p2
                try clear p6
                obtain ⟨x3_3, x6_3, rfl, rfl, HA, HK3, BK225, HB⟩ := hrel
                cases gk with
                | zero => exact absurd HA.out (by simp [trivetref04_Number.l2])
                | succ k3 =>
                  have H := HA.out
                  clear HA
                  simp only [trivetref04_Number.l2] at H
                  by_cases c12 : x6_3 < 1970
                  · rw [if_pos c12] at H
                    have c12b0 : decide (x6_3 < 1970) = true := decide_eq_true c12
                    clear c12
                    replace H := Option.bind_eq_some_iff.mp H
                    obtain ⟨t228, A130, H⟩ := H
                    replace H : (trivetref04_Number.l2 k3 (wrap64 (x3_3 - t228)) (wrap64 (x6_3 + 1))) = some r := H
                    have A13 := Aside0.mk A130
                    clear A130
                    have H' := Aside0.mk H
                    clear H
                    go_wp2_with (first | ((with_reducible refine gate_callee (f := 35) rfl ?_); refine goesL_ (some 40) rfl rfl Try.func35 (by kernel_rfl) rfl #[.int .i64 x6_3] rfl (by (try simp only [List.map_toArray, List.map_cons, List.map_nil]); first | done | rfl | (simp only [List.length_drop, List.length_take]; rfl)) ?_; (with_reducible refine (trivetref04_year_s.calls x6_3 t228 _ A13.out).mono ?_); rintro e w' ⟨rfl, ⟨nd, rfl⟩⟩; refine ⟨_, rfl, ?_⟩))
                    go_roundg k3
                    case measure => have := HK1.out; have := HK2.out; have := HK3.out; omega
                    case rel => exact ⟨(wrap64 (x3_3 - t228)), (wrap64 (x6_3 + 1)), (by first | rfl | (simp; done) | (simp [*]; done)), (by first | rfl | (simp; done) | (simp [*]; done)), H', ⟨by have := HK1.out; have := HK2.out; have := HK3.out; omega⟩, ⟨by (with_reducible repeat (first | refine blk_drewN ?_ _ | refine blk_drew ?_ | refine blk_alloc ?_ _)); exact BK225.out⟩, ⟨by repeat (first | (with_reducible first | exact HB.out | apply below_alloc | apply pw_below_drewN | apply below_drew1 | refine below_set ?_ GE225.out) | exact HB.out)⟩⟩
                  · rw [if_neg c12] at H
                    have c12b0 : decide (x6_3 < 1970) = false := decide_eq_false c12
                    clear c12
                    obtain rfl := Option.some.inj H
                    go_wp2
                    go_ret
                    exact ⟨by first | rfl | (simp [errW_none, errW_some] <;> rfl) | (simp [*, errW_none, errW_some] <;> rfl), by repeat (first | (with_reducible first | exact HB.out | apply below_alloc | apply pw_below_drewN | apply below_drew1 | refine below_set ?_ GE225.out) | exact HB.out)⟩

/-! ### trivetref04_Number_s: function 34, told plainly -/
theorem trivetref04_Number.loop2 (Y : Int) (hY : 1900 ≤ Y ∧ Y ≤ 2199) (n0 : Int) (h0 : -2000000 ≤ n0 ∧ n0 ≤ 2000000) : ∀ (j : Nat) (y : Int), y + j = 1970 → Y ≤ y → ∀ k, j + 1 ≤ k →
    trivetref04_Number.l2 k (n0 - (M.civ y 1 1 - M.civ Y 1 1)) y = some (n0 + M.civ Y 1 1) := by
  have bY := M.civ_bd (y := Y) (m := 1) (d := 1) ⟨by decide, by have := M.days_pos (y := Y) (m := 1) (by omega); omega⟩
  have c1970 : M.civ 1970 1 1 = 0 := by decide
  intro j
  induction j with
  | zero =>
    intro y hy hle k hk
    obtain ⟨k, rfl⟩ : ∃ m, k = m + 1 := ⟨k - 1, by omega⟩
    obtain rfl : y = 1970 := by omega
    simp only [trivetref04_Number.l2]
    rw [if_neg (by decide), c1970]
    congr 1
    omega
  | succ j ih =>
    intro y hy hle k hk
    obtain ⟨k, rfl⟩ : ∃ m, k = m + 1 := ⟨k - 1, by omega⟩
    have by_ := M.civ_bd (y := y) (m := 1) (d := 1) ⟨by decide, by have := M.days_pos (y := y) (m := 1) (by omega); omega⟩
    have hd := M.days_bd y 2
    simp only [trivetref04_Number.l2]
    unfold trivetref04_year_s.f
    rw [if_pos (by omega), Option.bind_some, M.w64_id (n := y + 1) (by omega) (by omega)]
    have e := M.civ_ylen (y := y) (by omega)
    rw [M.w64_id (by omega) (by omega), show n0 - (M.civ y 1 1 - M.civ Y 1 1) - (337 + M.days y 2) = n0 - (M.civ (y + 1) 1 1 - M.civ Y 1 1) by omega]
    exact ih (y + 1) (by omega) (by omega) k (by omega)
theorem trivetref04_Number.loop1 (Y m d : Int) (hY : 1900 ≤ Y ∧ Y ≤ 2199) (n0 : Int) (h0 : -2000000 ≤ n0 ∧ n0 ≤ 2000000) : ∀ (j : Nat) (y : Int), y + j = Y → 1970 ≤ y → ∀ k, j + 80 ≤ k →
    trivetref04_Number.l1 k (n0 + M.civ y 1 1) y Y m d = some (n0 + M.civ Y 1 1) := by
  intro j
  induction j with
  | zero =>
    intro y hy hle k hk
    obtain ⟨k, rfl⟩ : ∃ m, k = m + 1 := ⟨k - 1, by omega⟩
    obtain rfl : y = Y := by omega
    simp only [trivetref04_Number.l1]
    rw [if_neg (by omega)]
    obtain ⟨k, rfl⟩ : ∃ m, k = m + 1 := ⟨k - 1, by omega⟩
    simp only [trivetref04_Number.l2]
    rw [if_neg (by omega)]
  | succ j ih =>
    intro y hy hle k hk
    obtain ⟨k, rfl⟩ : ∃ m, k = m + 1 := ⟨k - 1, by omega⟩
    have by_ := M.civ_bd (y := y) (m := 1) (d := 1) ⟨by decide, by have := M.days_pos (y := y) (m := 1) (by omega); omega⟩
    have hd := M.days_bd y 2
    simp only [trivetref04_Number.l1]
    unfold trivetref04_year_s.f
    rw [if_pos (by omega), Option.bind_some, M.w64_id (n := y + 1) (by omega) (by omega)]
    have e := M.civ_ylen (y := y) (by omega)
    rw [M.w64_id (by omega) (by omega), show n0 + M.civ y 1 1 + (337 + M.days y 2) = n0 + M.civ (y + 1) 1 1 by omega]
    exact ih (y + 1) (by omega) (by omega) k (by omega)
theorem trivetref04_Number.loop0 (Y m d : Int) (hY : 1900 ≤ Y ∧ Y ≤ 2199) (hm : 1 ≤ m ∧ m ≤ 12) (hd : 1 ≤ d ∧ d ≤ 31) : ∀ (j : Nat) (i : Int), i + j = m → 1 ≤ i → ∀ k, j + 400 ≤ k →
    trivetref04_Number.l0 k (d - 1 + (M.civ Y i 1 - M.civ Y 1 1)) i Y m d = some (M.civ Y m d) := by
  have bY := M.civ_bd (y := Y) (m := 1) (d := 1) ⟨by decide, by have := M.days_pos (y := Y) (m := 1) (by omega); omega⟩
  have c1970 : M.civ 1970 1 1 = 0 := by decide
  intro j
  induction j with
  | zero =>
    intro i hi hle k hk
    obtain ⟨k, rfl⟩ : ∃ m, k = m + 1 := ⟨k - 1, by omega⟩
    obtain rfl : i = m := by omega
    have bm := M.civ_bd (y := Y) (m := i) (d := 1) ⟨by decide, by have := M.days_pos (y := Y) (m := i) (by omega); omega⟩
    simp only [trivetref04_Number.l0]
    rw [if_neg (by omega), M.civ_day Y i d]
    rcases Int.lt_or_le Y 1970 with hlt | hge
    · obtain ⟨k, rfl⟩ : ∃ m, k = m + 1 := ⟨k - 1, by omega⟩
      simp only [trivetref04_Number.l1]
      rw [if_neg (by omega)]
      have := trivetref04_Number.loop2 Y hY (d - 1 + (M.civ Y i 1 - M.civ Y 1 1)) (by omega) (1970 - Y).toNat Y (by omega) (by omega) k (by omega)
      rw [show d - 1 + (M.civ Y i 1 - M.civ Y 1 1) - (M.civ Y 1 1 - M.civ Y 1 1) = d - 1 + (M.civ Y i 1 - M.civ Y 1 1) by omega] at this
      rw [this]
      congr 1
      omega
    · have := trivetref04_Number.loop1 Y i d hY (d - 1 + (M.civ Y i 1 - M.civ Y 1 1)) (by omega) (Y - 1970).toNat 1970 (by omega) (by omega) k (by omega)
      rw [c1970, Int.add_zero] at this
      rw [this]
      congr 1
      omega
  | succ j ih =>
    intro i hi hle k hk
    obtain ⟨k, rfl⟩ : ∃ m, k = m + 1 := ⟨k - 1, by omega⟩
    have bm := M.civ_bd (y := Y) (m := i) (d := 1) ⟨by decide, by have := M.days_pos (y := Y) (m := i) (by omega); omega⟩
    have hdm := M.days_bd Y i
    have e := M.civ_next (y := Y) (m := i) hY (by omega)
    simp only [trivetref04_Number.l0]
    unfold trivetref04_Days_s.f
    rw [if_pos (by omega), Option.bind_some, M.w64_id (n := i + 1) (by omega) (by omega), M.w64_id (by omega) (by omega),
      show d - 1 + (M.civ Y i 1 - M.civ Y 1 1) + M.days Y i = d - 1 + (M.civ Y (i + 1) 1 - M.civ Y 1 1) by omega]
    exact ih (i + 1) (by omega) (by omega) k (by omega)
theorem trivetref04_Number.tells (y m d : Int) (h : 1900 ≤ y ∧ y ≤ 2199 ∧ 1 ≤ m ∧ m ≤ 12 ∧ 1 ≤ d ∧ d ≤ 31) (k : Nat) (hk : 420 ≤ k) : trivetref04_Number.f k y m d = some (M.civ y m d) := by
  unfold trivetref04_Number.f
  have := trivetref04_Number.loop0 y m d (by omega) (by omega) (by omega) (m - 1).toNat 1 (by omega) (by omega) k (by omega)
  rw [show d - 1 + (M.civ y 1 1 - M.civ y 1 1) = d - 1 by omega] at this
  rw [M.w64_id (by omega) (by omega)]
  exact this
def trivetref04_Number_s.f (y m d : Int) : Option Int := if 1900 ≤ y ∧ y ≤ 2199 ∧ 1 ≤ m ∧ m ≤ 12 ∧ 1 ≤ d ∧ d ≤ 31 then some (M.civ y m d) else none
theorem trivetref04_Number_s.calls (a0_0 : Int) (a0_1 : Int) (a0_2 : Int) (r : Int) (w : World) (h : trivetref04_Number_s.f a0_0 a0_1 a0_2 = some r) :
    Calls Try.prog 34 #[.agg #[.int .i64 a0_0, .int .i64 a0_1, .int .i64 a0_2]] w fun e w' => e = .returned (.int .i64 r) ∧ Below w.heap.size w w' := by
  unfold trivetref04_Number_s.f at h
  split at h
  · rename_i hr
    exact trivetref04_Number.calls (420) a0_0 a0_1 a0_2 r w ((trivetref04_Number.tells a0_0 a0_1 a0_2 hr (420) (Nat.le_refl _)).trans h)
  · cases h
theorem trivetref04_Number_s.yes {y m d : Int} (h : M.date y m d) : trivetref04_Number_s.f y m d = some (M.civ y m d) := by
  have a := M.date_in h
  unfold trivetref04_Number_s.f
  rw [if_pos (by omega)]

end Go.Proofs.Ytinpdbimbnhpoaa.P
