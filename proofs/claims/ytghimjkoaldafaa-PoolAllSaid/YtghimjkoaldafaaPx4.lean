-- Written by a program of this session out of the translation of the seat: Lean functions and the proofs that the Go functions come to them.
import Derived.Test.YtghimjkoaldafaaPx0
import Derived.Test.YtghimjkoaldafaaPx3
namespace Go.Proofs.Ytghimjkoaldafaa.P
open Go.RowKit Go.Proofs.YtghimjkoaldafaaW.PrintWords Go.Proofs.YtghimjkoaldafaaW.PrintLast Go.Proofs.YtghimjkoaldafaaW.PrintMore
attribute [local go_sem] max2_int min2_int max_two min_two max_three min_three max_four min_four   -- for this text's walks alone
set_option linter.unusedVariables false
set_option linter.unusedSimpArgs false

/-! ### trivetref18_Strip: function 10 -/
def trivetref18_Strip.j0 : Nat → Int → Int → Int → Int → Bool → Option (Int × Int × Int × Bool)
  | 0, _, _, _, _, _ => none
  | k + 1, x0, x1, x2, x3, x45 => if x45 = true then (some (0, 0, 0, false)) else ((trivetref02_Month_s.f x0 x1).bind fun t141 => ((trivetref02_Month_s.f x0 x2).bind fun t142 => (if t142 > t141 then ((trivetref02_Month_s.f x0 x3).bind fun t143 => (if t143 > 0 then (some (0, t141, 0, true)) else (some (wrap64 (-t143), t141, t143, true)))) else ((trivetref02_Month_s.f x0 x3).bind fun t144 => (if t144 > (wrap64 (t141 - t142)) then (some (0, t142, wrap64 (t141 - t142), true)) else (some (wrap64 ((wrap64 (t141 - t142)) - t144), t142, t144, true)))))))
def trivetref18_Strip.f (k : Nat) (a0 : Int) (a1 : Int) (a2 : Int) (a3 : Int) : Option (Int × Int × Int × Bool) := (trivetref02_May_s.f a0 a1).bind fun t140 => (if t140 = true then (if a2 < 0 then (trivetref18_Strip.j0 k a0 a1 a2 a3 true) else (if a3 < 0 then (trivetref18_Strip.j0 k a0 a1 a2 a3 true) else (if a2 > a1 then (trivetref18_Strip.j0 k a0 a1 a2 a3 true) else (if a3 > a1 then (trivetref18_Strip.j0 k a0 a1 a2 a3 true) else (trivetref18_Strip.j0 k a0 a1 a2 a3 (decide ((wrap64 (a2 + a3)) > a1))))))) else (trivetref18_Strip.j0 k a0 a1 a2 a3 true))
theorem trivetref18_Strip.mono_l : ∀ k, (∀ y0 y1 y2 y3 y4, LeO (trivetref18_Strip.j0 k y0 y1 y2 y3 y4) (trivetref18_Strip.j0 (k + 1) y0 y1 y2 y3 y4))
  | 0 => fun _ _ _ _ _ r h => by simp [trivetref18_Strip.j0] at h
  | k + 1 => by
    have ih0 := trivetref18_Strip.mono_l k
    · intro y0 y1 y2 y3 y4
      unfold trivetref18_Strip.j0
      repeat' first
      | (with_reducible exact ih0 _ _ _ _ _)
      | (with_reducible exact LeO.refl _)
      | (with_reducible exact LeO.none _)
      | (with_reducible refine LeO.ite ?_ ?_)
      | (with_reducible refine LeO.bind ?_ (fun _ => ?_))
      | exact ih0 _ _ _ _ _
      | exact LeO.none _
      | refine LeO.ite ?_ ?_
      | refine LeO.bind ?_ (fun _ => ?_)
theorem trivetref18_Strip.mono : ∀ a0 a1 a2 a3 k, LeO (trivetref18_Strip.f k a0 a1 a2 a3) (trivetref18_Strip.f (k + 1) a0 a1 a2 a3) := by
  intro a0 a1 a2 a3 k
  have ih0 := trivetref18_Strip.mono_l k
  unfold trivetref18_Strip.f
  repeat' first
      | (with_reducible exact ih0 _ _ _ _ _)
      | (with_reducible exact LeO.refl _)
      | (with_reducible exact LeO.none _)
      | (with_reducible refine LeO.ite ?_ ?_)
      | (with_reducible refine LeO.bind ?_ (fun _ => ?_))
      | exact ih0 _ _ _ _ _
      | exact LeO.none _
      | refine LeO.ite ?_ ?_
      | refine LeO.bind ?_ (fun _ => ?_)
set_option maxHeartbeats 8000000 in
set_option maxRecDepth 100000 in
theorem trivetref18_Strip.calls (k : Nat) (a0 : Int) (a1 : Int) (a2 : Int) (a3 : Int) (r1 : Int) (r2 : Int) (r3 : Int) (r4 : Bool) (w : World) (h : trivetref18_Strip.f k a0 a1 a2 a3 = some (r1, r2, r3, r4)) :
    Calls Try.prog 10 #[.int .i64 a0, .int .i64 a1, .int .i64 a2, .int .i64 a3] w fun e w' => e = .returned (.tuple #[.int .i64 r1, .int .i64 r2, .int .i64 r3, .bool r4]) ∧ Drawn0 w w' := by
  have H : ((trivetref02_May_s.f a0 a1).bind fun t140 => (if t140 = true then (if a2 < 0 then (trivetref18_Strip.j0 k a0 a1 a2 a3 true) else (if a3 < 0 then (trivetref18_Strip.j0 k a0 a1 a2 a3 true) else (if a2 > a1 then (trivetref18_Strip.j0 k a0 a1 a2 a3 true) else (if a3 > a1 then (trivetref18_Strip.j0 k a0 a1 a2 a3 true) else (trivetref18_Strip.j0 k a0 a1 a2 a3 (decide ((wrap64 (a2 + a3)) > a1))))))) else (trivetref18_Strip.j0 k a0 a1 a2 a3 true))) = some (r1, r2, r3, r4) := h
  clear h
  replace H := Option.bind_eq_some_iff.mp H
  obtain ⟨t140, A50, H⟩ := H
  replace H : (if t140 = true then (if a2 < 0 then (trivetref18_Strip.j0 k a0 a1 a2 a3 true) else (if a3 < 0 then (trivetref18_Strip.j0 k a0 a1 a2 a3 true) else (if a2 > a1 then (trivetref18_Strip.j0 k a0 a1 a2 a3 true) else (if a3 > a1 then (trivetref18_Strip.j0 k a0 a1 a2 a3 true) else (trivetref18_Strip.j0 k a0 a1 a2 a3 (decide ((wrap64 (a2 + a3)) > a1))))))) else (trivetref18_Strip.j0 k a0 a1 a2 a3 true)) = some (r1, r2, r3, r4) := H
  have A5 := Aside0.mk A50
  clear A50
  have HC6 := Aside0.mk H
  clear H
  go_enter Try.func10, Try.ntmps10
  go_upto_region 2 with (first | ((with_reducible refine gate_callee (f := 18) rfl ?_); refine goesL_ (some 18) rfl rfl Try.func18 (by kernel_rfl) rfl #[.int .i64 a0, .int .i64 a1] rfl (by (try simp only [List.map_toArray, List.map_cons, List.map_nil]); first | done | rfl | (simp only [List.length_drop, List.length_take]; rfl)) ?_; (with_reducible refine (trivetref02_May_s.calls a0 a1 t140 _ A5.out).mono ?_); rintro e w' ⟨rfl, ⟨nd, rfl⟩⟩; refine ⟨_, rfl, ?_⟩))
  (try simp only [Act.put, List.setIfInBounds_toArray, List.set_cons_zero, List.set_cons_succ])
  go_cut [45] (fun v45 wc => ∃ (kq : Nat) (x45_5 : Bool), v45 = .bool x45_5 ∧ Aside0 (trivetref18_Strip.j0 kq a0 a1 a2 a3 x45_5 = some (r1, r2, r3, r4)) ∧ Aside0 (kq ≤ k) ∧ Drawn0 w wc)
  case first =>
    have H := HC6.out
    clear HC6
    by_cases c7 : t140 = true
    · subst c7
      have H1 : (if a2 < 0 then (trivetref18_Strip.j0 k a0 a1 a2 a3 true) else (if a3 < 0 then (trivetref18_Strip.j0 k a0 a1 a2 a3 true) else (if a2 > a1 then (trivetref18_Strip.j0 k a0 a1 a2 a3 true) else (if a3 > a1 then (trivetref18_Strip.j0 k a0 a1 a2 a3 true) else (trivetref18_Strip.j0 k a0 a1 a2 a3 (decide ((wrap64 (a2 + a3)) > a1))))))) = some (r1, r2, r3, r4) := by rw [if_pos rfl] at H; exact H
      clear H
      have H := H1
      clear H1
      by_cases c8 : a2 < 0
      · rw [if_pos c8] at H
        have c8b0 : decide (a2 < 0) = true := decide_eq_true c8
        clear c8
        (first | rw [c8b0] | (simp only [i64_w, i32_w]; rw [c8b0]) | skip)
        have H' := Aside0.mk H
        clear H
        go_wp2
        go_meet
        case rel => exact ⟨_, (true), (by first | rfl | (simp; done) | (simp [*]; done)), H', ⟨by first | omega | exact Nat.le_refl _⟩, by repeat (first | exact Drawn0.refl _ | apply Drawn0.step)⟩
      · rw [if_neg c8] at H
        have c8b0 : decide (a2 < 0) = false := decide_eq_false c8
        clear c8
        (first | rw [c8b0] | (simp only [i64_w, i32_w]; rw [c8b0]) | skip)
        by_cases c9 : a3 < 0
        · rw [if_pos c9] at H
          have c9b0 : decide (a3 < 0) = true := decide_eq_true c9
          clear c9
          have H' := Aside0.mk H
          clear H
          go_wp2
          go_meet
          case rel => exact ⟨_, (true), (by first | rfl | (simp; done) | (simp [*]; done)), H', ⟨by first | omega | exact Nat.le_refl _⟩, by repeat (first | exact Drawn0.refl _ | apply Drawn0.step)⟩
        · rw [if_neg c9] at H
          have c9b0 : decide (a3 < 0) = false := decide_eq_false c9
          clear c9
          by_cases c10 : a2 > a1
          · rw [if_pos c10] at H
            have c10b0 : decide (a1 < a2) = true := decide_eq_true c10
            clear c10
            have H' := Aside0.mk H
            clear H
            go_wp2
            go_meet
            case rel => exact ⟨_, (true), (by first | rfl | (simp; done) | (simp [*]; done)), H', ⟨by first | omega | exact Nat.le_refl _⟩, by repeat (first | exact Drawn0.refl _ | apply Drawn0.step)⟩
          · rw [if_neg c10] at H
            have c10b0 : decide (a1 < a2) = false := decide_eq_false c10
            clear c10
            by_cases c11 : a3 > a1
            · rw [if_pos c11] at H
              have c11b0 : decide (a1 < a3) = true := decide_eq_true c11
              clear c11
              have H' := Aside0.mk H
              clear H
              go_wp2
              go_meet
              case rel => exact ⟨_, (true), (by first | rfl | (simp; done) | (simp [*]; done)), H', ⟨by first | omega | exact Nat.le_refl _⟩, by repeat (first | exact Drawn0.refl _ | apply Drawn0.step)⟩
            · rw [if_neg c11] at H
              have c11b0 : decide (a1 < a3) = false := decide_eq_false c11
              clear c11
              have H' := Aside0.mk H
              clear H
              go_wp2
              go_meet
              case rel => exact ⟨_, (decide ((wrap64 (a2 + a3)) > a1)), (by first | rfl | (simp; done) | (simp [*]; done)), H', ⟨by first | omega | exact Nat.le_refl _⟩, by repeat (first | exact Drawn0.refl _ | apply Drawn0.step)⟩
    · replace c7 := Bool.eq_false_iff.mpr c7
      subst c7
      have H1 : (trivetref18_Strip.j0 k a0 a1 a2 a3 true) = some (r1, r2, r3, r4) := by rw [if_neg (show ¬ (false = true) by decide)] at H; exact H
      clear H
      have H := H1
      clear H1
      have H' := Aside0.mk H
      clear H
      go_wp2
      go_meet
      case rel => exact ⟨_, (true), (by first | rfl | (simp; done) | (simp [*]; done)), H', ⟨by first | omega | exact Nat.le_refl _⟩, by repeat (first | exact Drawn0.refl _ | apply Drawn0.step)⟩
  case rest =>
    clear HC6
    try clear c1
    try clear p2
    try clear p6
    try clear c7
    try clear c8
    try clear c8b0
    try clear c9
    try clear c9b0
    try clear c10
    try clear c10b0
    try clear c11
    try clear c11b0
    obtain ⟨kq, x45_5, rfl, HA, HJ5, ⟨mc5, rfl⟩⟩ := hcut
    cases kq with
    | zero => exact absurd HA.out (by simp [trivetref18_Strip.j0])
    | succ kj5 =>
      have H := HA.out
      clear HA
      simp only [trivetref18_Strip.j0] at H
      by_cases c12 : x45_5 = true
      · subst c12
        have H1 : (some (0, 0, 0, false)) = some (r1, r2, r3, r4) := by rw [if_pos rfl] at H; exact H
        clear H
        have H := H1
        clear H1
        simp only [Option.some.injEq, Prod.mk.injEq] at H
        obtain ⟨rfl, rfl, rfl, rfl⟩ := H
        go_wp2
        refine bodyPost_ret (results_list (rs := [.tmp 8, .tmp 9, .tmp 10, .tmp 11]) rfl (by simp) (.tmp (.tmp (.tmp (.tmp .nil))))) rfl ?_
        exact ⟨by first | rfl | (simp; done) | (simp [*]; done), by repeat (first | exact Drawn0.refl _ | apply Drawn0.step)⟩
      · replace c12 := Bool.eq_false_iff.mpr c12
        subst c12
        have H1 : ((trivetref02_Month_s.f a0 a1).bind fun t141 => ((trivetref02_Month_s.f a0 a2).bind fun t142 => (if t142 > t141 then ((trivetref02_Month_s.f a0 a3).bind fun t143 => (if t143 > 0 then (some (0, t141, 0, true)) else (some (wrap64 (-t143), t141, t143, true)))) else ((trivetref02_Month_s.f a0 a3).bind fun t144 => (if t144 > (wrap64 (t141 - t142)) then (some (0, t142, wrap64 (t141 - t142), true)) else (some (wrap64 ((wrap64 (t141 - t142)) - t144), t142, t144, true))))))) = some (r1, r2, r3, r4) := by rw [if_neg (show ¬ (false = true) by decide)] at H; exact H
        clear H
        have H := H1
        clear H1
        replace H := Option.bind_eq_some_iff.mp H
        obtain ⟨t141, A130, H⟩ := H
        replace H : ((trivetref02_Month_s.f a0 a2).bind fun t142 => (if t142 > t141 then ((trivetref02_Month_s.f a0 a3).bind fun t143 => (if t143 > 0 then (some (0, t141, 0, true)) else (some (wrap64 (-t143), t141, t143, true)))) else ((trivetref02_Month_s.f a0 a3).bind fun t144 => (if t144 > (wrap64 (t141 - t142)) then (some (0, t142, wrap64 (t141 - t142), true)) else (some (wrap64 ((wrap64 (t141 - t142)) - t144), t142, t144, true)))))) = some (r1, r2, r3, r4) := H
        have A13 := Aside0.mk A130
        clear A130
        replace H := Option.bind_eq_some_iff.mp H
        obtain ⟨t142, A140, H⟩ := H
        replace H : (if t142 > t141 then ((trivetref02_Month_s.f a0 a3).bind fun t143 => (if t143 > 0 then (some (0, t141, 0, true)) else (some (wrap64 (-t143), t141, t143, true)))) else ((trivetref02_Month_s.f a0 a3).bind fun t144 => (if t144 > (wrap64 (t141 - t142)) then (some (0, t142, wrap64 (t141 - t142), true)) else (some (wrap64 ((wrap64 (t141 - t142)) - t144), t142, t144, true))))) = some (r1, r2, r3, r4) := H
        have A14 := Aside0.mk A140
        clear A140
        by_cases c15 : t142 > t141
        · rw [if_pos c15] at H
          have c15b0 : decide (t141 < t142) = true := decide_eq_true c15
          clear c15
          replace H := Option.bind_eq_some_iff.mp H
          obtain ⟨t143, A160, H⟩ := H
          replace H : (if t143 > 0 then (some (0, t141, 0, true)) else (some (wrap64 (-t143), t141, t143, true))) = some (r1, r2, r3, r4) := H
          have A16 := Aside0.mk A160
          clear A160
          by_cases c17 : t143 > 0
          · rw [if_pos c17] at H
            have c17b0 : decide (0 < t143) = true := decide_eq_true c17
            clear c17
            simp only [Option.some.injEq, Prod.mk.injEq] at H
            obtain ⟨rfl, rfl, rfl, rfl⟩ := H
            go_wp2_with (first | ((with_reducible refine gate_callee (f := 19) rfl ?_); refine goesL_ (some 48) rfl rfl Try.func19 (by kernel_rfl) rfl #[.int .i64 a0, .int .i64 a1] rfl (by (try simp only [List.map_toArray, List.map_cons, List.map_nil]); first | done | rfl | (simp only [List.length_drop, List.length_take]; rfl)) ?_; (with_reducible refine (trivetref02_Month_s.calls a0 a1 t141 _ A13.out).mono ?_); rintro e w' ⟨rfl, ⟨nd, rfl⟩⟩; refine ⟨_, rfl, ?_⟩) | ((with_reducible refine gate_callee (f := 19) rfl ?_); refine goesL_ (some 51) rfl rfl Try.func19 (by kernel_rfl) rfl #[.int .i64 a0, .int .i64 a2] rfl (by (try simp only [List.map_toArray, List.map_cons, List.map_nil]); first | done | rfl | (simp only [List.length_drop, List.length_take]; rfl)) ?_; (with_reducible refine (trivetref02_Month_s.calls a0 a2 t142 _ A14.out).mono ?_); rintro e w' ⟨rfl, ⟨nd, rfl⟩⟩; refine ⟨_, rfl, ?_⟩) | ((with_reducible refine gate_callee (f := 19) rfl ?_); refine goesL_ (some 58) rfl rfl Try.func19 (by kernel_rfl) rfl #[.int .i64 a0, .int .i64 a3] rfl (by (try simp only [List.map_toArray, List.map_cons, List.map_nil]); first | done | rfl | (simp only [List.length_drop, List.length_take]; rfl)) ?_; (with_reducible refine (trivetref02_Month_s.calls a0 a3 t143 _ A16.out).mono ?_); rintro e w' ⟨rfl, ⟨nd, rfl⟩⟩; refine ⟨_, rfl, ?_⟩))
            refine bodyPost_ret (results_list (rs := [.tmp 8, .tmp 9, .tmp 10, .tmp 11]) rfl (by simp) (.tmp (.tmp (.tmp (.tmp .nil))))) rfl ?_
            exact ⟨by first | rfl | (simp; done) | (simp [*]; done), by repeat (first | exact Drawn0.refl _ | apply Drawn0.step)⟩
          · rw [if_neg c17] at H
            have c17b0 : decide (0 < t143) = false := decide_eq_false c17
            clear c17
            simp only [Option.some.injEq, Prod.mk.injEq] at H
            obtain ⟨rfl, rfl, rfl, rfl⟩ := H
            go_wp2_with (first | ((with_reducible refine gate_callee (f := 19) rfl ?_); refine goesL_ (some 48) rfl rfl Try.func19 (by kernel_rfl) rfl #[.int .i64 a0, .int .i64 a1] rfl (by (try simp only [List.map_toArray, List.map_cons, List.map_nil]); first | done | rfl | (simp only [List.length_drop, List.length_take]; rfl)) ?_; (with_reducible refine (trivetref02_Month_s.calls a0 a1 t141 _ A13.out).mono ?_); rintro e w' ⟨rfl, ⟨nd, rfl⟩⟩; refine ⟨_, rfl, ?_⟩) | ((with_reducible refine gate_callee (f := 19) rfl ?_); refine goesL_ (some 51) rfl rfl Try.func19 (by kernel_rfl) rfl #[.int .i64 a0, .int .i64 a2] rfl (by (try simp only [List.map_toArray, List.map_cons, List.map_nil]); first | done | rfl | (simp only [List.length_drop, List.length_take]; rfl)) ?_; (with_reducible refine (trivetref02_Month_s.calls a0 a2 t142 _ A14.out).mono ?_); rintro e w' ⟨rfl, ⟨nd, rfl⟩⟩; refine ⟨_, rfl, ?_⟩) | ((with_reducible refine gate_callee (f := 19) rfl ?_); refine goesL_ (some 58) rfl rfl Try.func19 (by kernel_rfl) rfl #[.int .i64 a0, .int .i64 a3] rfl (by (try simp only [List.map_toArray, List.map_cons, List.map_nil]); first | done | rfl | (simp only [List.length_drop, List.length_take]; rfl)) ?_; (with_reducible refine (trivetref02_Month_s.calls a0 a3 t143 _ A16.out).mono ?_); rintro e w' ⟨rfl, ⟨nd, rfl⟩⟩; refine ⟨_, rfl, ?_⟩))
            refine bodyPost_ret (results_list (rs := [.tmp 8, .tmp 9, .tmp 10, .tmp 11]) rfl (by simp) (.tmp (.tmp (.tmp (.tmp .nil))))) rfl ?_
            exact ⟨by first | rfl | (simp; done) | (simp [*]; done), by repeat (first | exact Drawn0.refl _ | apply Drawn0.step)⟩
        · rw [if_neg c15] at H
          have c15b0 : decide (t141 < t142) = false := decide_eq_false c15
          clear c15
          replace H := Option.bind_eq_some_iff.mp H
          obtain ⟨t144, A180, H⟩ := H
          replace H : (if t144 > (wrap64 (t141 - t142)) then (some (0, t142, wrap64 (t141 - t142), true)) else (some (wrap64 ((wrap64 (t141 - t142)) - t144), t142, t144, true))) = some (r1, r2, r3, r4) := H
          have A18 := Aside0.mk A180
          clear A180
          by_cases c19 : t144 > (wrap64 (t141 - t142))
          · rw [if_pos c19] at H
            have c19b0 : decide ((wrap64 (t141 - t142)) < t144) = true := decide_eq_true c19
            clear c19
            simp only [Option.some.injEq, Prod.mk.injEq] at H
            obtain ⟨rfl, rfl, rfl, rfl⟩ := H
            go_wp2_with (first | ((with_reducible refine gate_callee (f := 19) rfl ?_); refine goesL_ (some 48) rfl rfl Try.func19 (by kernel_rfl) rfl #[.int .i64 a0, .int .i64 a1] rfl (by (try simp only [List.map_toArray, List.map_cons, List.map_nil]); first | done | rfl | (simp only [List.length_drop, List.length_take]; rfl)) ?_; (with_reducible refine (trivetref02_Month_s.calls a0 a1 t141 _ A13.out).mono ?_); rintro e w' ⟨rfl, ⟨nd, rfl⟩⟩; refine ⟨_, rfl, ?_⟩) | ((with_reducible refine gate_callee (f := 19) rfl ?_); refine goesL_ (some 51) rfl rfl Try.func19 (by kernel_rfl) rfl #[.int .i64 a0, .int .i64 a2] rfl (by (try simp only [List.map_toArray, List.map_cons, List.map_nil]); first | done | rfl | (simp only [List.length_drop, List.length_take]; rfl)) ?_; (with_reducible refine (trivetref02_Month_s.calls a0 a2 t142 _ A14.out).mono ?_); rintro e w' ⟨rfl, ⟨nd, rfl⟩⟩; refine ⟨_, rfl, ?_⟩) | ((with_reducible refine gate_callee (f := 19) rfl ?_); refine goesL_ (some 58) rfl rfl Try.func19 (by kernel_rfl) rfl #[.int .i64 a0, .int .i64 a3] rfl (by (try simp only [List.map_toArray, List.map_cons, List.map_nil]); first | done | rfl | (simp only [List.length_drop, List.length_take]; rfl)) ?_; (with_reducible refine (trivetref02_Month_s.calls a0 a3 t144 _ A18.out).mono ?_); rintro e w' ⟨rfl, ⟨nd, rfl⟩⟩; refine ⟨_, rfl, ?_⟩))
            refine bodyPost_ret (results_list (rs := [.tmp 8, .tmp 9, .tmp 10, .tmp 11]) rfl (by simp) (.tmp (.tmp (.tmp (.tmp .nil))))) rfl ?_
            exact ⟨by first | rfl | (simp; done) | (simp [*]; done), by repeat (first | exact Drawn0.refl _ | apply Drawn0.step)⟩
          · rw [if_neg c19] at H
            have c19b0 : decide ((wrap64 (t141 - t142)) < t144) = false := decide_eq_false c19
            clear c19
            simp only [Option.some.injEq, Prod.mk.injEq] at H
            obtain ⟨rfl, rfl, rfl, rfl⟩ := H
            go_wp2_with (first | ((with_reducible refine gate_callee (f := 19) rfl ?_); refine goesL_ (some 48) rfl rfl Try.func19 (by kernel_rfl) rfl #[.int .i64 a0, .int .i64 a1] rfl (by (try simp only [List.map_toArray, List.map_cons, List.map_nil]); first | done | rfl | (simp only [List.length_drop, List.length_take]; rfl)) ?_; (with_reducible refine (trivetref02_Month_s.calls a0 a1 t141 _ A13.out).mono ?_); rintro e w' ⟨rfl, ⟨nd, rfl⟩⟩; refine ⟨_, rfl, ?_⟩) | ((with_reducible refine gate_callee (f := 19) rfl ?_); refine goesL_ (some 51) rfl rfl Try.func19 (by kernel_rfl) rfl #[.int .i64 a0, .int .i64 a2] rfl (by (try simp only [List.map_toArray, List.map_cons, List.map_nil]); first | done | rfl | (simp only [List.length_drop, List.length_take]; rfl)) ?_; (with_reducible refine (trivetref02_Month_s.calls a0 a2 t142 _ A14.out).mono ?_); rintro e w' ⟨rfl, ⟨nd, rfl⟩⟩; refine ⟨_, rfl, ?_⟩) | ((with_reducible refine gate_callee (f := 19) rfl ?_); refine goesL_ (some 58) rfl rfl Try.func19 (by kernel_rfl) rfl #[.int .i64 a0, .int .i64 a3] rfl (by (try simp only [List.map_toArray, List.map_cons, List.map_nil]); first | done | rfl | (simp only [List.length_drop, List.length_take]; rfl)) ?_; (with_reducible refine (trivetref02_Month_s.calls a0 a3 t144 _ A18.out).mono ?_); rintro e w' ⟨rfl, ⟨nd, rfl⟩⟩; refine ⟨_, rfl, ?_⟩))
            refine bodyPost_ret (results_list (rs := [.tmp 8, .tmp 9, .tmp 10, .tmp 11]) rfl (by simp) (.tmp (.tmp (.tmp (.tmp .nil))))) rfl ?_
            exact ⟨by first | rfl | (simp; done) | (simp [*]; done), by repeat (first | exact Drawn0.refl _ | apply Drawn0.step)⟩

/-! ### trivetref18_Strip_s: function 10, told plainly -/
theorem trivetref18_Strip.tells (b r f g : Int) (hr : M.In r) (hf : M.In f) (hg : M.In g) (k : Nat) (hk : 1 ≤ k) : trivetref18_Strip.f k b r f g =
    some (if M.stripOk b r f g then (M.net b r f g, M.fee b r f, M.guar b r f g, true) else (0, 0, 0, false)) := by
  obtain ⟨k, rfl⟩ : ∃ m, k = m + 1 := ⟨k - 1, by omega⟩
  unfold M.In at hr hf hg
  unfold trivetref18_Strip.f trivetref02_May_s.f
  rw [Option.bind_some]
  have out : ¬ M.stripOk b r f g → trivetref18_Strip.j0 (k + 1) b r f g true = some (if M.stripOk b r f g then (M.net b r f g, M.fee b r f, M.guar b r f g, true) else (0, 0, 0, false)) := by
    intro hn
    rw [if_neg hn]
    simp [trivetref18_Strip.j0]
  by_cases h : M.may b r
  · rw [if_pos (decide_eq_true h)]
    have h4 := h.2.2.1
    have h5 := h.2.2.2
    by_cases h1 : f < 0
    · rw [if_pos h1]; exact out (fun hh => by have := hh.2.1; omega)
    rw [if_neg h1]
    by_cases h2 : g < 0
    · rw [if_pos h2]; exact out (fun hh => by have := hh.2.2.1; omega)
    rw [if_neg h2]
    by_cases h3 : f > r
    · rw [if_pos h3]; exact out (fun hh => by have := hh.2.2; omega)
    rw [if_neg h3]
    by_cases h7 : g > r
    · rw [if_pos h7]; exact out (fun hh => by have := hh.2.2; omega)
    rw [if_neg h7, M.w64_id (n := f + g) (by omega) (by omega)]
    by_cases h6 : f + g > r
    · rw [decide_eq_true h6]; exact out (fun hh => by have := hh.2.2; omega)
    rw [decide_eq_false h6]
    have hok : M.stripOk b r f g := ⟨h, by omega, by omega, by omega⟩
    have hmf : M.may b f := ⟨h.1, h.2.1, by omega, by omega⟩
    have hmg : M.may b g := ⟨h.1, h.2.1, by omega, by omega⟩
    obtain ⟨s1, s2, s3, s4, s5, s6⟩ := M.strip_bd hok
    simp only [trivetref18_Strip.j0]
    rw [if_neg (by decide), trivetref02_Month_s.yes h, trivetref02_Month_s.yes hmf, trivetref02_Month_s.yes hmg, if_pos hok]
    simp only [Option.bind_some]
    have m0 := M.month_nonneg hmg
    have m1 := M.month_nonneg hmf
    have m2 := M.month_nonneg h
    have e1 : M.month b f > M.month b r → M.fee b r f = M.month b r := by intro hh; unfold M.fee M.least; rw [if_neg (by omega)]
    have e2 : ¬ M.month b f > M.month b r → M.fee b r f = M.month b f := by intro hh; unfold M.fee M.least; rw [if_pos (by omega)]
    have e3 : M.month b g > M.month b r - M.fee b r f → M.guar b r f g = M.month b r - M.fee b r f := by intro hh; unfold M.guar M.least; rw [if_neg (by omega)]
    have e4 : ¬ M.month b g > M.month b r - M.fee b r f → M.guar b r f g = M.month b g := by intro hh; unfold M.guar M.least; rw [if_pos (by omega)]
    unfold M.net at *
    generalize M.month b r = A at *
    generalize M.month b f = B at *
    generalize M.month b g = C at *
    generalize M.fee b r f = FF at *
    generalize M.guar b r f g = GG at *
    have pe : ∀ (x y z x' y' z' : Int), x = x' → y = y' → z = z' → some (x, y, z, true) = some (x', y', z', true) := by rintro x y z _ _ _ rfl rfl rfl; rfl
    by_cases h8 : B > A
    · have f1 := e1 h8
      rw [if_pos h8]
      by_cases h9 : C > 0
      · have g1 := e3 (by omega)
        rw [if_pos h9]
        exact pe _ _ _ _ _ _ (by omega) (by omega) (by omega)
      · have g1 := e4 (by omega)
        rw [if_neg h9, M.w64_id (n := -C) (by omega) (by omega)]
        exact pe _ _ _ _ _ _ (by omega) (by omega) (by omega)
    · have f1 := e2 h8
      rw [if_neg h8, M.w64_id (n := A - B) (by omega) (by omega)]
      by_cases h9 : C > A - B
      · have g1 := e3 (by omega)
        rw [if_pos h9]
        exact pe _ _ _ _ _ _ (by omega) (by omega) (by omega)
      · have g1 := e4 (by omega)
        rw [if_neg h9, M.w64_id (n := A - B - C) (by omega) (by omega)]
        exact pe _ _ _ _ _ _ (by omega) (by omega) (by omega)
  · rw [if_neg (by simpa using h)]
    exact out (fun hh => h hh.1)
def trivetref18_Strip_s.f (b r f g : Int) : Option (Int × Int × Int × Bool) :=
  if M.In r ∧ M.In f ∧ M.In g then some (if M.stripOk b r f g then (M.net b r f g, M.fee b r f, M.guar b r f g, true) else (0, 0, 0, false)) else none
theorem trivetref18_Strip_s.calls (a0 : Int) (a1 : Int) (a2 : Int) (a3 : Int) (r1 : Int) (r2 : Int) (r3 : Int) (r4 : Bool) (w : World) (h : trivetref18_Strip_s.f a0 a1 a2 a3 = some (r1, r2, r3, r4)) :
    Calls Try.prog 10 #[.int .i64 a0, .int .i64 a1, .int .i64 a2, .int .i64 a3] w fun e w' => e = .returned (.tuple #[.int .i64 r1, .int .i64 r2, .int .i64 r3, .bool r4]) ∧ Drawn0 w w' := by
  unfold trivetref18_Strip_s.f at h
  split at h
  · rename_i hr
    exact trivetref18_Strip.calls 1 a0 a1 a2 a3 r1 r2 r3 r4 w ((trivetref18_Strip.tells a0 a1 a2 a3 hr.1 hr.2.1 hr.2.2 1 (Nat.le_refl _)).trans h)
  · cases h
theorem trivetref18_Strip_s.yes {b r f g : Int} (hr : M.In r) (hf : M.In f) (hg : M.In g) (h : M.stripOk b r f g) : trivetref18_Strip_s.f b r f g = some (M.net b r f g, M.fee b r f, M.guar b r f g, true) := by unfold trivetref18_Strip_s.f; rw [if_pos ⟨hr, hf, hg⟩, if_pos h]
theorem trivetref18_Strip_s.no {b r f g : Int} (hr : M.In r) (hf : M.In f) (hg : M.In g) (h : ¬ M.stripOk b r f g) : trivetref18_Strip_s.f b r f g = some (0, 0, 0, false) := by unfold trivetref18_Strip_s.f; rw [if_pos ⟨hr, hf, hg⟩, if_neg h]

/-! ### trivetlaw18_PoolStrips: function 3 -/
def trivetlaw18_PoolStrips.f (a0 : Int) (a1 : Int) (a2 : Int) (a3 : Int) : Option (Bool) := (trivetlaw18_up_s.f).bind fun t145 => ((pool_Strip_s.f a0 a1 a2 a3).bind fun bt146 => ((trivetref18_Strip_s.f a0 a1 a2 a3).bind fun bt150 => (if bt150.2.2.2 = true then (if t145 = true then (if bt146.2.2.2.isNone = true then (if bt146.1 = bt150.1 then (if bt146.2.1 = bt150.2.1 then (some (bt146.2.2.1 == bt150.2.2.1)) else (some false)) else (some false)) else (some false)) else (some false)) else (if t145 = true then (if bt146.2.2.2.isNone = true then (some false) else (if (bt146.2.2.2.getD 0) = 1 then (if bt146.1 = 0 then (if bt146.2.1 = 0 then (some (bt146.2.2.1 == 0)) else (some false)) else (some false)) else (some false))) else (some false)))))
set_option maxHeartbeats 8000000 in
set_option maxRecDepth 100000 in
theorem trivetlaw18_PoolStrips.calls (a0 : Int) (a1 : Int) (a2 : Int) (a3 : Int) (r : Bool) (w : World) (h : trivetlaw18_PoolStrips.f a0 a1 a2 a3 = some r) :
    Calls Try.prog 3 #[.int .i64 a0, .int .i64 a1, .int .i64 a2, .int .i64 a3] w fun e w' => e = .returned (.bool r) ∧ Below w.heap.size w w' := by
  have hu24 := Try.underlying24
  have hu29 := Try.underlying29
  have HB := Aside0.mk (Below.refl w.heap.size w)
  have H : ((trivetlaw18_up_s.f).bind fun t145 => ((pool_Strip_s.f a0 a1 a2 a3).bind fun bt146 => ((trivetref18_Strip_s.f a0 a1 a2 a3).bind fun bt150 => (if bt150.2.2.2 = true then (if t145 = true then (if bt146.2.2.2.isNone = true then (if bt146.1 = bt150.1 then (if bt146.2.1 = bt150.2.1 then (some (bt146.2.2.1 == bt150.2.2.1)) else (some false)) else (some false)) else (some false)) else (some false)) else (if t145 = true then (if bt146.2.2.2.isNone = true then (some false) else (if (bt146.2.2.2.getD 0) = 1 then (if bt146.1 = 0 then (if bt146.2.1 = 0 then (some (bt146.2.2.1 == 0)) else (some false)) else (some false)) else (some false))) else (some false)))))) = some r := h
  clear h
  replace H := Option.bind_eq_some_iff.mp H
  obtain ⟨t145, A50, H⟩ := H
  replace H : ((pool_Strip_s.f a0 a1 a2 a3).bind fun bt146 => ((trivetref18_Strip_s.f a0 a1 a2 a3).bind fun bt150 => (if bt150.2.2.2 = true then (if t145 = true then (if bt146.2.2.2.isNone = true then (if bt146.1 = bt150.1 then (if bt146.2.1 = bt150.2.1 then (some (bt146.2.2.1 == bt150.2.2.1)) else (some false)) else (some false)) else (some false)) else (some false)) else (if t145 = true then (if bt146.2.2.2.isNone = true then (some false) else (if (bt146.2.2.2.getD 0) = 1 then (if bt146.1 = 0 then (if bt146.2.1 = 0 then (some (bt146.2.2.1 == 0)) else (some false)) else (some false)) else (some false))) else (some false))))) = some r := H
  have A5 := Aside0.mk A50
  clear A50
  replace H := Option.bind_eq_some_iff.mp H
  obtain ⟨⟨t146, t147, t148, t149⟩, A60, H⟩ := H
  replace H : ((trivetref18_Strip_s.f a0 a1 a2 a3).bind fun bt150 => (if bt150.2.2.2 = true then (if t145 = true then (if t149.isNone = true then (if t146 = bt150.1 then (if t147 = bt150.2.1 then (some (t148 == bt150.2.2.1)) else (some false)) else (some false)) else (some false)) else (some false)) else (if t145 = true then (if t149.isNone = true then (some false) else (if (t149.getD 0) = 1 then (if t146 = 0 then (if t147 = 0 then (some (t148 == 0)) else (some false)) else (some false)) else (some false))) else (some false)))) = some r := H
  have A6 := Aside0.mk A60
  clear A60
  replace H := Option.bind_eq_some_iff.mp H
  obtain ⟨⟨t150, t151, t152, t153⟩, A70, H⟩ := H
  replace H : (if t153 = true then (if t145 = true then (if t149.isNone = true then (if t146 = t150 then (if t147 = t151 then (some (t148 == t152)) else (some false)) else (some false)) else (some false)) else (some false)) else (if t145 = true then (if t149.isNone = true then (some false) else (if (t149.getD 0) = 1 then (if t146 = 0 then (if t147 = 0 then (some (t148 == 0)) else (some false)) else (some false)) else (some false))) else (some false))) = some r := H
  have A7 := Aside0.mk A70
  clear A70
  by_cases c8 : t153 = true
  · subst c8
    have H1 : (if t145 = true then (if t149.isNone = true then (if t146 = t150 then (if t147 = t151 then (some (t148 == t152)) else (some false)) else (some false)) else (some false)) else (some false)) = some r := by rw [if_pos rfl] at H; exact H
    clear H
    have H := H1
    clear H1
    by_cases c9 : t145 = true
    · subst c9
      have H1 : (if t149.isNone = true then (if t146 = t150 then (if t147 = t151 then (some (t148 == t152)) else (some false)) else (some false)) else (some false)) = some r := by rw [if_pos rfl] at H; exact H
      clear H
      have H := H1
      clear H1
      rcases t149 with _ | q154
      · have H1 : (if t146 = t150 then (if t147 = t151 then (some (t148 == t152)) else (some false)) else (some false)) = some r := by rw [if_pos (show (none : Option Int).isNone = true by rfl)] at H; exact H
        clear H
        have H := H1
        clear H1
        try simp only [errW_none, errW_some]
        by_cases c10 : t146 = t150
        · rw [if_pos c10] at H
          have c10b0 : (t146 == t150) = true := beq_iff_eq.mpr c10
          have c10b1 : (t146 != t150) = false := bne_eq_false_iff_eq.mpr c10
          clear c10
          by_cases c11 : t147 = t151
          · rw [if_pos c11] at H
            have c11b0 : (t147 == t151) = true := beq_iff_eq.mpr c11
            have c11b1 : (t147 != t151) = false := bne_eq_false_iff_eq.mpr c11
            clear c11
            obtain rfl := Option.some.inj H
            go_enter Try.func3, Try.ntmps3
            go_wp2_with (first | ((with_reducible refine gate_callee (f := 8) rfl ?_); refine goesL_ (some 18) rfl rfl Try.func8 (by kernel_rfl) rfl #[] rfl (by (try simp only [List.map_toArray, List.map_cons, List.map_nil]); first | done | rfl | (simp only [List.length_drop, List.length_take]; rfl)) ?_; (with_reducible refine (trivetlaw18_up_s.calls  true _ A5.out).mono ?_); rintro e w12 ⟨rfl, hb⟩; refine ⟨_, rfl, ?_⟩; have n0_ := Aside0.mk (below_step (by repeat (first | (with_reducible first | exact HB.out | apply below_alloc | apply pw_below_drewN | apply below_drew1) | exact HB.out)) hb); clear HB; have HB := n0_; clear n0_; (try clear hb); (try clear hb2); (try clear hk); (try clear hi)) | ((with_reducible refine gate_callee (f := 9) rfl ?_); refine goesL_ (some 24) rfl rfl Try.func9 (by kernel_rfl) rfl #[.int .i64 a0, .int .i64 a1, .int .i64 a2, .int .i64 a3] rfl (by (try simp only [List.map_toArray, List.map_cons, List.map_nil]); first | done | rfl | (simp only [List.length_drop, List.length_take]; rfl)) ?_; (with_reducible refine (pool_Strip_s.calls a0 a1 a2 a3 t146 t147 t148 none _ A6.out).mono ?_); rintro e w13 ⟨rfl, hb⟩; refine ⟨_, rfl, ?_⟩; have n0_ := Aside0.mk (below_step (by repeat (first | (with_reducible first | exact HB.out | apply below_alloc | apply pw_below_drewN | apply below_drew1) | exact HB.out)) hb); clear HB; have HB := n0_; clear n0_; (try clear hb); (try clear hb2); (try clear hk); (try clear hi); (try simp only [errW_none, errW_some])) | ((with_reducible refine gate_callee (f := 10) rfl ?_); refine goesL_ (some 34) rfl rfl Try.func10 (by kernel_rfl) rfl #[.int .i64 a0, .int .i64 a1, .int .i64 a2, .int .i64 a3] rfl (by (try simp only [List.map_toArray, List.map_cons, List.map_nil]); first | done | rfl | (simp only [List.length_drop, List.length_take]; rfl)) ?_; (with_reducible refine (trivetref18_Strip_s.calls a0 a1 a2 a3 t150 t151 t152 true _ A7.out).mono ?_); rintro e w' ⟨rfl, ⟨nd, rfl⟩⟩; refine ⟨_, rfl, ?_⟩))
            go_ret
            exact ⟨by first | rfl | (simp [errW_none, errW_some] <;> rfl) | (simp [*, errW_none, errW_some] <;> rfl), by repeat (first | (with_reducible first | exact HB.out | apply below_alloc | apply pw_below_drewN | apply below_drew1) | exact HB.out)⟩
          · rw [if_neg c11] at H
            have c11b0 : (t147 == t151) = false := beq_eq_false_iff_ne.mpr c11
            have c11b1 : (t147 != t151) = true := bne_iff_ne.mpr c11
            obtain rfl := Option.some.inj H
            go_enter Try.func3, Try.ntmps3
            go_wp2_with (first | ((with_reducible refine gate_callee (f := 8) rfl ?_); refine goesL_ (some 18) rfl rfl Try.func8 (by kernel_rfl) rfl #[] rfl (by (try simp only [List.map_toArray, List.map_cons, List.map_nil]); first | done | rfl | (simp only [List.length_drop, List.length_take]; rfl)) ?_; (with_reducible refine (trivetlaw18_up_s.calls  true _ A5.out).mono ?_); rintro e w14 ⟨rfl, hb⟩; refine ⟨_, rfl, ?_⟩; have n0_ := Aside0.mk (below_step (by repeat (first | (with_reducible first | exact HB.out | apply below_alloc | apply pw_below_drewN | apply below_drew1) | exact HB.out)) hb); clear HB; have HB := n0_; clear n0_; (try clear hb); (try clear hb2); (try clear hk); (try clear hi)) | ((with_reducible refine gate_callee (f := 9) rfl ?_); refine goesL_ (some 24) rfl rfl Try.func9 (by kernel_rfl) rfl #[.int .i64 a0, .int .i64 a1, .int .i64 a2, .int .i64 a3] rfl (by (try simp only [List.map_toArray, List.map_cons, List.map_nil]); first | done | rfl | (simp only [List.length_drop, List.length_take]; rfl)) ?_; (with_reducible refine (pool_Strip_s.calls a0 a1 a2 a3 t146 t147 t148 none _ A6.out).mono ?_); rintro e w15 ⟨rfl, hb⟩; refine ⟨_, rfl, ?_⟩; have n0_ := Aside0.mk (below_step (by repeat (first | (with_reducible first | exact HB.out | apply below_alloc | apply pw_below_drewN | apply below_drew1) | exact HB.out)) hb); clear HB; have HB := n0_; clear n0_; (try clear hb); (try clear hb2); (try clear hk); (try clear hi); (try simp only [errW_none, errW_some])) | ((with_reducible refine gate_callee (f := 10) rfl ?_); refine goesL_ (some 34) rfl rfl Try.func10 (by kernel_rfl) rfl #[.int .i64 a0, .int .i64 a1, .int .i64 a2, .int .i64 a3] rfl (by (try simp only [List.map_toArray, List.map_cons, List.map_nil]); first | done | rfl | (simp only [List.length_drop, List.length_take]; rfl)) ?_; (with_reducible refine (trivetref18_Strip_s.calls a0 a1 a2 a3 t150 t151 t152 true _ A7.out).mono ?_); rintro e w' ⟨rfl, ⟨nd, rfl⟩⟩; refine ⟨_, rfl, ?_⟩))
            go_ret
            exact ⟨by first | rfl | (simp [errW_none, errW_some] <;> rfl) | (simp [*, errW_none, errW_some] <;> rfl), by repeat (first | (with_reducible first | exact HB.out | apply below_alloc | apply pw_below_drewN | apply below_drew1) | exact HB.out)⟩
        · rw [if_neg c10] at H
          have c10b0 : (t146 == t150) = false := beq_eq_false_iff_ne.mpr c10
          have c10b1 : (t146 != t150) = true := bne_iff_ne.mpr c10
          obtain rfl := Option.some.inj H
          go_enter Try.func3, Try.ntmps3
          go_wp2_with (first | ((with_reducible refine gate_callee (f := 8) rfl ?_); refine goesL_ (some 18) rfl rfl Try.func8 (by kernel_rfl) rfl #[] rfl (by (try simp only [List.map_toArray, List.map_cons, List.map_nil]); first | done | rfl | (simp only [List.length_drop, List.length_take]; rfl)) ?_; (with_reducible refine (trivetlaw18_up_s.calls  true _ A5.out).mono ?_); rintro e w16 ⟨rfl, hb⟩; refine ⟨_, rfl, ?_⟩; have n0_ := Aside0.mk (below_step (by repeat (first | (with_reducible first | exact HB.out | apply below_alloc | apply pw_below_drewN | apply below_drew1) | exact HB.out)) hb); clear HB; have HB := n0_; clear n0_; (try clear hb); (try clear hb2); (try clear hk); (try clear hi)) | ((with_reducible refine gate_callee (f := 9) rfl ?_); refine goesL_ (some 24) rfl rfl Try.func9 (by kernel_rfl) rfl #[.int .i64 a0, .int .i64 a1, .int .i64 a2, .int .i64 a3] rfl (by (try simp only [List.map_toArray, List.map_cons, List.map_nil]); first | done | rfl | (simp only [List.length_drop, List.length_take]; rfl)) ?_; (with_reducible refine (pool_Strip_s.calls a0 a1 a2 a3 t146 t147 t148 none _ A6.out).mono ?_); rintro e w17 ⟨rfl, hb⟩; refine ⟨_, rfl, ?_⟩; have n0_ := Aside0.mk (below_step (by repeat (first | (with_reducible first | exact HB.out | apply below_alloc | apply pw_below_drewN | apply below_drew1) | exact HB.out)) hb); clear HB; have HB := n0_; clear n0_; (try clear hb); (try clear hb2); (try clear hk); (try clear hi); (try simp only [errW_none, errW_some])) | ((with_reducible refine gate_callee (f := 10) rfl ?_); refine goesL_ (some 34) rfl rfl Try.func10 (by kernel_rfl) rfl #[.int .i64 a0, .int .i64 a1, .int .i64 a2, .int .i64 a3] rfl (by (try simp only [List.map_toArray, List.map_cons, List.map_nil]); first | done | rfl | (simp only [List.length_drop, List.length_take]; rfl)) ?_; (with_reducible refine (trivetref18_Strip_s.calls a0 a1 a2 a3 t150 t151 t152 true _ A7.out).mono ?_); rintro e w' ⟨rfl, ⟨nd, rfl⟩⟩; refine ⟨_, rfl, ?_⟩))
          go_ret
          exact ⟨by first | rfl | (simp [errW_none, errW_some] <;> rfl) | (simp [*, errW_none, errW_some] <;> rfl), by repeat (first | (with_reducible first | exact HB.out | apply below_alloc | apply pw_below_drewN | apply below_drew1) | exact HB.out)⟩
      · have H1 : (some false) = some r := by rw [if_neg (show ¬ (some q154).isNone = true by simp)] at H; exact H
        clear H
        have H := H1
        clear H1
        try simp only [errW_none, errW_some]
        obtain rfl := Option.some.inj H
        go_enter Try.func3, Try.ntmps3
        go_wp2_with (first | ((with_reducible refine gate_callee (f := 8) rfl ?_); refine goesL_ (some 18) rfl rfl Try.func8 (by kernel_rfl) rfl #[] rfl (by (try simp only [List.map_toArray, List.map_cons, List.map_nil]); first | done | rfl | (simp only [List.length_drop, List.length_take]; rfl)) ?_; (with_reducible refine (trivetlaw18_up_s.calls  true _ A5.out).mono ?_); rintro e w18 ⟨rfl, hb⟩; refine ⟨_, rfl, ?_⟩; have n0_ := Aside0.mk (below_step (by repeat (first | (with_reducible first | exact HB.out | apply below_alloc | apply pw_below_drewN | apply below_drew1) | exact HB.out)) hb); clear HB; have HB := n0_; clear n0_; (try clear hb); (try clear hb2); (try clear hk); (try clear hi)) | ((with_reducible refine gate_callee (f := 9) rfl ?_); refine goesL_ (some 24) rfl rfl Try.func9 (by kernel_rfl) rfl #[.int .i64 a0, .int .i64 a1, .int .i64 a2, .int .i64 a3] rfl (by (try simp only [List.map_toArray, List.map_cons, List.map_nil]); first | done | rfl | (simp only [List.length_drop, List.length_take]; rfl)) ?_; (with_reducible refine (pool_Strip_s.calls a0 a1 a2 a3 t146 t147 t148 (some q154) _ A6.out).mono ?_); rintro e w19 ⟨rfl, hb⟩; refine ⟨_, rfl, ?_⟩; have n0_ := Aside0.mk (below_step (by repeat (first | (with_reducible first | exact HB.out | apply below_alloc | apply pw_below_drewN | apply below_drew1) | exact HB.out)) hb); clear HB; have HB := n0_; clear n0_; (try clear hb); (try clear hb2); (try clear hk); (try clear hi); (try simp only [errW_none, errW_some])) | ((with_reducible refine gate_callee (f := 10) rfl ?_); refine goesL_ (some 34) rfl rfl Try.func10 (by kernel_rfl) rfl #[.int .i64 a0, .int .i64 a1, .int .i64 a2, .int .i64 a3] rfl (by (try simp only [List.map_toArray, List.map_cons, List.map_nil]); first | done | rfl | (simp only [List.length_drop, List.length_take]; rfl)) ?_; (with_reducible refine (trivetref18_Strip_s.calls a0 a1 a2 a3 t150 t151 t152 true _ A7.out).mono ?_); rintro e w' ⟨rfl, ⟨nd, rfl⟩⟩; refine ⟨_, rfl, ?_⟩))
        go_ret
        exact ⟨by first | rfl | (simp [errW_none, errW_some] <;> rfl) | (simp [*, errW_none, errW_some] <;> rfl), by repeat (first | (with_reducible first | exact HB.out | apply below_alloc | apply pw_below_drewN | apply below_drew1) | exact HB.out)⟩
    · replace c9 := Bool.eq_false_iff.mpr c9
      subst c9
      have H1 : (some false) = some r := by rw [if_neg (show ¬ (false = true) by decide)] at H; exact H
      clear H
      have H := H1
      clear H1
      obtain rfl := Option.some.inj H
      go_enter Try.func3, Try.ntmps3
      go_wp2_with (first | ((with_reducible refine gate_callee (f := 8) rfl ?_); refine goesL_ (some 18) rfl rfl Try.func8 (by kernel_rfl) rfl #[] rfl (by (try simp only [List.map_toArray, List.map_cons, List.map_nil]); first | done | rfl | (simp only [List.length_drop, List.length_take]; rfl)) ?_; (with_reducible refine (trivetlaw18_up_s.calls  false _ A5.out).mono ?_); rintro e w20 ⟨rfl, hb⟩; refine ⟨_, rfl, ?_⟩; have n0_ := Aside0.mk (below_step (by repeat (first | (with_reducible first | exact HB.out | apply below_alloc | apply pw_below_drewN | apply below_drew1) | exact HB.out)) hb); clear HB; have HB := n0_; clear n0_; (try clear hb); (try clear hb2); (try clear hk); (try clear hi)) | ((with_reducible refine gate_callee (f := 9) rfl ?_); refine goesL_ (some 24) rfl rfl Try.func9 (by kernel_rfl) rfl #[.int .i64 a0, .int .i64 a1, .int .i64 a2, .int .i64 a3] rfl (by (try simp only [List.map_toArray, List.map_cons, List.map_nil]); first | done | rfl | (simp only [List.length_drop, List.length_take]; rfl)) ?_; (with_reducible refine (pool_Strip_s.calls a0 a1 a2 a3 t146 t147 t148 t149 _ A6.out).mono ?_); rintro e w21 ⟨rfl, hb⟩; refine ⟨_, rfl, ?_⟩; have n0_ := Aside0.mk (below_step (by repeat (first | (with_reducible first | exact HB.out | apply below_alloc | apply pw_below_drewN | apply below_drew1) | exact HB.out)) hb); clear HB; have HB := n0_; clear n0_; (try clear hb); (try clear hb2); (try clear hk); (try clear hi); (try simp only [errW_none, errW_some])) | ((with_reducible refine gate_callee (f := 10) rfl ?_); refine goesL_ (some 34) rfl rfl Try.func10 (by kernel_rfl) rfl #[.int .i64 a0, .int .i64 a1, .int .i64 a2, .int .i64 a3] rfl (by (try simp only [List.map_toArray, List.map_cons, List.map_nil]); first | done | rfl | (simp only [List.length_drop, List.length_take]; rfl)) ?_; (with_reducible refine (trivetref18_Strip_s.calls a0 a1 a2 a3 t150 t151 t152 true _ A7.out).mono ?_); rintro e w' ⟨rfl, ⟨nd, rfl⟩⟩; refine ⟨_, rfl, ?_⟩))
      go_ret
      exact ⟨by first | rfl | (simp [errW_none, errW_some] <;> rfl) | (simp [*, errW_none, errW_some] <;> rfl), by repeat (first | (with_reducible first | exact HB.out | apply below_alloc | apply pw_below_drewN | apply below_drew1) | exact HB.out)⟩
  · replace c8 := Bool.eq_false_iff.mpr c8
    subst c8
    have H1 : (if t145 = true then (if t149.isNone = true then (some false) else (if (t149.getD 0) = 1 then (if t146 = 0 then (if t147 = 0 then (some (t148 == 0)) else (some false)) else (some false)) else (some false))) else (some false)) = some r := by rw [if_neg (show ¬ (false = true) by decide)] at H; exact H
    clear H
    have H := H1
    clear H1
    by_cases c22 : t145 = true
    · subst c22
      have H1 : (if t149.isNone = true then (some false) else (if (t149.getD 0) = 1 then (if t146 = 0 then (if t147 = 0 then (some (t148 == 0)) else (some false)) else (some false)) else (some false))) = some r := by rw [if_pos rfl] at H; exact H
      clear H
      have H := H1
      clear H1
      rcases t149 with _ | q155
      · have H1 : (some false) = some r := by rw [if_pos (show (none : Option Int).isNone = true by rfl)] at H; exact H
        clear H
        have H := H1
        clear H1
        try simp only [errW_none, errW_some]
        obtain rfl := Option.some.inj H
        go_enter Try.func3, Try.ntmps3
        go_wp2_with (first | ((with_reducible refine gate_callee (f := 8) rfl ?_); refine goesL_ (some 18) rfl rfl Try.func8 (by kernel_rfl) rfl #[] rfl (by (try simp only [List.map_toArray, List.map_cons, List.map_nil]); first | done | rfl | (simp only [List.length_drop, List.length_take]; rfl)) ?_; (with_reducible refine (trivetlaw18_up_s.calls  true _ A5.out).mono ?_); rintro e w23 ⟨rfl, hb⟩; refine ⟨_, rfl, ?_⟩; have n0_ := Aside0.mk (below_step (by repeat (first | (with_reducible first | exact HB.out | apply below_alloc | apply pw_below_drewN | apply below_drew1) | exact HB.out)) hb); clear HB; have HB := n0_; clear n0_; (try clear hb); (try clear hb2); (try clear hk); (try clear hi)) | ((with_reducible refine gate_callee (f := 9) rfl ?_); refine goesL_ (some 24) rfl rfl Try.func9 (by kernel_rfl) rfl #[.int .i64 a0, .int .i64 a1, .int .i64 a2, .int .i64 a3] rfl (by (try simp only [List.map_toArray, List.map_cons, List.map_nil]); first | done | rfl | (simp only [List.length_drop, List.length_take]; rfl)) ?_; (with_reducible refine (pool_Strip_s.calls a0 a1 a2 a3 t146 t147 t148 none _ A6.out).mono ?_); rintro e w24 ⟨rfl, hb⟩; refine ⟨_, rfl, ?_⟩; have n0_ := Aside0.mk (below_step (by repeat (first | (with_reducible first | exact HB.out | apply below_alloc | apply pw_below_drewN | apply below_drew1) | exact HB.out)) hb); clear HB; have HB := n0_; clear n0_; (try clear hb); (try clear hb2); (try clear hk); (try clear hi); (try simp only [errW_none, errW_some])) | ((with_reducible refine gate_callee (f := 10) rfl ?_); refine goesL_ (some 34) rfl rfl Try.func10 (by kernel_rfl) rfl #[.int .i64 a0, .int .i64 a1, .int .i64 a2, .int .i64 a3] rfl (by (try simp only [List.map_toArray, List.map_cons, List.map_nil]); first | done | rfl | (simp only [List.length_drop, List.length_take]; rfl)) ?_; (with_reducible refine (trivetref18_Strip_s.calls a0 a1 a2 a3 t150 t151 t152 false _ A7.out).mono ?_); rintro e w' ⟨rfl, ⟨nd, rfl⟩⟩; refine ⟨_, rfl, ?_⟩))
        go_ret
        exact ⟨by first | rfl | (simp [errW_none, errW_some] <;> rfl) | (simp [*, errW_none, errW_some] <;> rfl), by repeat (first | (with_reducible first | exact HB.out | apply below_alloc | apply pw_below_drewN | apply below_drew1) | exact HB.out)⟩
      · have H1 : (if q155 = 1 then (if t146 = 0 then (if t147 = 0 then (some (t148 == 0)) else (some false)) else (some false)) else (some false)) = some r := by rw [if_neg (show ¬ (some q155).isNone = true by simp)] at H; exact H
        clear H
        have H := H1
        clear H1
        try simp only [errW_none, errW_some]
        by_cases c25 : q155 = 1
        · rw [if_pos c25] at H
          have c25b0 : (q155 == 1) = true := beq_iff_eq.mpr c25
          have c25b1 : (q155 != 1) = false := bne_eq_false_iff_eq.mpr c25
          clear c25
          by_cases c26 : t146 = 0
          · rw [if_pos c26] at H
            have c26b0 : (t146 == 0) = true := beq_iff_eq.mpr c26
            have c26b1 : (t146 != 0) = false := bne_eq_false_iff_eq.mpr c26
            clear c26
            by_cases c27 : t147 = 0
            · rw [if_pos c27] at H
              have c27b0 : (t147 == 0) = true := beq_iff_eq.mpr c27
              have c27b1 : (t147 != 0) = false := bne_eq_false_iff_eq.mpr c27
              clear c27
              obtain rfl := Option.some.inj H
              go_enter Try.func3, Try.ntmps3
              go_wp2_with (first | ((with_reducible refine gate_callee (f := 8) rfl ?_); refine goesL_ (some 18) rfl rfl Try.func8 (by kernel_rfl) rfl #[] rfl (by (try simp only [List.map_toArray, List.map_cons, List.map_nil]); first | done | rfl | (simp only [List.length_drop, List.length_take]; rfl)) ?_; (with_reducible refine (trivetlaw18_up_s.calls  true _ A5.out).mono ?_); rintro e w28 ⟨rfl, hb⟩; refine ⟨_, rfl, ?_⟩; have n0_ := Aside0.mk (below_step (by repeat (first | (with_reducible first | exact HB.out | apply below_alloc | apply pw_below_drewN | apply below_drew1) | exact HB.out)) hb); clear HB; have HB := n0_; clear n0_; (try clear hb); (try clear hb2); (try clear hk); (try clear hi)) | ((with_reducible refine gate_callee (f := 9) rfl ?_); refine goesL_ (some 24) rfl rfl Try.func9 (by kernel_rfl) rfl #[.int .i64 a0, .int .i64 a1, .int .i64 a2, .int .i64 a3] rfl (by (try simp only [List.map_toArray, List.map_cons, List.map_nil]); first | done | rfl | (simp only [List.length_drop, List.length_take]; rfl)) ?_; (with_reducible refine (pool_Strip_s.calls a0 a1 a2 a3 t146 t147 t148 (some q155) _ A6.out).mono ?_); rintro e w29 ⟨rfl, hb⟩; refine ⟨_, rfl, ?_⟩; have n0_ := Aside0.mk (below_step (by repeat (first | (with_reducible first | exact HB.out | apply below_alloc | apply pw_below_drewN | apply below_drew1) | exact HB.out)) hb); clear HB; have HB := n0_; clear n0_; (try clear hb); (try clear hb2); (try clear hk); (try clear hi); (try simp only [errW_none, errW_some])) | ((with_reducible refine gate_callee (f := 10) rfl ?_); refine goesL_ (some 34) rfl rfl Try.func10 (by kernel_rfl) rfl #[.int .i64 a0, .int .i64 a1, .int .i64 a2, .int .i64 a3] rfl (by (try simp only [List.map_toArray, List.map_cons, List.map_nil]); first | done | rfl | (simp only [List.length_drop, List.length_take]; rfl)) ?_; (with_reducible refine (trivetref18_Strip_s.calls a0 a1 a2 a3 t150 t151 t152 false _ A7.out).mono ?_); rintro e w' ⟨rfl, ⟨nd, rfl⟩⟩; refine ⟨_, rfl, ?_⟩))
              go_ret
              exact ⟨by first | rfl | (simp [errW_none, errW_some] <;> rfl) | (simp [*, errW_none, errW_some] <;> rfl), by repeat (first | (with_reducible first | exact HB.out | apply below_alloc | apply pw_below_drewN | apply below_drew1) | exact HB.out)⟩
            · rw [if_neg c27] at H
              have c27b0 : (t147 == 0) = false := beq_eq_false_iff_ne.mpr c27
              have c27b1 : (t147 != 0) = true := bne_iff_ne.mpr c27
              obtain rfl := Option.some.inj H
              go_enter Try.func3, Try.ntmps3
              go_wp2_with (first | ((with_reducible refine gate_callee (f := 8) rfl ?_); refine goesL_ (some 18) rfl rfl Try.func8 (by kernel_rfl) rfl #[] rfl (by (try simp only [List.map_toArray, List.map_cons, List.map_nil]); first | done | rfl | (simp only [List.length_drop, List.length_take]; rfl)) ?_; (with_reducible refine (trivetlaw18_up_s.calls  true _ A5.out).mono ?_); rintro e w30 ⟨rfl, hb⟩; refine ⟨_, rfl, ?_⟩; have n0_ := Aside0.mk (below_step (by repeat (first | (with_reducible first | exact HB.out | apply below_alloc | apply pw_below_drewN | apply below_drew1) | exact HB.out)) hb); clear HB; have HB := n0_; clear n0_; (try clear hb); (try clear hb2); (try clear hk); (try clear hi)) | ((with_reducible refine gate_callee (f := 9) rfl ?_); refine goesL_ (some 24) rfl rfl Try.func9 (by kernel_rfl) rfl #[.int .i64 a0, .int .i64 a1, .int .i64 a2, .int .i64 a3] rfl (by (try simp only [List.map_toArray, List.map_cons, List.map_nil]); first | done | rfl | (simp only [List.length_drop, List.length_take]; rfl)) ?_; (with_reducible refine (pool_Strip_s.calls a0 a1 a2 a3 t146 t147 t148 (some q155) _ A6.out).mono ?_); rintro e w31 ⟨rfl, hb⟩; refine ⟨_, rfl, ?_⟩; have n0_ := Aside0.mk (below_step (by repeat (first | (with_reducible first | exact HB.out | apply below_alloc | apply pw_below_drewN | apply below_drew1) | exact HB.out)) hb); clear HB; have HB := n0_; clear n0_; (try clear hb); (try clear hb2); (try clear hk); (try clear hi); (try simp only [errW_none, errW_some])) | ((with_reducible refine gate_callee (f := 10) rfl ?_); refine goesL_ (some 34) rfl rfl Try.func10 (by kernel_rfl) rfl #[.int .i64 a0, .int .i64 a1, .int .i64 a2, .int .i64 a3] rfl (by (try simp only [List.map_toArray, List.map_cons, List.map_nil]); first | done | rfl | (simp only [List.length_drop, List.length_take]; rfl)) ?_; (with_reducible refine (trivetref18_Strip_s.calls a0 a1 a2 a3 t150 t151 t152 false _ A7.out).mono ?_); rintro e w' ⟨rfl, ⟨nd, rfl⟩⟩; refine ⟨_, rfl, ?_⟩))
              go_ret
              exact ⟨by first | rfl | (simp [errW_none, errW_some] <;> rfl) | (simp [*, errW_none, errW_some] <;> rfl), by repeat (first | (with_reducible first | exact HB.out | apply below_alloc | apply pw_below_drewN | apply below_drew1) | exact HB.out)⟩
          · rw [if_neg c26] at H
            have c26b0 : (t146 == 0) = false := beq_eq_false_iff_ne.mpr c26
            have c26b1 : (t146 != 0) = true := bne_iff_ne.mpr c26
            obtain rfl := Option.some.inj H
            go_enter Try.func3, Try.ntmps3
            go_wp2_with (first | ((with_reducible refine gate_callee (f := 8) rfl ?_); refine goesL_ (some 18) rfl rfl Try.func8 (by kernel_rfl) rfl #[] rfl (by (try simp only [List.map_toArray, List.map_cons, List.map_nil]); first | done | rfl | (simp only [List.length_drop, List.length_take]; rfl)) ?_; (with_reducible refine (trivetlaw18_up_s.calls  true _ A5.out).mono ?_); rintro e w32 ⟨rfl, hb⟩; refine ⟨_, rfl, ?_⟩; have n0_ := Aside0.mk (below_step (by repeat (first | (with_reducible first | exact HB.out | apply below_alloc | apply pw_below_drewN | apply below_drew1) | exact HB.out)) hb); clear HB; have HB := n0_; clear n0_; (try clear hb); (try clear hb2); (try clear hk); (try clear hi)) | ((with_reducible refine gate_callee (f := 9) rfl ?_); refine goesL_ (some 24) rfl rfl Try.func9 (by kernel_rfl) rfl #[.int .i64 a0, .int .i64 a1, .int .i64 a2, .int .i64 a3] rfl (by (try simp only [List.map_toArray, List.map_cons, List.map_nil]); first | done | rfl | (simp only [List.length_drop, List.length_take]; rfl)) ?_; (with_reducible refine (pool_Strip_s.calls a0 a1 a2 a3 t146 t147 t148 (some q155) _ A6.out).mono ?_); rintro e w33 ⟨rfl, hb⟩; refine ⟨_, rfl, ?_⟩; have n0_ := Aside0.mk (below_step (by repeat (first | (with_reducible first | exact HB.out | apply below_alloc | apply pw_below_drewN | apply below_drew1) | exact HB.out)) hb); clear HB; have HB := n0_; clear n0_; (try clear hb); (try clear hb2); (try clear hk); (try clear hi); (try simp only [errW_none, errW_some])) | ((with_reducible refine gate_callee (f := 10) rfl ?_); refine goesL_ (some 34) rfl rfl Try.func10 (by kernel_rfl) rfl #[.int .i64 a0, .int .i64 a1, .int .i64 a2, .int .i64 a3] rfl (by (try simp only [List.map_toArray, List.map_cons, List.map_nil]); first | done | rfl | (simp only [List.length_drop, List.length_take]; rfl)) ?_; (with_reducible refine (trivetref18_Strip_s.calls a0 a1 a2 a3 t150 t151 t152 false _ A7.out).mono ?_); rintro e w' ⟨rfl, ⟨nd, rfl⟩⟩; refine ⟨_, rfl, ?_⟩))
            go_ret
            exact ⟨by first | rfl | (simp [errW_none, errW_some] <;> rfl) | (simp [*, errW_none, errW_some] <;> rfl), by repeat (first | (with_reducible first | exact HB.out | apply below_alloc | apply pw_below_drewN | apply below_drew1) | exact HB.out)⟩
        · rw [if_neg c25] at H
          have c25b0 : (q155 == 1) = false := beq_eq_false_iff_ne.mpr c25
          have c25b1 : (q155 != 1) = true := bne_iff_ne.mpr c25
          obtain rfl := Option.some.inj H
          go_enter Try.func3, Try.ntmps3
          go_wp2_with (first | ((with_reducible refine gate_callee (f := 8) rfl ?_); refine goesL_ (some 18) rfl rfl Try.func8 (by kernel_rfl) rfl #[] rfl (by (try simp only [List.map_toArray, List.map_cons, List.map_nil]); first | done | rfl | (simp only [List.length_drop, List.length_take]; rfl)) ?_; (with_reducible refine (trivetlaw18_up_s.calls  true _ A5.out).mono ?_); rintro e w34 ⟨rfl, hb⟩; refine ⟨_, rfl, ?_⟩; have n0_ := Aside0.mk (below_step (by repeat (first | (with_reducible first | exact HB.out | apply below_alloc | apply pw_below_drewN | apply below_drew1) | exact HB.out)) hb); clear HB; have HB := n0_; clear n0_; (try clear hb); (try clear hb2); (try clear hk); (try clear hi)) | ((with_reducible refine gate_callee (f := 9) rfl ?_); refine goesL_ (some 24) rfl rfl Try.func9 (by kernel_rfl) rfl #[.int .i64 a0, .int .i64 a1, .int .i64 a2, .int .i64 a3] rfl (by (try simp only [List.map_toArray, List.map_cons, List.map_nil]); first | done | rfl | (simp only [List.length_drop, List.length_take]; rfl)) ?_; (with_reducible refine (pool_Strip_s.calls a0 a1 a2 a3 t146 t147 t148 (some q155) _ A6.out).mono ?_); rintro e w35 ⟨rfl, hb⟩; refine ⟨_, rfl, ?_⟩; have n0_ := Aside0.mk (below_step (by repeat (first | (with_reducible first | exact HB.out | apply below_alloc | apply pw_below_drewN | apply below_drew1) | exact HB.out)) hb); clear HB; have HB := n0_; clear n0_; (try clear hb); (try clear hb2); (try clear hk); (try clear hi); (try simp only [errW_none, errW_some])) | ((with_reducible refine gate_callee (f := 10) rfl ?_); refine goesL_ (some 34) rfl rfl Try.func10 (by kernel_rfl) rfl #[.int .i64 a0, .int .i64 a1, .int .i64 a2, .int .i64 a3] rfl (by (try simp only [List.map_toArray, List.map_cons, List.map_nil]); first | done | rfl | (simp only [List.length_drop, List.length_take]; rfl)) ?_; (with_reducible refine (trivetref18_Strip_s.calls a0 a1 a2 a3 t150 t151 t152 false _ A7.out).mono ?_); rintro e w' ⟨rfl, ⟨nd, rfl⟩⟩; refine ⟨_, rfl, ?_⟩))
          go_ret
          exact ⟨by first | rfl | (simp [errW_none, errW_some] <;> rfl) | (simp [*, errW_none, errW_some] <;> rfl), by repeat (first | (with_reducible first | exact HB.out | apply below_alloc | apply pw_below_drewN | apply below_drew1) | exact HB.out)⟩
    · replace c22 := Bool.eq_false_iff.mpr c22
      subst c22
      have H1 : (some false) = some r := by rw [if_neg (show ¬ (false = true) by decide)] at H; exact H
      clear H
      have H := H1
      clear H1
      obtain rfl := Option.some.inj H
      go_enter Try.func3, Try.ntmps3
      go_wp2_with (first | ((with_reducible refine gate_callee (f := 8) rfl ?_); refine goesL_ (some 18) rfl rfl Try.func8 (by kernel_rfl) rfl #[] rfl (by (try simp only [List.map_toArray, List.map_cons, List.map_nil]); first | done | rfl | (simp only [List.length_drop, List.length_take]; rfl)) ?_; (with_reducible refine (trivetlaw18_up_s.calls  false _ A5.out).mono ?_); rintro e w36 ⟨rfl, hb⟩; refine ⟨_, rfl, ?_⟩; have n0_ := Aside0.mk (below_step (by repeat (first | (with_reducible first | exact HB.out | apply below_alloc | apply pw_below_drewN | apply below_drew1) | exact HB.out)) hb); clear HB; have HB := n0_; clear n0_; (try clear hb); (try clear hb2); (try clear hk); (try clear hi)) | ((with_reducible refine gate_callee (f := 9) rfl ?_); refine goesL_ (some 24) rfl rfl Try.func9 (by kernel_rfl) rfl #[.int .i64 a0, .int .i64 a1, .int .i64 a2, .int .i64 a3] rfl (by (try simp only [List.map_toArray, List.map_cons, List.map_nil]); first | done | rfl | (simp only [List.length_drop, List.length_take]; rfl)) ?_; (with_reducible refine (pool_Strip_s.calls a0 a1 a2 a3 t146 t147 t148 t149 _ A6.out).mono ?_); rintro e w37 ⟨rfl, hb⟩; refine ⟨_, rfl, ?_⟩; have n0_ := Aside0.mk (below_step (by repeat (first | (with_reducible first | exact HB.out | apply below_alloc | apply pw_below_drewN | apply below_drew1) | exact HB.out)) hb); clear HB; have HB := n0_; clear n0_; (try clear hb); (try clear hb2); (try clear hk); (try clear hi); (try simp only [errW_none, errW_some])) | ((with_reducible refine gate_callee (f := 10) rfl ?_); refine goesL_ (some 34) rfl rfl Try.func10 (by kernel_rfl) rfl #[.int .i64 a0, .int .i64 a1, .int .i64 a2, .int .i64 a3] rfl (by (try simp only [List.map_toArray, List.map_cons, List.map_nil]); first | done | rfl | (simp only [List.length_drop, List.length_take]; rfl)) ?_; (with_reducible refine (trivetref18_Strip_s.calls a0 a1 a2 a3 t150 t151 t152 false _ A7.out).mono ?_); rintro e w' ⟨rfl, ⟨nd, rfl⟩⟩; refine ⟨_, rfl, ?_⟩))
      go_ret
      exact ⟨by first | rfl | (simp [errW_none, errW_some] <;> rfl) | (simp [*, errW_none, errW_some] <;> rfl), by repeat (first | (with_reducible first | exact HB.out | apply below_alloc | apply pw_below_drewN | apply below_drew1) | exact HB.out)⟩

/-- THE ONE PURE STATEMENT of trivetlaw18_PoolStrips: yours. -/
def trivetlaw18_PoolStrips.Pure : Prop := ∀ (a0 : Int) (a1 : Int) (a2 : Int) (a3 : Int), (Lit.int .i64 a0).wf = true → (Lit.int .i64 a1).wf = true → (Lit.int .i64 a2).wf = true → (Lit.int .i64 a3).wf = true → trivetlaw18_PoolStrips.f a0 a1 a2 a3 = some true
theorem trivetlaw18_PoolStrips.walk (P : trivetlaw18_PoolStrips.Pure) (a0 : Int) (a1 : Int) (a2 : Int) (a3 : Int) (w : World) (w0 : (Lit.int .i64 a0).wf = true) (w1 : (Lit.int .i64 a1).wf = true) (w2 : (Lit.int .i64 a2).wf = true) (w3 : (Lit.int .i64 a3).wf = true) :
    Calls Try.prog 3 #[.int .i64 a0, .int .i64 a1, .int .i64 a2, .int .i64 a3] w fun e w' => e = .returned (.bool true) ∧ Below w.heap.size w w' := by
  have h := P a0 a1 a2 a3 w0 w1 w2 w3
  refine (trivetlaw18_PoolStrips.calls a0 a1 a2 a3 true w h).mono ?_
  rintro e w' ⟨rfl, hd⟩
  exact ⟨rfl, hd⟩

/-! ### pool_Cut: function 11 -/
mutual
def pool_Cut.l0 : Nat → Int → Int → Int → Int → List Int → Int → Int → Option (Int × Int × Int × Option Int)
  | 0, _, _, _, _, _, _, _ => none
  | k + 1, x0, x1, x2, x3, x21, x22, x23 => if x23 < x22 then (if 0 ≤ x23 then (if x23 < (x21.length : Int) then (if (rd x21 x23) < 0 then (some (0, 0, 0, some 1)) else (if (rd x21 x23) > 10000000000000 then (some (0, 0, 0, some 1)) else (pool_Cut.l0 k x0 x1 x2 x3 x21 x22 (wrap64 (x23 + 1))))) else (none)) else (none)) else (if (wrap64 (x1 + x2)) > x3 then (pool_Cut.j1 k x0 x1 x2 x3 true) else (pool_Cut.j1 k x0 x1 x2 x3 (decide (x0 > x3))))
def pool_Cut.j1 : Nat → Int → Int → Int → Int → Bool → Option (Int × Int × Int × Option Int)
  | 0, _, _, _, _, _ => none
  | k + 1, x0, x1, x2, x3, x44 => if x44 = true then (some (0, 0, 0, some 1)) else (if x3 = 0 then (some (0, 0, 0, none)) else ((cents_MulDiv_s.f x1 x0 x3 1).bind fun bt160 => (if bt160.2.isNone = true then ((cents_MulDiv_s.f x2 x0 x3 1).bind fun bt163 => (if bt163.2.isNone = true then (some (wrap64 ((wrap64 (x0 - bt160.1)) - bt163.1), bt160.1, bt163.1, none)) else (some (0, 0, 0, some (bt163.2.getD 0))))) else (some (0, 0, 0, some (bt160.2.getD 0))))))
end
def pool_Cut.f (k : Nat) (a0 : Int) (a1 : Int) (a2 : Int) (a3 : Int) : Option (Int × Int × Int × Option Int) := (some (([a0, a1, a2, a3] : List Int) : List Int)).bind fun y156 => (pool_Cut.l0 k a0 a1 a2 a3 y156 (y156.length : Int) 0)
theorem pool_Cut.mono_l : ∀ k, (∀ y0 y1 y2 y3 y4 y5 y6, LeO (pool_Cut.l0 k y0 y1 y2 y3 y4 y5 y6) (pool_Cut.l0 (k + 1) y0 y1 y2 y3 y4 y5 y6)) ∧ (∀ y0 y1 y2 y3 y4, LeO (pool_Cut.j1 k y0 y1 y2 y3 y4) (pool_Cut.j1 (k + 1) y0 y1 y2 y3 y4))
  | 0 => ⟨fun _ _ _ _ _ _ _ r h => by simp [pool_Cut.l0] at h, fun _ _ _ _ _ r h => by simp [pool_Cut.j1] at h⟩
  | k + 1 => by
    obtain ⟨ih0, ih1⟩ := pool_Cut.mono_l k
    refine ⟨?_, ?_⟩
    · intro y0 y1 y2 y3 y4 y5 y6
      unfold pool_Cut.l0
      repeat' first
      | (with_reducible exact ih0 _ _ _ _ _ _ _)
      | (with_reducible exact ih1 _ _ _ _ _)
      | (with_reducible exact LeO.refl _)
      | (with_reducible exact LeO.none _)
      | (with_reducible refine LeO.ite ?_ ?_)
      | (with_reducible refine LeO.bind ?_ (fun _ => ?_))
      | exact ih0 _ _ _ _ _ _ _
      | exact ih1 _ _ _ _ _
      | exact LeO.none _
      | refine LeO.ite ?_ ?_
      | refine LeO.bind ?_ (fun _ => ?_)
    · intro y0 y1 y2 y3 y4
      unfold pool_Cut.j1
      repeat' first
      | (with_reducible exact ih0 _ _ _ _ _ _ _)
      | (with_reducible exact ih1 _ _ _ _ _)
      | (with_reducible exact LeO.refl _)
      | (with_reducible exact LeO.none _)
      | (with_reducible refine LeO.ite ?_ ?_)
      | (with_reducible refine LeO.bind ?_ (fun _ => ?_))
      | exact ih0 _ _ _ _ _ _ _
      | exact ih1 _ _ _ _ _
      | exact LeO.none _
      | refine LeO.ite ?_ ?_
      | refine LeO.bind ?_ (fun _ => ?_)
theorem pool_Cut.mono : ∀ a0 a1 a2 a3 k, LeO (pool_Cut.f k a0 a1 a2 a3) (pool_Cut.f (k + 1) a0 a1 a2 a3) := by
  intro a0 a1 a2 a3 k
  obtain ⟨ih0, ih1⟩ := pool_Cut.mono_l k
  unfold pool_Cut.f
  repeat' first
      | (with_reducible exact ih0 _ _ _ _ _ _ _)
      | (with_reducible exact ih1 _ _ _ _ _)
      | (with_reducible exact LeO.refl _)
      | (with_reducible exact LeO.none _)
      | (with_reducible refine LeO.ite ?_ ?_)
      | (with_reducible refine LeO.bind ?_ (fun _ => ?_))
      | exact ih0 _ _ _ _ _ _ _
      | exact ih1 _ _ _ _ _
      | exact LeO.none _
      | refine LeO.ite ?_ ?_
      | refine LeO.bind ?_ (fun _ => ?_)
set_option maxHeartbeats 8000000 in
set_option maxRecDepth 100000 in
theorem pool_Cut.calls (k : Nat) (a0 : Int) (a1 : Int) (a2 : Int) (a3 : Int) (r1 : Int) (r2 : Int) (r3 : Int) (r4 : Option Int) (w : World) (h : pool_Cut.f k a0 a1 a2 a3 = some (r1, r2, r3, r4)) :
    Calls Try.prog 11 #[.int .i64 a0, .int .i64 a1, .int .i64 a2, .int .i64 a3] w fun e w' => e = .returned (.tuple #[.int .i64 r1, .int .i64 r2, .int .i64 r3, errW r4]) ∧ Below w.heap.size w w' := by
  have hu24 := Try.underlying24
  have hu29 := Try.underlying29
  have HB := Aside0.mk (Below.refl w.heap.size w)
  have H : ((some (([a0, a1, a2, a3] : List Int) : List Int)).bind fun y156 => (pool_Cut.l0 k a0 a1 a2 a3 y156 (y156.length : Int) 0)) = some (r1, r2, r3, r4) := h
  clear h
  obtain ⟨y156, hy156⟩ : ∃ y_ : List Int, y_ = (([a0, a1, a2, a3] : List Int)) := ⟨_, rfl⟩
  replace H : (pool_Cut.l0 k a0 a1 a2 a3 y156 (y156.length : Int) 0) = some (r1, r2, r3, r4) := by first | (rw [hy156]; with_reducible exact H) | (have H2_ := (Option.bind_some _ _).symm.trans H; rw [hy156]; with_reducible exact H2_) | (have H2_ := (Option.bind_some _ _).symm.trans H; with_reducible exact H2_) | with_reducible exact H | (rw [hy156]; exact H) | exact H
  have Ny156 := Aside0.mk hy156
  clear hy156
  have H' := Aside0.mk H
  clear H
  go_enter Try.func11, Try.ntmps11
  go_wp2_with (first | ((with_reducible refine gate_dst (N := 21) rfl ?_); refine Kd.R_lit (Kd.int .i64) _ 2 ?hg (N := 21) ?hd (xs := ([a0, a1, a2, a3] : List Int)) (inner := [.int .i64 a0, .int .i64 a1, .int .i64 a2, .int .i64 a3]) (ok := fun _ => True) (okp := fun _ => True) ?hr ?hp (fun _ hk => hk) trivial (Below.refl _ _) (Nat.le_refl _) (by simp) ?_; (case hd => rfl); (case hg => rfl); (case hr => first | (go_simp; done) | (go_simp; rfl)); (case hp => exact (Reps.one (show Kd.M (Kd.int .i64) _ _ _ a0 [.int .i64 a0] from rfl) (Reps.one (show Kd.M (Kd.int .i64) _ _ _ a1 [.int .i64 a1] from rfl) (Reps.one (show Kd.M (Kd.int .i64) _ _ _ a2 [.int .i64 a2] from rfl) (Reps.one (show Kd.M (Kd.int .i64) _ _ _ a3 [.int .i64 a3] from rfl) (Reps.none _ _)))))); intro v157 w5 ho6 hb hg_ hnew_; clear hg_ hnew_; (first | rw [← Ny156.out] at ho6 | (simp only [Int.reduceToNat] at ho6; rw [← Ny156.out] at ho6)); have n0_ := Aside0.mk (Kd.R_lower ho6 (below_size (by repeat (first | (with_reducible first | exact HB.out | apply below_alloc | apply pw_below_drewN | apply below_drew1) | exact HB.out)))); have n1_ := Aside0.mk (below_step (by repeat (first | (with_reducible first | exact HB.out | apply below_alloc | apply pw_below_drewN | apply below_drew1) | exact HB.out)) hb); clear HB; have HO158 := n0_; have HB := n1_; clear n0_ n1_; clear hb ho6; obtain ⟨Ao7, co7, eo7⟩ := Kd.R_slice HO158.out; subst eo7))
  (try simp only [Act.put, List.setIfInBounds_toArray, List.set_cons_zero, List.set_cons_succ])
  go_loopg [23] k (fun kq v23 w' => ∃ (x23_1 : Int), v23 = .int .i64 x23_1 ∧ Aside0 (pool_Cut.l0 kq a0 a1 a2 a3 y156 (y156.length : Int) x23_1 = some (r1, r2, r3, r4)) ∧ Aside0 (kq ≤ k) ∧ Aside0 (Kd.R (Kd.int .i64) 2 w' w.heap.size (fun _ => True) (.slice Ao7 y156.length co7) y156) ∧ Aside0 (Below w.heap.size w w'))
  case atStart => exact ⟨(0), (by first | rfl | (simp; done) | (simp [*]; done)), H', ⟨Nat.le_refl _⟩, ⟨by (with_reducible repeat (first | apply Kd.R_alloc | apply Kd.R_drewN | apply Kd.R_drew)); exact HO158.out⟩, ⟨by repeat (first | (with_reducible first | exact HB.out | apply below_alloc | apply pw_below_drewN | apply below_drew1) | exact HB.out)⟩⟩
  case round =>
    clear H'
    try clear c1
    try clear p2
    obtain ⟨x23_1, rfl, HA, HK1, HO_21, HB⟩ := hrel
    cases gk with
    | zero => exact absurd HA.out (by simp [pool_Cut.l0])
    | succ k1 =>
      have H := HA.out
      clear HA
      simp only [pool_Cut.l0] at H
      by_cases c8 : x23_1 < (y156.length : Int)
      · rw [if_pos c8] at H
        have c8b0 : decide (x23_1 < (y156.length : Int)) = true := decide_eq_true c8
        clear c8
        by_cases c9 : 0 ≤ x23_1
        · rw [if_pos c9] at H
          have c9b0 : decide (0 ≤ x23_1) = true := decide_eq_true c9
          clear c9
          by_cases c10 : x23_1 < (y156.length : Int)
          · rw [if_pos c10] at H
            have c10b0 : decide (x23_1 < (y156.length : Int)) = true := decide_eq_true c10
            clear c10
            by_cases c11 : (rd y156 x23_1) < 0
            · rw [if_pos c11] at H
              have c11b0 : decide ((rd y156 x23_1) < 0) = true := decide_eq_true c11
              clear c11
              simp only [Option.some.injEq, Prod.mk.injEq] at H
              obtain ⟨rfl, rfl, rfl, rfl⟩ := H
              have p159 : 0 ≤ (x23_1 : Int) := of_decide_eq_true (by first | (with_reducible assumption) | assumption)
              have q159 : x23_1 < (y156.length : Int) := of_decide_eq_true (by first | (with_reducible assumption) | assumption)
              obtain ⟨ad159, e159, hx159_0⟩ := Kd.at_int (Kd.R_reads' HO_21.out).2.2 x23_1 p159 q159
              cases e159
              replace p159 := eq_true p159
              replace q159 := eq_true q159
              go_wp2
              refine bodyPost_ret (results_list (rs := [.tmp 8, .tmp 9, .tmp 10, .tmp 11]) rfl (by simp) (.tmp (.tmp (.tmp (.tmp .nil))))) rfl ?_
              exact ⟨by first | rfl | (simp [errW_none, errW_some] <;> rfl) | (simp [*, errW_none, errW_some] <;> rfl), by repeat (first | (with_reducible first | exact HB.out | apply below_alloc | apply pw_below_drewN | apply below_drew1) | exact HB.out)⟩
            · rw [if_neg c11] at H
              have c11b0 : decide ((rd y156 x23_1) < 0) = false := decide_eq_false c11
              clear c11
              by_cases c12 : (rd y156 x23_1) > 10000000000000
              · rw [if_pos c12] at H
                have c12b0 : decide (10000000000000 < (rd y156 x23_1)) = true := decide_eq_true c12
                clear c12
                simp only [Option.some.injEq, Prod.mk.injEq] at H
                obtain ⟨rfl, rfl, rfl, rfl⟩ := H
                have p159 : 0 ≤ (x23_1 : Int) := of_decide_eq_true (by first | (with_reducible assumption) | assumption)
                have q159 : x23_1 < (y156.length : Int) := of_decide_eq_true (by first | (with_reducible assumption) | assumption)
                obtain ⟨ad159, e159, hx159_0⟩ := Kd.at_int (Kd.R_reads' HO_21.out).2.2 x23_1 p159 q159
                cases e159
                replace p159 := eq_true p159
                replace q159 := eq_true q159
                go_wp2
                refine bodyPost_ret (results_list (rs := [.tmp 8, .tmp 9, .tmp 10, .tmp 11]) rfl (by simp) (.tmp (.tmp (.tmp (.tmp .nil))))) rfl ?_
                exact ⟨by first | rfl | (simp [errW_none, errW_some] <;> rfl) | (simp [*, errW_none, errW_some] <;> rfl), by repeat (first | (with_reducible first | exact HB.out | apply below_alloc | apply pw_below_drewN | apply below_drew1) | exact HB.out)⟩
              · rw [if_neg c12] at H
                have c12b0 : decide (10000000000000 < (rd y156 x23_1)) = false := decide_eq_false c12
                clear c12
                have H' := Aside0.mk H
                clear H
                have p159 : 0 ≤ (x23_1 : Int) := of_decide_eq_true (by first | (with_reducible assumption) | assumption)
                have q159 : x23_1 < (y156.length : Int) := of_decide_eq_true (by first | (with_reducible assumption) | assumption)
                obtain ⟨ad159, e159, hx159_0⟩ := Kd.at_int (Kd.R_reads' HO_21.out).2.2 x23_1 p159 q159
                cases e159
                replace p159 := eq_true p159
                replace q159 := eq_true q159
                go_wp2
                go_roundg k1
                case measure => have := HK1.out; omega
                case rel => exact ⟨(wrap64 (x23_1 + 1)), (by first | rfl | (simp; done) | (simp [*]; done)), H', ⟨by have := HK1.out; omega⟩, ⟨by (with_reducible repeat (first | apply Kd.R_alloc | apply Kd.R_drewN | apply Kd.R_drew)); exact HO_21.out⟩, ⟨by repeat (first | (with_reducible first | exact HB.out | apply below_alloc | apply pw_below_drewN | apply below_drew1) | exact HB.out)⟩⟩
          · rw [if_neg c10] at H
            exact absurd H (by simp)
        · rw [if_neg c9] at H
          exact absurd H (by simp)
      · rw [if_neg c8] at H
        have c8b0 : decide (x23_1 < (y156.length : Int)) = false := decide_eq_false c8
        clear c8
        have HC13 := Aside0.mk H
        clear H
        go_upto_region 7 with (fail)
        go_cut [44] (fun v44 wc => ∃ (kq : Nat) (x44_12 : Bool), v44 = .bool x44_12 ∧ Aside0 (pool_Cut.j1 kq a0 a1 a2 a3 x44_12 = some (r1, r2, r3, r4)) ∧ Aside0 (kq ≤ k1) ∧ Aside0 (Below w.heap.size w wc))
        case first =>
          have H := HC13.out
          clear HC13
          by_cases c14 : (wrap64 (a1 + a2)) > a3
          · rw [if_pos c14] at H
            have c14b0 : decide (a3 < (wrap64 (a1 + a2))) = true := decide_eq_true c14
            clear c14
            (first | rw [c14b0] | (simp only [i64_w, i32_w]; rw [c14b0]) | skip)
            have H' := Aside0.mk H
            clear H
            go_wp2
            go_meet
            case rel => exact ⟨_, (true), (by first | rfl | (simp; done) | (simp [*]; done)), H', ⟨by have := HK1.out; first | omega | exact Nat.le_refl _⟩, ⟨by repeat (first | (with_reducible first | exact HB.out | apply below_alloc | apply pw_below_drewN | apply below_drew1) | exact HB.out)⟩⟩
          · rw [if_neg c14] at H
            have c14b0 : decide (a3 < (wrap64 (a1 + a2))) = false := decide_eq_false c14
            clear c14
            (first | rw [c14b0] | (simp only [i64_w, i32_w]; rw [c14b0]) | skip)
            have H' := Aside0.mk H
            clear H
            go_wp2
            go_meet
            case rel => exact ⟨_, (decide (a0 > a3)), (by first | rfl | (simp; done) | (simp [*]; done)), H', ⟨by have := HK1.out; first | omega | exact Nat.le_refl _⟩, ⟨by repeat (first | (with_reducible first | exact HB.out | apply below_alloc | apply pw_below_drewN | apply below_drew1) | exact HB.out)⟩⟩
        case rest =>
          clear HC13
          try clear c1
          try clear p1
          try clear q1
          try clear hx1
          try clear p2
          try clear p6
          try clear c8
          try clear c8b0
          try clear c9
          try clear c9b0
          try clear c10
          try clear c10b0
          try clear c11
          try clear c11b0
          try clear c12
          try clear c12b0
          try clear c14
          try clear c14b0
          try clear hx159_0
          try clear p159
          try clear p2
          try clear q159
          obtain ⟨kq, x44_12, rfl, HA, HJ12, HB⟩ := hcut
          cases kq with
          | zero => exact absurd HA.out (by simp [pool_Cut.j1])
          | succ kj12 =>
            have H := HA.out
            clear HA
            simp only [pool_Cut.j1] at H
            by_cases c15 : x44_12 = true
            · subst c15
              have H1 : (some (0, 0, 0, some 1)) = some (r1, r2, r3, r4) := by rw [if_pos rfl] at H; exact H
              clear H
              have H := H1
              clear H1
              simp only [Option.some.injEq, Prod.mk.injEq] at H
              obtain ⟨rfl, rfl, rfl, rfl⟩ := H
              go_wp2
              refine bodyPost_ret (results_list (rs := [.tmp 8, .tmp 9, .tmp 10, .tmp 11]) rfl (by simp) (.tmp (.tmp (.tmp (.tmp .nil))))) rfl ?_
              exact ⟨by first | rfl | (simp [errW_none, errW_some] <;> rfl) | (simp [*, errW_none, errW_some] <;> rfl), by repeat (first | (with_reducible first | exact HB.out | apply below_alloc | apply pw_below_drewN | apply below_drew1) | exact HB.out)⟩
            · replace c15 := Bool.eq_false_iff.mpr c15
              subst c15
              have H1 : (if a3 = 0 then (some (0, 0, 0, none)) else ((cents_MulDiv_s.f a1 a0 a3 1).bind fun bt160 => (if bt160.2.isNone = true then ((cents_MulDiv_s.f a2 a0 a3 1).bind fun bt163 => (if bt163.2.isNone = true then (some (wrap64 ((wrap64 (a0 - bt160.1)) - bt163.1), bt160.1, bt163.1, none)) else (some (0, 0, 0, some (bt163.2.getD 0))))) else (some (0, 0, 0, some (bt160.2.getD 0)))))) = some (r1, r2, r3, r4) := by rw [if_neg (show ¬ (false = true) by decide)] at H; exact H
              clear H
              have H := H1
              clear H1
              by_cases c16 : a3 = 0
              · rw [if_pos c16] at H
                have c16b0 : (a3 == 0) = true := beq_iff_eq.mpr c16
                have c16b1 : (a3 != 0) = false := bne_eq_false_iff_eq.mpr c16
                clear c16
                simp only [Option.some.injEq, Prod.mk.injEq] at H
                obtain ⟨rfl, rfl, rfl, rfl⟩ := H
                go_wp2
                refine bodyPost_ret (results_list (rs := [.tmp 8, .tmp 9, .tmp 10, .tmp 11]) rfl (by simp) (.tmp (.tmp (.tmp (.tmp .nil))))) rfl ?_
                exact ⟨by first | rfl | (simp [errW_none, errW_some] <;> rfl) | (simp [*, errW_none, errW_some] <;> rfl), by repeat (first | (with_reducible first | exact HB.out | apply below_alloc | apply pw_below_drewN | apply below_drew1) | exact HB.out)⟩
              · rw [if_neg c16] at H
                have c16b0 : (a3 == 0) = false := beq_eq_false_iff_ne.mpr c16
                have c16b1 : (a3 != 0) = true := bne_iff_ne.mpr c16
                replace H := Option.bind_eq_some_iff.mp H
                obtain ⟨⟨t160, t161⟩, A170, H⟩ := H
                replace H : (if t161.isNone = true then ((cents_MulDiv_s.f a2 a0 a3 1).bind fun bt163 => (if bt163.2.isNone = true then (some (wrap64 ((wrap64 (a0 - t160)) - bt163.1), t160, bt163.1, none)) else (some (0, 0, 0, some (bt163.2.getD 0))))) else (some (0, 0, 0, some (t161.getD 0)))) = some (r1, r2, r3, r4) := H
                have A17 := Aside0.mk A170
                clear A170
                rcases t161 with _ | q162
                · have H1 : ((cents_MulDiv_s.f a2 a0 a3 1).bind fun bt163 => (if bt163.2.isNone = true then (some (wrap64 ((wrap64 (a0 - t160)) - bt163.1), t160, bt163.1, none)) else (some (0, 0, 0, some (bt163.2.getD 0))))) = some (r1, r2, r3, r4) := by rw [if_pos (show (none : Option Int).isNone = true by rfl)] at H; exact H
                  clear H
                  have H := H1
                  clear H1
                  try simp only [errW_none, errW_some]
                  replace H := Option.bind_eq_some_iff.mp H
                  obtain ⟨⟨t163, t164⟩, A180, H⟩ := H
                  replace H : (if t164.isNone = true then (some (wrap64 ((wrap64 (a0 - t160)) - t163), t160, t163, none)) else (some (0, 0, 0, some (t164.getD 0)))) = some (r1, r2, r3, r4) := H
                  have A18 := Aside0.mk A180
                  clear A180
                  rcases t164 with _ | q165
                  · have H1 : (some (wrap64 ((wrap64 (a0 - t160)) - t163), t160, t163, none)) = some (r1, r2, r3, r4) := by rw [if_pos (show (none : Option Int).isNone = true by rfl)] at H; exact H
                    clear H
                    have H := H1
                    clear H1
                    try simp only [errW_none, errW_some]
                    simp only [Option.some.injEq, Prod.mk.injEq] at H
                    obtain ⟨rfl, rfl, rfl, rfl⟩ := H
                    go_wp2_with (first | ((with_reducible refine gate_callee (f := 20) rfl ?_); refine goesL_ (some 52) rfl rfl Try.func20 (by kernel_rfl) rfl #[.int .i64 a1, .int .i64 a0, .int .i64 a3, .int .i64 1] rfl (by (try simp only [List.map_toArray, List.map_cons, List.map_nil]); first | done | rfl | (simp only [List.length_drop, List.length_take]; rfl)) ?_; (with_reducible refine (cents_MulDiv_s.calls a1 a0 a3 1 t160 none _ A17.out).mono ?_); rintro e w' ⟨rfl, ⟨nd, rfl⟩⟩; refine ⟨_, rfl, ?_⟩; (try simp only [errW_none, errW_some])) | ((with_reducible refine gate_callee (f := 20) rfl ?_); refine goesL_ (some 62) rfl rfl Try.func20 (by kernel_rfl) rfl #[.int .i64 a2, .int .i64 a0, .int .i64 a3, .int .i64 1] rfl (by (try simp only [List.map_toArray, List.map_cons, List.map_nil]); first | done | rfl | (simp only [List.length_drop, List.length_take]; rfl)) ?_; (with_reducible refine (cents_MulDiv_s.calls a2 a0 a3 1 t163 none _ A18.out).mono ?_); rintro e w' ⟨rfl, ⟨nd, rfl⟩⟩; refine ⟨_, rfl, ?_⟩; (try simp only [errW_none, errW_some])))
                    refine bodyPost_ret (results_list (rs := [.tmp 8, .tmp 9, .tmp 10, .tmp 11]) rfl (by simp) (.tmp (.tmp (.tmp (.tmp .nil))))) rfl ?_
                    exact ⟨by first | rfl | (simp [errW_none, errW_some] <;> rfl) | (simp [*, errW_none, errW_some] <;> rfl), by repeat (first | (with_reducible first | exact HB.out | apply below_alloc | apply pw_below_drewN | apply below_drew1) | exact HB.out)⟩
                  · have H1 : (some (0, 0, 0, some q165)) = some (r1, r2, r3, r4) := by rw [if_neg (show ¬ (some q165).isNone = true by simp)] at H; exact H
                    clear H
                    have H := H1
                    clear H1
                    try simp only [errW_none, errW_some]
                    simp only [Option.some.injEq, Prod.mk.injEq] at H
                    obtain ⟨rfl, rfl, rfl, rfl⟩ := H
                    go_wp2_with (first | ((with_reducible refine gate_callee (f := 20) rfl ?_); refine goesL_ (some 52) rfl rfl Try.func20 (by kernel_rfl) rfl #[.int .i64 a1, .int .i64 a0, .int .i64 a3, .int .i64 1] rfl (by (try simp only [List.map_toArray, List.map_cons, List.map_nil]); first | done | rfl | (simp only [List.length_drop, List.length_take]; rfl)) ?_; (with_reducible refine (cents_MulDiv_s.calls a1 a0 a3 1 t160 none _ A17.out).mono ?_); rintro e w' ⟨rfl, ⟨nd, rfl⟩⟩; refine ⟨_, rfl, ?_⟩; (try simp only [errW_none, errW_some])) | ((with_reducible refine gate_callee (f := 20) rfl ?_); refine goesL_ (some 62) rfl rfl Try.func20 (by kernel_rfl) rfl #[.int .i64 a2, .int .i64 a0, .int .i64 a3, .int .i64 1] rfl (by (try simp only [List.map_toArray, List.map_cons, List.map_nil]); first | done | rfl | (simp only [List.length_drop, List.length_take]; rfl)) ?_; (with_reducible refine (cents_MulDiv_s.calls a2 a0 a3 1 t163 (some q165) _ A18.out).mono ?_); rintro e w' ⟨rfl, ⟨nd, rfl⟩⟩; refine ⟨_, rfl, ?_⟩; (try simp only [errW_none, errW_some])))
                    refine bodyPost_ret (results_list (rs := [.tmp 8, .tmp 9, .tmp 10, .tmp 11]) rfl (by simp) (.tmp (.tmp (.tmp (.tmp .nil))))) rfl ?_
                    exact ⟨by first | rfl | (simp [errW_none, errW_some] <;> rfl) | (simp [*, errW_none, errW_some] <;> rfl), by repeat (first | (with_reducible first | exact HB.out | apply below_alloc | apply pw_below_drewN | apply below_drew1) | exact HB.out)⟩
                · have H1 : (some (0, 0, 0, some q162)) = some (r1, r2, r3, r4) := by rw [if_neg (show ¬ (some q162).isNone = true by simp)] at H; exact H
                  clear H
                  have H := H1
                  clear H1
                  try simp only [errW_none, errW_some]
                  simp only [Option.some.injEq, Prod.mk.injEq] at H
                  obtain ⟨rfl, rfl, rfl, rfl⟩ := H
                  go_wp2_with (first | ((with_reducible refine gate_callee (f := 20) rfl ?_); refine goesL_ (some 52) rfl rfl Try.func20 (by kernel_rfl) rfl #[.int .i64 a1, .int .i64 a0, .int .i64 a3, .int .i64 1] rfl (by (try simp only [List.map_toArray, List.map_cons, List.map_nil]); first | done | rfl | (simp only [List.length_drop, List.length_take]; rfl)) ?_; (with_reducible refine (cents_MulDiv_s.calls a1 a0 a3 1 t160 (some q162) _ A17.out).mono ?_); rintro e w' ⟨rfl, ⟨nd, rfl⟩⟩; refine ⟨_, rfl, ?_⟩; (try simp only [errW_none, errW_some])))
                  refine bodyPost_ret (results_list (rs := [.tmp 8, .tmp 9, .tmp 10, .tmp 11]) rfl (by simp) (.tmp (.tmp (.tmp (.tmp .nil))))) rfl ?_
                  exact ⟨by first | rfl | (simp [errW_none, errW_some] <;> rfl) | (simp [*, errW_none, errW_some] <;> rfl), by repeat (first | (with_reducible first | exact HB.out | apply below_alloc | apply pw_below_drewN | apply below_drew1) | exact HB.out)⟩

/-! ### pool_Cut_s: function 11, told plainly -/
theorem pool_Cut.tells (i f g a : Int) (hi : M.In i) (hf : M.In f) (hg : M.In g) (ha : M.In a) (k : Nat) (hk : 8 ≤ k) : pool_Cut.f k i f g a =
    some (if M.cutOk i f g a then (if a = 0 then (0, 0, 0, none) else (i - f * i / a - g * i / a, f * i / a, g * i / a, none)) else (0, 0, 0, some 1)) := by
  obtain ⟨k, rfl⟩ : ∃ m, k = m + 7 := ⟨k - 7, by omega⟩
  unfold M.In at hi hf hg ha
  have hno : ¬ M.cutOk i f g a → some (0, 0, 0, some 1) = some (if M.cutOk i f g a then (if a = 0 then ((0 : Int), (0 : Int), (0 : Int), (none : Option Int)) else (i - f * i / a - g * i / a, f * i / a, g * i / a, none)) else (0, 0, 0, some 1)) := fun h => by rw [if_neg h]
  unfold pool_Cut.f
  rw [Option.bind_some]
  have w1 : wrap64 (0 + 1) = 1 := by unfold wrap64; omega
  have w2 : wrap64 (1 + 1) = 2 := by unfold wrap64; omega
  have w3 : wrap64 (2 + 1) = 3 := by unfold wrap64; omega
  have w4 : wrap64 (3 + 1) = 4 := by unfold wrap64; omega
  have r0 : rd [i, f, g, a] 0 = i := rfl
  have r1 : rd [i, f, g, a] 1 = f := rfl
  have r2 : rd [i, f, g, a] 2 = g := rfl
  have r3 : rd [i, f, g, a] 3 = a := rfl
  have hl : (([i, f, g, a] : List Int).length : Int) = 4 := rfl
  rw [hl]
  simp only [pool_Cut.l0]
  rw [hl, w1, w2, w3, w4, r0, r1, r2, r3]
  rw [if_pos (by decide), if_pos (by decide), if_pos (by decide)]
  by_cases h1 : i < 0
  · rw [if_pos h1]; exact hno (fun hh => by have := hh.1; omega)
  rw [if_neg h1]
  by_cases h2 : i > 10000000000000
  · rw [if_pos h2]; exact hno (fun hh => by have := hh.2; omega)
  rw [if_neg h2, if_pos (by decide), if_pos (by decide), if_pos (by decide)]
  by_cases h3 : f < 0
  · rw [if_pos h3]; exact hno (fun hh => by have := hh.2; omega)
  rw [if_neg h3]
  by_cases h4 : f > 10000000000000
  · rw [if_pos h4]; exact hno (fun hh => by have := hh.2; omega)
  rw [if_neg h4, if_pos (by decide), if_pos (by decide), if_pos (by decide)]
  by_cases h5 : g < 0
  · rw [if_pos h5]; exact hno (fun hh => by have := hh.2; omega)
  rw [if_neg h5]
  by_cases h6 : g > 10000000000000
  · rw [if_pos h6]; exact hno (fun hh => by have := hh.2; omega)
  rw [if_neg h6, if_pos (by decide), if_pos (by decide), if_pos (by decide)]
  by_cases h7 : a < 0
  · rw [if_pos h7]; exact hno (fun hh => by have := hh.2; omega)
  rw [if_neg h7]
  by_cases h8 : a > 10000000000000
  · rw [if_pos h8]; exact hno (fun hh => by have := hh.2; omega)
  rw [if_neg h8, if_neg (by decide), M.w64_id (n := f + g) (by omega) (by omega)]
  by_cases h9 : f + g > a
  · rw [if_pos h9]
    simp only [pool_Cut.j1]
    rw [if_pos trivial]; exact hno (fun hh => by have := hh.2; omega)
  rw [if_neg h9]
  simp only [pool_Cut.j1]
  by_cases h10 : i > a
  · rw [if_pos (decide_eq_true h10)]; exact hno (fun hh => by have := hh.2; omega)
  have hok : M.cutOk i f g a := ⟨by omega, by omega, by omega, by omega, by omega, by omega⟩
  rw [if_neg (by simpa using h10), if_pos hok]
  by_cases h11 : a = 0
  · rw [if_pos h11, if_pos h11]
  rw [if_neg h11, if_neg h11]
  have c1 := M.cut_part (i := i) (f := f) (a := a) (by omega) (by omega) (by omega) (by omega)
  have c2 := M.cut_part (i := i) (f := g) (a := a) (by omega) (by omega) (by omega) (by omega)
  have hin : ∀ z, 0 ≤ z → z ≤ 10000000000000 → M.In z := fun z _ _ => by unfold M.In; omega
  rw [cents_MulDiv_s.at_ (hin _ (by omega) (by omega)) (hin _ (by omega) (by omega)) (hin _ (by omega) (by omega)), if_neg (by omega), M.quo_down (by omega), M.told_in (hin _ c1.1 (by omega)), Option.bind_some]
  simp only [Option.isNone_none, if_true]
  rw [cents_MulDiv_s.at_ (hin _ (by omega) (by omega)) (hin _ (by omega) (by omega)) (hin _ (by omega) (by omega)), if_neg (by omega), M.quo_down (by omega), M.told_in (hin _ c2.1 (by omega)), Option.bind_some]
  simp only [Option.isNone_none, if_true]
  rw [M.w64_id (n := i - f * i / a) (by omega) (by omega), M.w64_id (n := i - f * i / a - g * i / a) (by omega) (by omega)]
def pool_Cut_s.f (i f g a : Int) : Option (Int × Int × Int × Option Int) :=
  if M.In i ∧ M.In f ∧ M.In g ∧ M.In a then some (if M.cutOk i f g a then (if a = 0 then (0, 0, 0, none) else (i - f * i / a - g * i / a, f * i / a, g * i / a, none)) else (0, 0, 0, some 1)) else none
theorem pool_Cut_s.calls (a0 : Int) (a1 : Int) (a2 : Int) (a3 : Int) (r1 : Int) (r2 : Int) (r3 : Int) (r4 : Option Int) (w : World) (h : pool_Cut_s.f a0 a1 a2 a3 = some (r1, r2, r3, r4)) :
    Calls Try.prog 11 #[.int .i64 a0, .int .i64 a1, .int .i64 a2, .int .i64 a3] w fun e w' => e = .returned (.tuple #[.int .i64 r1, .int .i64 r2, .int .i64 r3, errW r4]) ∧ Below w.heap.size w w' := by
  unfold pool_Cut_s.f at h
  split at h
  · rename_i hr
    exact pool_Cut.calls 8 a0 a1 a2 a3 r1 r2 r3 r4 w ((pool_Cut.tells a0 a1 a2 a3 hr.1 hr.2.1 hr.2.2.1 hr.2.2.2 8 (Nat.le_refl _)).trans h)
  · cases h
theorem pool_Cut_s.at_ {i f g a : Int} (hi : M.In i) (hf : M.In f) (hg : M.In g) (ha : M.In a) : pool_Cut_s.f i f g a = some (if M.cutOk i f g a then (if a = 0 then (0, 0, 0, none) else (i - f * i / a - g * i / a, f * i / a, g * i / a, none)) else (0, 0, 0, some 1)) := by unfold pool_Cut_s.f; rw [if_pos ⟨hi, hf, hg, ha⟩]

end Go.Proofs.Ytghimjkoaldafaa.P
