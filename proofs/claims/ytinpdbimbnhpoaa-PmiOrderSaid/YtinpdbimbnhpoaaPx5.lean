-- Written by a program of this session out of the translation of the seat: Lean functions and the proofs that the Go functions come to them.
import Derived.Test.YtinpdbimbnhpoaaPx0
import Derived.Test.YtinpdbimbnhpoaaPx3
import Derived.Test.YtinpdbimbnhpoaaPx4
namespace Go.Proofs.Ytinpdbimbnhpoaa.P
open Go.RowKit Go.Proofs.YtinpdbimbnhpoaaW.PrintWords Go.Proofs.YtinpdbimbnhpoaaW.PrintLast Go.Proofs.YtinpdbimbnhpoaaW.PrintMore
attribute [local go_sem] max2_int min2_int max_two min_two max_three min_three max_four min_four   -- for this text's walks alone
set_option linter.unusedVariables false
set_option linter.unusedSimpArgs false

/-! ### cents_further: function 50 -/
def cents_further.f (a0 : Int) (a1 : Int) (a2 : Int) (a3 : Bool) (a4 : Int) : Option (Bool) := if a4 = 1 then (if a3 = true then (some (decide (a1 > 0))) else (some false)) else (if a4 = 2 then (if a3 = true then (some false) else (some (decide (a1 > 0)))) else (if a4 = 3 then (if a1 > (IntKind.u64.wrap (a2 - a1)) then (some true) else (some (a1 == (IntKind.u64.wrap (a2 - a1))))) else (if a1 > (IntKind.u64.wrap (a2 - a1)) then (some true) else (if a1 = (IntKind.u64.wrap (a2 - a1)) then (some ((Go.bits .and .u64 a0 1) == 1)) else (some false)))))
set_option maxHeartbeats 8000000 in
set_option maxRecDepth 100000 in
theorem cents_further.calls (a0 : Int) (a1 : Int) (a2 : Int) (a3 : Bool) (a4 : Int) (r : Bool) (w : World) (h : cents_further.f a0 a1 a2 a3 a4 = some r) :
    Calls Try.prog 50 #[.int .u64 a0, .int .u64 a1, .int .u64 a2, .bool a3, .int .i64 a4] w fun e w' => e = .returned (.bool r) ∧ Drawn0 w w' := by
  have H : (if a4 = 1 then (if a3 = true then (some (decide (a1 > 0))) else (some false)) else (if a4 = 2 then (if a3 = true then (some false) else (some (decide (a1 > 0)))) else (if a4 = 3 then (if a1 > (IntKind.u64.wrap (a2 - a1)) then (some true) else (some (a1 == (IntKind.u64.wrap (a2 - a1))))) else (if a1 > (IntKind.u64.wrap (a2 - a1)) then (some true) else (if a1 = (IntKind.u64.wrap (a2 - a1)) then (some ((Go.bits .and .u64 a0 1) == 1)) else (some false)))))) = some r := h
  clear h
  by_cases c6 : a4 = 1
  · rw [if_pos c6] at H
    have c6b0 : (a4 == 1) = true := beq_iff_eq.mpr c6
    have c6b1 : (a4 != 1) = false := bne_eq_false_iff_eq.mpr c6
    clear c6
    by_cases c7 : a3 = true
    · subst c7
      have H1 : (some (decide (a1 > 0))) = some r := by rw [if_pos rfl] at H; exact H
      clear H
      have H := H1
      clear H1
      obtain rfl := Option.some.inj H
      go_enter Try.func50, Try.ntmps50
      go_wp2
      go_ret
      exact ⟨by first | rfl | (simp; done) | (simp [*]; done), by repeat (first | exact Drawn0.refl _ | apply Drawn0.step)⟩
    · replace c7 := Bool.eq_false_iff.mpr c7
      subst c7
      have H1 : (some false) = some r := by rw [if_neg (show ¬ (false = true) by decide)] at H; exact H
      clear H
      have H := H1
      clear H1
      obtain rfl := Option.some.inj H
      go_enter Try.func50, Try.ntmps50
      go_wp2
      go_ret
      exact ⟨by first | rfl | (simp; done) | (simp [*]; done), by repeat (first | exact Drawn0.refl _ | apply Drawn0.step)⟩
  · rw [if_neg c6] at H
    have c6b0 : (a4 == 1) = false := beq_eq_false_iff_ne.mpr c6
    have c6b1 : (a4 != 1) = true := bne_iff_ne.mpr c6
    by_cases c8 : a4 = 2
    · rw [if_pos c8] at H
      have c8b0 : (a4 == 2) = true := beq_iff_eq.mpr c8
      have c8b1 : (a4 != 2) = false := bne_eq_false_iff_eq.mpr c8
      clear c8
      by_cases c9 : a3 = true
      · subst c9
        have H1 : (some false) = some r := by rw [if_pos rfl] at H; exact H
        clear H
        have H := H1
        clear H1
        obtain rfl := Option.some.inj H
        go_enter Try.func50, Try.ntmps50
        go_wp2
        go_ret
        exact ⟨by first | rfl | (simp; done) | (simp [*]; done), by repeat (first | exact Drawn0.refl _ | apply Drawn0.step)⟩
      · replace c9 := Bool.eq_false_iff.mpr c9
        subst c9
        have H1 : (some (decide (a1 > 0))) = some r := by rw [if_neg (show ¬ (false = true) by decide)] at H; exact H
        clear H
        have H := H1
        clear H1
        obtain rfl := Option.some.inj H
        go_enter Try.func50, Try.ntmps50
        go_wp2
        go_ret
        exact ⟨by first | rfl | (simp; done) | (simp [*]; done), by repeat (first | exact Drawn0.refl _ | apply Drawn0.step)⟩
    · rw [if_neg c8] at H
      have c8b0 : (a4 == 2) = false := beq_eq_false_iff_ne.mpr c8
      have c8b1 : (a4 != 2) = true := bne_iff_ne.mpr c8
      by_cases c10 : a4 = 3
      · rw [if_pos c10] at H
        have c10b0 : (a4 == 3) = true := beq_iff_eq.mpr c10
        have c10b1 : (a4 != 3) = false := bne_eq_false_iff_eq.mpr c10
        clear c10
        by_cases c11 : a1 > (IntKind.u64.wrap (a2 - a1))
        · rw [if_pos c11] at H
          have c11b0 : decide ((IntKind.u64.wrap (a2 - a1)) < a1) = true := decide_eq_true c11
          clear c11
          obtain rfl := Option.some.inj H
          go_enter Try.func50, Try.ntmps50
          go_wp2
          go_ret
          exact ⟨by first | rfl | (simp; done) | (simp [*]; done), by repeat (first | exact Drawn0.refl _ | apply Drawn0.step)⟩
        · rw [if_neg c11] at H
          have c11b0 : decide ((IntKind.u64.wrap (a2 - a1)) < a1) = false := decide_eq_false c11
          clear c11
          obtain rfl := Option.some.inj H
          go_enter Try.func50, Try.ntmps50
          go_wp2
          go_ret
          exact ⟨by first | rfl | (simp; done) | (simp [*]; done), by repeat (first | exact Drawn0.refl _ | apply Drawn0.step)⟩
      · rw [if_neg c10] at H
        have c10b0 : (a4 == 3) = false := beq_eq_false_iff_ne.mpr c10
        have c10b1 : (a4 != 3) = true := bne_iff_ne.mpr c10
        by_cases c12 : a1 > (IntKind.u64.wrap (a2 - a1))
        · rw [if_pos c12] at H
          have c12b0 : decide ((IntKind.u64.wrap (a2 - a1)) < a1) = true := decide_eq_true c12
          clear c12
          obtain rfl := Option.some.inj H
          go_enter Try.func50, Try.ntmps50
          go_wp2
          go_ret
          exact ⟨by first | rfl | (simp; done) | (simp [*]; done), by repeat (first | exact Drawn0.refl _ | apply Drawn0.step)⟩
        · rw [if_neg c12] at H
          have c12b0 : decide ((IntKind.u64.wrap (a2 - a1)) < a1) = false := decide_eq_false c12
          clear c12
          by_cases c13 : a1 = (IntKind.u64.wrap (a2 - a1))
          · rw [if_pos c13] at H
            have c13b0 : (a1 == (IntKind.u64.wrap (a2 - a1))) = true := beq_iff_eq.mpr c13
            have c13b1 : (a1 != (IntKind.u64.wrap (a2 - a1))) = false := bne_eq_false_iff_eq.mpr c13
            clear c13
            obtain rfl := Option.some.inj H
            go_enter Try.func50, Try.ntmps50
            go_wp2
            go_ret
            exact ⟨by first | rfl | (simp; done) | (simp [*]; done), by repeat (first | exact Drawn0.refl _ | apply Drawn0.step)⟩
          · rw [if_neg c13] at H
            have c13b0 : (a1 == (IntKind.u64.wrap (a2 - a1))) = false := beq_eq_false_iff_ne.mpr c13
            have c13b1 : (a1 != (IntKind.u64.wrap (a2 - a1))) = true := bne_iff_ne.mpr c13
            obtain rfl := Option.some.inj H
            go_enter Try.func50, Try.ntmps50
            go_wp2
            go_ret
            exact ⟨by first | rfl | (simp; done) | (simp [*]; done), by repeat (first | exact Drawn0.refl _ | apply Drawn0.step)⟩

/-! ### cents_signed: function 51 -/
def cents_signed.f (a0 : Int) (a1 : Bool) : Option (Int × Bool) := if a1 = true then (some (wrap64 (IntKind.u64.wrap (-a0)), decide (a0 ≤ 9223372036854775808))) else (some (wrap64 (a0), decide (a0 < 9223372036854775808)))
set_option maxHeartbeats 8000000 in
set_option maxRecDepth 100000 in
theorem cents_signed.calls (a0 : Int) (a1 : Bool) (r1 : Int) (r2 : Bool) (w : World) (h : cents_signed.f a0 a1 = some (r1, r2)) :
    Calls Try.prog 51 #[.int .u64 a0, .bool a1] w fun e w' => e = .returned (.tuple #[.int .i64 r1, .bool r2]) ∧ Drawn0 w w' := by
  have H : (if a1 = true then (some (wrap64 (IntKind.u64.wrap (-a0)), decide (a0 ≤ 9223372036854775808))) else (some (wrap64 (a0), decide (a0 < 9223372036854775808)))) = some (r1, r2) := h
  clear h
  by_cases c3 : a1 = true
  · subst c3
    have H1 : (some (wrap64 (IntKind.u64.wrap (-a0)), decide (a0 ≤ 9223372036854775808))) = some (r1, r2) := by rw [if_pos rfl] at H; exact H
    clear H
    have H := H1
    clear H1
    simp only [Option.some.injEq, Prod.mk.injEq] at H
    obtain ⟨rfl, rfl⟩ := H
    go_enter Try.func51, Try.ntmps51
    go_wp2
    go_ret2
    exact ⟨by first | rfl | (simp; done) | (simp [*]; done), by repeat (first | exact Drawn0.refl _ | apply Drawn0.step)⟩
  · replace c3 := Bool.eq_false_iff.mpr c3
    subst c3
    have H1 : (some (wrap64 (a0), decide (a0 < 9223372036854775808))) = some (r1, r2) := by rw [if_neg (show ¬ (false = true) by decide)] at H; exact H
    clear H
    have H := H1
    clear H1
    simp only [Option.some.injEq, Prod.mk.injEq] at H
    obtain ⟨rfl, rfl⟩ := H
    go_enter Try.func51, Try.ntmps51
    go_wp2
    go_ret2
    exact ⟨by first | rfl | (simp; done) | (simp [*]; done), by repeat (first | exact Drawn0.refl _ | apply Drawn0.step)⟩

/-! ### cents_MulDiv: function 40 -/
mutual
def cents_MulDiv.j0 : Nat → Int → Int → Int → Int → Bool → Option (Int × Option Int)
  | 0, _, _, _, _, _ => none
  | k + 1, x0, x1, x2, x3, x32 => if x32 = true then (some (0, some 1)) else ((cents_size.f x0).bind fun bt132 => ((cents_size.f x1).bind fun bt134 => ((cents_size.f x2).bind fun bt136 => ((bits_Mul64_s.f bt132.1 bt134.1).bind fun bt138 => (if bt138.1 ≥ bt136.1 then (some (0, some 3)) else ((bits_Div64_s.f bt138.1 bt138.2 bt136.1).bind fun bt140 => (if bt140.2 > 0 then ((cents_further.f bt140.1 bt140.2 bt136.1 (!((!(bt132.2 == bt134.2)) == bt136.2)) x3).bind fun t142 => (cents_MulDiv.j1 k (!((!(bt132.2 == bt134.2)) == bt136.2)) bt140.1 t142)) else (cents_MulDiv.j1 k (!((!(bt132.2 == bt134.2)) == bt136.2)) bt140.1 false))))))))
def cents_MulDiv.j1 : Nat → Bool → Int → Bool → Option (Int × Option Int)
  | 0, _, _, _ => none
  | k + 1, x16, x19, x80 => if x80 = true then (if (IntKind.u64.wrap (x19 + 1)) = 0 then (some (0, some 3)) else ((cents_signed.f (IntKind.u64.wrap (x19 + 1)) x16).bind fun bt143 => (if bt143.2 = true then (some (bt143.1, none)) else (some (0, some 3))))) else ((cents_signed.f x19 x16).bind fun bt145 => (if bt145.2 = true then (some (bt145.1, none)) else (some (0, some 3))))
end
def cents_MulDiv.f (k : Nat) (a0 : Int) (a1 : Int) (a2 : Int) (a3 : Int) : Option (Int × Option Int) := if a2 = 0 then (cents_MulDiv.j0 k a0 a1 a2 a3 true) else (if a3 < 1 then (cents_MulDiv.j0 k a0 a1 a2 a3 true) else (cents_MulDiv.j0 k a0 a1 a2 a3 (decide (a3 > 4))))
theorem cents_MulDiv.mono_l : ∀ k, (∀ y0 y1 y2 y3 y4, LeO (cents_MulDiv.j0 k y0 y1 y2 y3 y4) (cents_MulDiv.j0 (k + 1) y0 y1 y2 y3 y4)) ∧ (∀ y0 y1 y2, LeO (cents_MulDiv.j1 k y0 y1 y2) (cents_MulDiv.j1 (k + 1) y0 y1 y2))
  | 0 => ⟨fun _ _ _ _ _ r h => by simp [cents_MulDiv.j0] at h, fun _ _ _ r h => by simp [cents_MulDiv.j1] at h⟩
  | k + 1 => by
    obtain ⟨ih0, ih1⟩ := cents_MulDiv.mono_l k
    refine ⟨?_, ?_⟩
    · intro y0 y1 y2 y3 y4
      unfold cents_MulDiv.j0
      repeat' first
      | (with_reducible exact ih0 _ _ _ _ _)
      | (with_reducible exact ih1 _ _ _)
      | (with_reducible exact LeO.refl _)
      | (with_reducible exact LeO.none _)
      | (with_reducible refine LeO.ite ?_ ?_)
      | (with_reducible refine LeO.bind ?_ (fun _ => ?_))
      | exact ih0 _ _ _ _ _
      | exact ih1 _ _ _
      | exact LeO.none _
      | refine LeO.ite ?_ ?_
      | refine LeO.bind ?_ (fun _ => ?_)
    · intro y0 y1 y2
      unfold cents_MulDiv.j1
      repeat' first
      | (with_reducible exact ih0 _ _ _ _ _)
      | (with_reducible exact ih1 _ _ _)
      | (with_reducible exact LeO.refl _)
      | (with_reducible exact LeO.none _)
      | (with_reducible refine LeO.ite ?_ ?_)
      | (with_reducible refine LeO.bind ?_ (fun _ => ?_))
      | exact ih0 _ _ _ _ _
      | exact ih1 _ _ _
      | exact LeO.none _
      | refine LeO.ite ?_ ?_
      | refine LeO.bind ?_ (fun _ => ?_)
theorem cents_MulDiv.mono : ∀ a0 a1 a2 a3 k, LeO (cents_MulDiv.f k a0 a1 a2 a3) (cents_MulDiv.f (k + 1) a0 a1 a2 a3) := by
  intro a0 a1 a2 a3 k
  obtain ⟨ih0, ih1⟩ := cents_MulDiv.mono_l k
  unfold cents_MulDiv.f
  repeat' first
      | (with_reducible exact ih0 _ _ _ _ _)
      | (with_reducible exact ih1 _ _ _)
      | (with_reducible exact LeO.refl _)
      | (with_reducible exact LeO.none _)
      | (with_reducible refine LeO.ite ?_ ?_)
      | (with_reducible refine LeO.bind ?_ (fun _ => ?_))
      | exact ih0 _ _ _ _ _
      | exact ih1 _ _ _
      | exact LeO.none _
      | refine LeO.ite ?_ ?_
      | refine LeO.bind ?_ (fun _ => ?_)
set_option maxHeartbeats 8000000 in
set_option maxRecDepth 100000 in
theorem cents_MulDiv.calls (k : Nat) (a0 : Int) (a1 : Int) (a2 : Int) (a3 : Int) (r1 : Int) (r2 : Option Int) (w : World) (h : cents_MulDiv.f k a0 a1 a2 a3 = some (r1, r2)) :
    Calls Try.prog 40 #[.int .i64 a0, .int .i64 a1, .int .i64 a2, .int .i64 a3] w fun e w' => e = .returned (.tuple #[.int .i64 r1, errW r2]) ∧ Drawn0 w w' := by
  have hu26 := Try.underlying26
  have hu31 := Try.underlying31
  have H : (if a2 = 0 then (cents_MulDiv.j0 k a0 a1 a2 a3 true) else (if a3 < 1 then (cents_MulDiv.j0 k a0 a1 a2 a3 true) else (cents_MulDiv.j0 k a0 a1 a2 a3 (decide (a3 > 4))))) = some (r1, r2) := h
  clear h
  have HC5 := Aside0.mk H
  clear H
  go_enter Try.func40, Try.ntmps40
  go_upto_region 1 with (fail)
  go_cut [32] (fun v32 wc => ∃ (kq : Nat) (x32_4 : Bool), v32 = .bool x32_4 ∧ Aside0 (cents_MulDiv.j0 kq a0 a1 a2 a3 x32_4 = some (r1, r2)) ∧ Aside0 (kq ≤ k) ∧ Drawn0 w wc)
  case first =>
    have H := HC5.out
    clear HC5
    by_cases c6 : a2 = 0
    · rw [if_pos c6] at H
      have c6b0 : (a2 == 0) = true := beq_iff_eq.mpr c6
      have c6b1 : (a2 != 0) = false := bne_eq_false_iff_eq.mpr c6
      clear c6
      (first | rw [c6b0] | (simp only [i64_w, i32_w]; rw [c6b0]) | skip)
      have H' := Aside0.mk H
      clear H
      go_wp2
      go_meet
      case rel => exact ⟨_, (true), (by first | rfl | (simp; done) | (simp [*]; done)), H', ⟨by first | omega | exact Nat.le_refl _⟩, by repeat (first | exact Drawn0.refl _ | apply Drawn0.step)⟩
    · rw [if_neg c6] at H
      have c6b0 : (a2 == 0) = false := beq_eq_false_iff_ne.mpr c6
      have c6b1 : (a2 != 0) = true := bne_iff_ne.mpr c6
      (first | rw [c6b0] | (simp only [i64_w, i32_w]; rw [c6b0]) | skip)
      by_cases c7 : a3 < 1
      · rw [if_pos c7] at H
        have c7b0 : decide (a3 < 1) = true := decide_eq_true c7
        clear c7
        have H' := Aside0.mk H
        clear H
        go_wp2
        go_meet
        case rel => exact ⟨_, (true), (by first | rfl | (simp; done) | (simp [*]; done)), H', ⟨by first | omega | exact Nat.le_refl _⟩, by repeat (first | exact Drawn0.refl _ | apply Drawn0.step)⟩
      · rw [if_neg c7] at H
        have c7b0 : decide (a3 < 1) = false := decide_eq_false c7
        clear c7
        have H' := Aside0.mk H
        clear H
        go_wp2
        go_meet
        case rel => exact ⟨_, (decide (a3 > 4)), (by first | rfl | (simp; done) | (simp [*]; done)), H', ⟨by first | omega | exact Nat.le_refl _⟩, by repeat (first | exact Drawn0.refl _ | apply Drawn0.step)⟩
  case rest =>
    clear HC5
    try clear p2
    try clear c4
    try clear c6
    try clear c6b0
    try clear c6b1
    try clear c7
    try clear c7b0
    obtain ⟨kq, x32_4, rfl, HA, HJ4, ⟨mc4, rfl⟩⟩ := hcut
    cases kq with
    | zero => exact absurd HA.out (by simp [cents_MulDiv.j0])
    | succ kj4 =>
      have H := HA.out
      clear HA
      simp only [cents_MulDiv.j0] at H
      by_cases c8 : x32_4 = true
      · subst c8
        have H1 : (some (0, some 1)) = some (r1, r2) := by rw [if_pos rfl] at H; exact H
        clear H
        have H := H1
        clear H1
        simp only [Option.some.injEq, Prod.mk.injEq] at H
        obtain ⟨rfl, rfl⟩ := H
        go_wp2
        go_ret2
        exact ⟨by first | rfl | (simp; done) | (simp [*]; done), by repeat (first | exact Drawn0.refl _ | apply Drawn0.step)⟩
      · replace c8 := Bool.eq_false_iff.mpr c8
        subst c8
        have H1 : ((cents_size.f a0).bind fun bt132 => ((cents_size.f a1).bind fun bt134 => ((cents_size.f a2).bind fun bt136 => ((bits_Mul64_s.f bt132.1 bt134.1).bind fun bt138 => (if bt138.1 ≥ bt136.1 then (some (0, some 3)) else ((bits_Div64_s.f bt138.1 bt138.2 bt136.1).bind fun bt140 => (if bt140.2 > 0 then ((cents_further.f bt140.1 bt140.2 bt136.1 (!((!(bt132.2 == bt134.2)) == bt136.2)) a3).bind fun t142 => (cents_MulDiv.j1 kj4 (!((!(bt132.2 == bt134.2)) == bt136.2)) bt140.1 t142)) else (cents_MulDiv.j1 kj4 (!((!(bt132.2 == bt134.2)) == bt136.2)) bt140.1 false)))))))) = some (r1, r2) := by rw [if_neg (show ¬ (false = true) by decide)] at H; exact H
        clear H
        have H := H1
        clear H1
        replace H := Option.bind_eq_some_iff.mp H
        obtain ⟨⟨t132, t133⟩, A90, H⟩ := H
        replace H : ((cents_size.f a1).bind fun bt134 => ((cents_size.f a2).bind fun bt136 => ((bits_Mul64_s.f t132 bt134.1).bind fun bt138 => (if bt138.1 ≥ bt136.1 then (some (0, some 3)) else ((bits_Div64_s.f bt138.1 bt138.2 bt136.1).bind fun bt140 => (if bt140.2 > 0 then ((cents_further.f bt140.1 bt140.2 bt136.1 (!((!(t133 == bt134.2)) == bt136.2)) a3).bind fun t142 => (cents_MulDiv.j1 kj4 (!((!(t133 == bt134.2)) == bt136.2)) bt140.1 t142)) else (cents_MulDiv.j1 kj4 (!((!(t133 == bt134.2)) == bt136.2)) bt140.1 false))))))) = some (r1, r2) := H
        have A9 := Aside0.mk A90
        clear A90
        replace H := Option.bind_eq_some_iff.mp H
        obtain ⟨⟨t134, t135⟩, A100, H⟩ := H
        replace H : ((cents_size.f a2).bind fun bt136 => ((bits_Mul64_s.f t132 t134).bind fun bt138 => (if bt138.1 ≥ bt136.1 then (some (0, some 3)) else ((bits_Div64_s.f bt138.1 bt138.2 bt136.1).bind fun bt140 => (if bt140.2 > 0 then ((cents_further.f bt140.1 bt140.2 bt136.1 (!((!(t133 == t135)) == bt136.2)) a3).bind fun t142 => (cents_MulDiv.j1 kj4 (!((!(t133 == t135)) == bt136.2)) bt140.1 t142)) else (cents_MulDiv.j1 kj4 (!((!(t133 == t135)) == bt136.2)) bt140.1 false)))))) = some (r1, r2) := H
        have A10 := Aside0.mk A100
        clear A100
        replace H := Option.bind_eq_some_iff.mp H
        obtain ⟨⟨t136, t137⟩, A110, H⟩ := H
        replace H : ((bits_Mul64_s.f t132 t134).bind fun bt138 => (if bt138.1 ≥ t136 then (some (0, some 3)) else ((bits_Div64_s.f bt138.1 bt138.2 t136).bind fun bt140 => (if bt140.2 > 0 then ((cents_further.f bt140.1 bt140.2 t136 (!((!(t133 == t135)) == t137)) a3).bind fun t142 => (cents_MulDiv.j1 kj4 (!((!(t133 == t135)) == t137)) bt140.1 t142)) else (cents_MulDiv.j1 kj4 (!((!(t133 == t135)) == t137)) bt140.1 false))))) = some (r1, r2) := H
        have A11 := Aside0.mk A110
        clear A110
        replace H := Option.bind_eq_some_iff.mp H
        obtain ⟨⟨t138, t139⟩, A120, H⟩ := H
        replace H : (if t138 ≥ t136 then (some (0, some 3)) else ((bits_Div64_s.f t138 t139 t136).bind fun bt140 => (if bt140.2 > 0 then ((cents_further.f bt140.1 bt140.2 t136 (!((!(t133 == t135)) == t137)) a3).bind fun t142 => (cents_MulDiv.j1 kj4 (!((!(t133 == t135)) == t137)) bt140.1 t142)) else (cents_MulDiv.j1 kj4 (!((!(t133 == t135)) == t137)) bt140.1 false)))) = some (r1, r2) := H
        have A12 := Aside0.mk A120
        clear A120
        by_cases c13 : t138 ≥ t136
        · rw [if_pos c13] at H
          have c13b0 : decide (t136 ≤ t138) = true := decide_eq_true c13
          clear c13
          simp only [Option.some.injEq, Prod.mk.injEq] at H
          obtain ⟨rfl, rfl⟩ := H
          go_wp2_with (first | ((with_reducible refine gate_callee (f := 47) rfl ?_); refine goesL_ (some 36) rfl rfl Try.func47 (by kernel_rfl) rfl #[.int .i64 a0] rfl (by (try simp only [List.map_toArray, List.map_cons, List.map_nil]); first | done | rfl | (simp only [List.length_drop, List.length_take]; rfl)) ?_; (with_reducible refine (cents_size.calls a0 t132 t133 _ A9.out).mono ?_); rintro e w' ⟨rfl, ⟨nd, rfl⟩⟩; refine ⟨_, rfl, ?_⟩) | ((with_reducible refine gate_callee (f := 47) rfl ?_); refine goesL_ (some 41) rfl rfl Try.func47 (by kernel_rfl) rfl #[.int .i64 a1] rfl (by (try simp only [List.map_toArray, List.map_cons, List.map_nil]); first | done | rfl | (simp only [List.length_drop, List.length_take]; rfl)) ?_; (with_reducible refine (cents_size.calls a1 t134 t135 _ A10.out).mono ?_); rintro e w' ⟨rfl, ⟨nd, rfl⟩⟩; refine ⟨_, rfl, ?_⟩) | ((with_reducible refine gate_callee (f := 47) rfl ?_); refine goesL_ (some 46) rfl rfl Try.func47 (by kernel_rfl) rfl #[.int .i64 a2] rfl (by (try simp only [List.map_toArray, List.map_cons, List.map_nil]); first | done | rfl | (simp only [List.length_drop, List.length_take]; rfl)) ?_; (with_reducible refine (cents_size.calls a2 t136 t137 _ A11.out).mono ?_); rintro e w' ⟨rfl, ⟨nd, rfl⟩⟩; refine ⟨_, rfl, ?_⟩) | ((with_reducible refine gate_callee (f := 48) rfl ?_); refine goesL_ (some 57) rfl rfl Try.func48 (by kernel_rfl) rfl #[.int .u64 t132, .int .u64 t134] rfl (by (try simp only [List.map_toArray, List.map_cons, List.map_nil]); first | done | rfl | (simp only [List.length_drop, List.length_take]; rfl)) ?_; (with_reducible refine (bits_Mul64_s.calls t132 t134 t138 t139 _ A12.out).mono ?_); rintro e w' ⟨rfl, ⟨nd, rfl⟩⟩; refine ⟨_, rfl, ?_⟩))
          go_ret2
          exact ⟨by first | rfl | (simp; done) | (simp [*]; done), by repeat (first | exact Drawn0.refl _ | apply Drawn0.step)⟩
        · rw [if_neg c13] at H
          have c13b0 : decide (t136 ≤ t138) = false := decide_eq_false c13
          clear c13
          replace H := Option.bind_eq_some_iff.mp H
          obtain ⟨⟨t140, t141⟩, A140, H⟩ := H
          replace H : (if t141 > 0 then ((cents_further.f t140 t141 t136 (!((!(t133 == t135)) == t137)) a3).bind fun t142 => (cents_MulDiv.j1 kj4 (!((!(t133 == t135)) == t137)) t140 t142)) else (cents_MulDiv.j1 kj4 (!((!(t133 == t135)) == t137)) t140 false)) = some (r1, r2) := H
          have A14 := Aside0.mk A140
          clear A140
          have HC15 := Aside0.mk H
          clear H
          go_upto_region 11 with (first | ((with_reducible refine gate_callee (f := 47) rfl ?_); refine goesL_ (some 36) rfl rfl Try.func47 (by kernel_rfl) rfl #[.int .i64 a0] rfl (by (try simp only [List.map_toArray, List.map_cons, List.map_nil]); first | done | rfl | (simp only [List.length_drop, List.length_take]; rfl)) ?_; (with_reducible refine (cents_size.calls a0 t132 t133 _ A9.out).mono ?_); rintro e w' ⟨rfl, ⟨nd, rfl⟩⟩; refine ⟨_, rfl, ?_⟩) | ((with_reducible refine gate_callee (f := 47) rfl ?_); refine goesL_ (some 41) rfl rfl Try.func47 (by kernel_rfl) rfl #[.int .i64 a1] rfl (by (try simp only [List.map_toArray, List.map_cons, List.map_nil]); first | done | rfl | (simp only [List.length_drop, List.length_take]; rfl)) ?_; (with_reducible refine (cents_size.calls a1 t134 t135 _ A10.out).mono ?_); rintro e w' ⟨rfl, ⟨nd, rfl⟩⟩; refine ⟨_, rfl, ?_⟩) | ((with_reducible refine gate_callee (f := 47) rfl ?_); refine goesL_ (some 46) rfl rfl Try.func47 (by kernel_rfl) rfl #[.int .i64 a2] rfl (by (try simp only [List.map_toArray, List.map_cons, List.map_nil]); first | done | rfl | (simp only [List.length_drop, List.length_take]; rfl)) ?_; (with_reducible refine (cents_size.calls a2 t136 t137 _ A11.out).mono ?_); rintro e w' ⟨rfl, ⟨nd, rfl⟩⟩; refine ⟨_, rfl, ?_⟩) | ((with_reducible refine gate_callee (f := 48) rfl ?_); refine goesL_ (some 57) rfl rfl Try.func48 (by kernel_rfl) rfl #[.int .u64 t132, .int .u64 t134] rfl (by (try simp only [List.map_toArray, List.map_cons, List.map_nil]); first | done | rfl | (simp only [List.length_drop, List.length_take]; rfl)) ?_; (with_reducible refine (bits_Mul64_s.calls t132 t134 t138 t139 _ A12.out).mono ?_); rintro e w' ⟨rfl, ⟨nd, rfl⟩⟩; refine ⟨_, rfl, ?_⟩) | ((with_reducible refine gate_callee (f := 49) rfl ?_); refine goesL_ (some 68) rfl rfl Try.func49 (by kernel_rfl) rfl #[.int .u64 t138, .int .u64 t139, .int .u64 t136] rfl (by (try simp only [List.map_toArray, List.map_cons, List.map_nil]); first | done | rfl | (simp only [List.length_drop, List.length_take]; rfl)) ?_; (with_reducible refine (bits_Div64_s.calls t138 t139 t136 t140 t141 _ A14.out).mono ?_); rintro e w' ⟨rfl, ⟨nd, rfl⟩⟩; refine ⟨_, rfl, ?_⟩))
          (try simp only [Act.put, List.setIfInBounds_toArray, List.set_cons_zero, List.set_cons_succ])
          go_cut [80] (fun v80 wc => ∃ (kq : Nat) (x80_14 : Bool), v80 = .bool x80_14 ∧ Aside0 (cents_MulDiv.j1 kq (!((!(t133 == t135)) == t137)) t140 x80_14 = some (r1, r2)) ∧ Aside0 (kq ≤ kj4) ∧ Drawn0 w wc)
          case first =>
            have H := HC15.out
            clear HC15
            by_cases c16 : t141 > 0
            · rw [if_pos c16] at H
              have c16b0 : decide (0 < t141) = true := decide_eq_true c16
              clear c16
              (first | rw [c16b0] | (simp only [i64_w, i32_w]; rw [c16b0]) | skip)
              replace H := Option.bind_eq_some_iff.mp H
              obtain ⟨t142, A170, H⟩ := H
              replace H : (cents_MulDiv.j1 kj4 (!((!(t133 == t135)) == t137)) t140 t142) = some (r1, r2) := H
              have A17 := Aside0.mk A170
              clear A170
              have H' := Aside0.mk H
              clear H
              go_wp2_with (first | (go_at_call 50; (with_reducible refine (cents_further.calls t140 t141 t136 (!((!(t133 == t135)) == t137)) a3 t142 _ A17.out).mono ?_); rintro e w' ⟨rfl, ⟨nd, rfl⟩⟩))
              go_meet
              case rel => exact ⟨_, (t142), (by first | rfl | (simp; done) | (simp [*]; done)), H', ⟨by have := HJ4.out; first | omega | exact Nat.le_refl _⟩, by repeat (first | exact Drawn0.refl _ | apply Drawn0.step)⟩
            · rw [if_neg c16] at H
              have c16b0 : decide (0 < t141) = false := decide_eq_false c16
              clear c16
              (first | rw [c16b0] | (simp only [i64_w, i32_w]; rw [c16b0]) | skip)
              have H' := Aside0.mk H
              clear H
              go_wp2
              go_meet
              case rel => exact ⟨_, (false), (by first | rfl | (simp; done) | (simp [*]; done)), H', ⟨by have := HJ4.out; first | omega | exact Nat.le_refl _⟩, by repeat (first | exact Drawn0.refl _ | apply Drawn0.step)⟩
          case rest =>
            clear HC15
            try clear c1
            try clear p2
            try clear c4
            try clear c6
            try clear c6b0
            try clear c6b1
            try clear c7
            try clear c7b0
            try clear c8
            try clear c13
            try clear c13b0
            try clear c16
            try clear c16b0
            try clear p2
            obtain ⟨kq, x80_14, rfl, HA, HJ14, ⟨mc14, rfl⟩⟩ := hcut
            cases kq with
            | zero => exact absurd HA.out (by simp [cents_MulDiv.j1])
            | succ kj14 =>
              have H := HA.out
              clear HA
              simp only [cents_MulDiv.j1] at H
              by_cases c18 : x80_14 = true
              · subst c18
                have H1 : (if (IntKind.u64.wrap (t140 + 1)) = 0 then (some (0, some 3)) else ((cents_signed.f (IntKind.u64.wrap (t140 + 1)) (!((!(t133 == t135)) == t137))).bind fun bt143 => (if bt143.2 = true then (some (bt143.1, none)) else (some (0, some 3))))) = some (r1, r2) := by rw [if_pos rfl] at H; exact H
                clear H
                have H := H1
                clear H1
                by_cases c19 : (IntKind.u64.wrap (t140 + 1)) = 0
                · rw [if_pos c19] at H
                  have c19b0 : ((IntKind.u64.wrap (t140 + 1)) == 0) = true := beq_iff_eq.mpr c19
                  have c19b1 : ((IntKind.u64.wrap (t140 + 1)) != 0) = false := bne_eq_false_iff_eq.mpr c19
                  clear c19
                  simp only [Option.some.injEq, Prod.mk.injEq] at H
                  obtain ⟨rfl, rfl⟩ := H
                  go_wp2
                  go_ret2
                  exact ⟨by first | rfl | (simp; done) | (simp [*]; done), by repeat (first | exact Drawn0.refl _ | apply Drawn0.step)⟩
                · rw [if_neg c19] at H
                  have c19b0 : ((IntKind.u64.wrap (t140 + 1)) == 0) = false := beq_eq_false_iff_ne.mpr c19
                  have c19b1 : ((IntKind.u64.wrap (t140 + 1)) != 0) = true := bne_iff_ne.mpr c19
                  replace H := Option.bind_eq_some_iff.mp H
                  obtain ⟨⟨t143, t144⟩, A200, H⟩ := H
                  replace H : (if t144 = true then (some (t143, none)) else (some (0, some 3))) = some (r1, r2) := H
                  have A20 := Aside0.mk A200
                  clear A200
                  by_cases c21 : t144 = true
                  · subst c21
                    have H1 : (some (t143, none)) = some (r1, r2) := by rw [if_pos rfl] at H; exact H
                    clear H
                    have H := H1
                    clear H1
                    simp only [Option.some.injEq, Prod.mk.injEq] at H
                    obtain ⟨rfl, rfl⟩ := H
                    go_wp2_with (first | ((with_reducible refine gate_callee (f := 51) rfl ?_); refine goesL_ (some 89) rfl rfl Try.func51 (by kernel_rfl) rfl #[.int .u64 (IntKind.u64.wrap (t140 + 1)), .bool (!((!(t133 == t135)) == t137))] rfl (by (try simp only [List.map_toArray, List.map_cons, List.map_nil]); first | done | rfl | (simp only [List.length_drop, List.length_take]; rfl)) ?_; (with_reducible refine (cents_signed.calls (IntKind.u64.wrap (t140 + 1)) (!((!(t133 == t135)) == t137)) t143 true _ A20.out).mono ?_); rintro e w' ⟨rfl, ⟨nd, rfl⟩⟩; refine ⟨_, rfl, ?_⟩))
                    go_ret2
                    exact ⟨by first | rfl | (simp; done) | (simp [*]; done), by repeat (first | exact Drawn0.refl _ | apply Drawn0.step)⟩
                  · replace c21 := Bool.eq_false_iff.mpr c21
                    subst c21
                    have H1 : (some (0, some 3)) = some (r1, r2) := by rw [if_neg (show ¬ (false = true) by decide)] at H; exact H
                    clear H
                    have H := H1
                    clear H1
                    simp only [Option.some.injEq, Prod.mk.injEq] at H
                    obtain ⟨rfl, rfl⟩ := H
                    go_wp2_with (first | ((with_reducible refine gate_callee (f := 51) rfl ?_); refine goesL_ (some 89) rfl rfl Try.func51 (by kernel_rfl) rfl #[.int .u64 (IntKind.u64.wrap (t140 + 1)), .bool (!((!(t133 == t135)) == t137))] rfl (by (try simp only [List.map_toArray, List.map_cons, List.map_nil]); first | done | rfl | (simp only [List.length_drop, List.length_take]; rfl)) ?_; (with_reducible refine (cents_signed.calls (IntKind.u64.wrap (t140 + 1)) (!((!(t133 == t135)) == t137)) t143 false _ A20.out).mono ?_); rintro e w' ⟨rfl, ⟨nd, rfl⟩⟩; refine ⟨_, rfl, ?_⟩))
                    go_ret2
                    exact ⟨by first | rfl | (simp; done) | (simp [*]; done), by repeat (first | exact Drawn0.refl _ | apply Drawn0.step)⟩
              · replace c18 := Bool.eq_false_iff.mpr c18
                subst c18
                have H1 : ((cents_signed.f t140 (!((!(t133 == t135)) == t137))).bind fun bt145 => (if bt145.2 = true then (some (bt145.1, none)) else (some (0, some 3)))) = some (r1, r2) := by rw [if_neg (show ¬ (false = true) by decide)] at H; exact H
                clear H
                have H := H1
                clear H1
                replace H := Option.bind_eq_some_iff.mp H
                obtain ⟨⟨t145, t146⟩, A220, H⟩ := H
                replace H : (if t146 = true then (some (t145, none)) else (some (0, some 3))) = some (r1, r2) := H
                have A22 := Aside0.mk A220
                clear A220
                by_cases c23 : t146 = true
                · subst c23
                  have H1 : (some (t145, none)) = some (r1, r2) := by rw [if_pos rfl] at H; exact H
                  clear H
                  have H := H1
                  clear H1
                  simp only [Option.some.injEq, Prod.mk.injEq] at H
                  obtain ⟨rfl, rfl⟩ := H
                  go_wp2_with (first | ((with_reducible refine gate_callee (f := 51) rfl ?_); refine goesL_ (some 89) rfl rfl Try.func51 (by kernel_rfl) rfl #[.int .u64 t140, .bool (!((!(t133 == t135)) == t137))] rfl (by (try simp only [List.map_toArray, List.map_cons, List.map_nil]); first | done | rfl | (simp only [List.length_drop, List.length_take]; rfl)) ?_; (with_reducible refine (cents_signed.calls t140 (!((!(t133 == t135)) == t137)) t145 true _ A22.out).mono ?_); rintro e w' ⟨rfl, ⟨nd, rfl⟩⟩; refine ⟨_, rfl, ?_⟩))
                  go_ret2
                  exact ⟨by first | rfl | (simp; done) | (simp [*]; done), by repeat (first | exact Drawn0.refl _ | apply Drawn0.step)⟩
                · replace c23 := Bool.eq_false_iff.mpr c23
                  subst c23
                  have H1 : (some (0, some 3)) = some (r1, r2) := by rw [if_neg (show ¬ (false = true) by decide)] at H; exact H
                  clear H
                  have H := H1
                  clear H1
                  simp only [Option.some.injEq, Prod.mk.injEq] at H
                  obtain ⟨rfl, rfl⟩ := H
                  go_wp2_with (first | ((with_reducible refine gate_callee (f := 51) rfl ?_); refine goesL_ (some 89) rfl rfl Try.func51 (by kernel_rfl) rfl #[.int .u64 t140, .bool (!((!(t133 == t135)) == t137))] rfl (by (try simp only [List.map_toArray, List.map_cons, List.map_nil]); first | done | rfl | (simp only [List.length_drop, List.length_take]; rfl)) ?_; (with_reducible refine (cents_signed.calls t140 (!((!(t133 == t135)) == t137)) t145 false _ A22.out).mono ?_); rintro e w' ⟨rfl, ⟨nd, rfl⟩⟩; refine ⟨_, rfl, ?_⟩))
                  go_ret2
                  exact ⟨by first | rfl | (simp; done) | (simp [*]; done), by repeat (first | exact Drawn0.refl _ | apply Drawn0.step)⟩

/-! ### cents_MulDiv_s: function 40, told plainly -/
theorem cents_MulDiv.size_tells (a : Int) (h : M.In a) : cents_size.f a = some (M.abs a, decide (a < 0)) := by
  unfold cents_size.f M.abs M.In at *
  by_cases h0 : a < 0
  · rw [if_pos h0, if_pos h0, decide_eq_true h0]
    congr 2
    simp only [M.wrapu]
    omega
  · rw [if_neg h0, if_neg h0, decide_eq_false h0]
    congr 2
    simp only [M.wrapu]
    omega
theorem cents_MulDiv.further_tells (q r c : Int) (minus : Bool) (mode : Int) (hm : 1 ≤ mode ∧ mode ≤ 4) (h0 : 0 ≤ q) (h1 : q < 18446744073709551616) (hr : 0 < r) (hrc : r < c) (hc : c < 18446744073709551616) :
    cents_further.f q r c minus mode = some (decide ((if minus = true then mode = 1 else mode = 2) ∨ mode = 3 ∧ 2 * r ≥ c ∨ mode = 4 ∧ (2 * r > c ∨ 2 * r = c ∧ q % 2 = 1))) := by
  unfold cents_further.f
  have hw : IntKind.u64.wrap (c - r) = c - r := M.wrapu_id (by omega) (by omega)
  rw [hw, M.and_one q h0 h1]
  have hm' : mode = 1 ∨ mode = 2 ∨ mode = 3 ∨ mode = 4 := by omega
  rcases hm' with rfl | rfl | rfl | rfl
  · cases minus <;> simp <;> omega
  · cases minus <;> simp <;> omega
  · by_cases g : r > c - r
    · have g2 : c ≤ 2 * r := by omega
      cases minus <;> simp [g, g2]
    · by_cases g' : r = c - r
      · have g2 : c ≤ 2 * r := by omega
        cases minus <;> simp [g, g2] <;> omega
      · have g2 : ¬ c ≤ 2 * r := by omega
        cases minus <;> simp [g, g', g2]
  · have h2 : 2 * r > c ↔ r > c - r := by omega
    have h3 : 2 * r = c ↔ r = c - r := by omega
    simp only [h2, h3]
    by_cases g : r > c - r
    · cases minus <;> simp [g]
    · by_cases g' : r = c - r
      · have e : ∀ z : Int, (z == 1) = decide (z = 1) := fun z => by by_cases h : z = 1 <;> simp [h]
        cases minus <;> simp [g, ← g', e]
      · cases minus <;> simp [g, g']
theorem cents_MulDiv.last (N c mode : Int) (minus : Bool) (hN : 0 ≤ N) (hc : 0 < c) (hc2 : c ≤ 9223372036854775808) (hm : 1 ≤ mode ∧ mode ≤ 4) (hq : N / c < 18446744073709551616) (n : Int) (hn : n = if minus = true then -N else N) (k : Nat) :
    (if N % c > 0 then (cents_further.f (N / c) (N % c) c minus mode).bind fun t => cents_MulDiv.j1 (k + 1) minus (N / c) t else cents_MulDiv.j1 (k + 1) minus (N / c) false) = some (M.told (M.quo n c mode)) := by
  have r0 := Int.emod_nonneg N (show c ≠ 0 by omega)
  have r1 := Int.emod_lt_of_pos N hc
  have hq0 : 0 ≤ N / c := Int.ediv_nonneg hN (by omega)
  have hs := M.quo_sized hN hc hm
  have key : ∀ (t : Bool) (v : Int), (v = if minus = true then -(N / c + (if t = true then 1 else 0)) else N / c + (if t = true then 1 else 0)) →
      cents_MulDiv.j1 (k + 1) minus (N / c) t = some (M.told v) := by
    intro t v hv
    simp only [cents_MulDiv.j1]
    generalize N / c = q at *
    unfold cents_signed.f
    cases t with
    | true =>
      simp only [if_true] at hv ⊢
      by_cases hz : IntKind.u64.wrap (q + 1) = 0
      · rw [if_pos hz, M.told_out]
        intro hin
        unfold M.In at hin
        rw [M.wrapu] at hz
        cases minus <;> simp at hv <;> omega
      · rw [if_neg hz]
        have hw : IntKind.u64.wrap (q + 1) = q + 1 := by rw [M.wrapu] at hz ⊢; omega
        rw [hw]
        cases minus with
        | true =>
          simp only [if_true] at hv ⊢
          rw [Option.bind_some]
          by_cases hle : q + 1 ≤ 9223372036854775808
          · rw [if_pos (decide_eq_true hle), M.told_in (show M.In v from ⟨by omega, by omega⟩)]
            refine congrArg some (Prod.ext ?_ rfl)
            simp only [M.wrapu]; unfold wrap64; omega
          · rw [if_neg (by simpa using hle), M.told_out (fun hin => by unfold M.In at hin; omega)]
        | false =>
          simp only [Bool.false_eq_true, if_false] at hv ⊢
          rw [Option.bind_some]
          by_cases hle : q + 1 < 9223372036854775808
          · rw [if_pos (decide_eq_true hle), M.told_in (show M.In v from ⟨by omega, by omega⟩)]
            refine congrArg some (Prod.ext ?_ rfl)
            simp only []; unfold wrap64; omega
          · rw [if_neg (by simpa using hle), M.told_out (fun hin => by unfold M.In at hin; omega)]
    | false =>
      simp only [Bool.false_eq_true, if_false] at hv ⊢
      cases minus with
      | true =>
        simp only [if_true] at hv ⊢
        rw [Option.bind_some]
        by_cases hle : q ≤ 9223372036854775808
        · rw [if_pos (decide_eq_true hle), M.told_in (show M.In v from ⟨by omega, by omega⟩)]
          refine congrArg some (Prod.ext ?_ rfl)
          simp only [M.wrapu]; unfold wrap64; omega
        · rw [if_neg (by simpa using hle), M.told_out (fun hin => by unfold M.In at hin; omega)]
      | false =>
        simp only [Bool.false_eq_true, if_false] at hv ⊢
        rw [Option.bind_some]
        by_cases hle : q < 9223372036854775808
        · rw [if_pos (decide_eq_true hle), M.told_in (show M.In v from ⟨by omega, by omega⟩)]
          refine congrArg some (Prod.ext ?_ rfl)
          simp only []; unfold wrap64; omega
        · rw [if_neg (by simpa using hle), M.told_out (fun hin => by unfold M.In at hin; omega)]
  by_cases hr : N % c > 0
  · rw [if_pos hr, cents_MulDiv.further_tells _ _ _ _ _ hm hq0 hq hr r1 (by omega), Option.bind_some]
    apply key
    subst hn
    cases minus with
    | true =>
      simp only [if_true]
      rw [hs.2]
      congr 2
      simp only [hr, true_and, decide_eq_true_eq]
    | false =>
      simp only [Bool.false_eq_true, if_false]
      rw [hs.1]
      congr 2
      simp only [hr, true_and, decide_eq_true_eq]
  · rw [if_neg hr]
    apply key
    subst hn
    cases minus with
    | true => simp only [if_true]; rw [hs.2]; simp [hr]
    | false => simp only [Bool.false_eq_true, if_false]; rw [hs.1]; simp [hr]
theorem cents_MulDiv.quo_over {N c mode : Int} (hN : 0 ≤ N) (hc : 0 < c) (hm : 1 ≤ mode ∧ mode ≤ 4) (hq : 18446744073709551616 ≤ N / c) : ¬ M.In (M.quo N c mode) ∧ ¬ M.In (M.quo (-N) c mode) := by
  have hs := M.quo_sized hN hc hm
  rw [hs.1, hs.2]
  unfold M.In
  constructor <;> split <;> omega
theorem cents_MulDiv.quo_neg (n c mode : Int) (hc : c < 0) : M.quo n c mode = M.quo (-n) (-c) mode := by
  unfold M.quo
  simp only [if_pos hc, if_neg (show ¬ -c < 0 by omega)]
theorem cents_MulDiv.abs_mul (a b : Int) : a * b = if (decide (a < 0) == decide (b < 0)) = true then M.abs a * M.abs b else -(M.abs a * M.abs b) := by
  unfold M.abs
  by_cases ha : a < 0 <;> by_cases hb : b < 0 <;> simp [ha, hb, Int.neg_mul, Int.mul_neg]
theorem cents_MulDiv.tells (a b c mode : Int) (ha : M.In a) (hb : M.In b) (hc : M.In c) (k : Nat) (hk : 4 ≤ k) :
    cents_MulDiv.f k a b c mode = some (if c = 0 ∨ mode < 1 ∨ mode > 4 then (0, some 1) else M.told (M.quo (a * b) c mode)) := by
  obtain ⟨k, rfl⟩ : ∃ m, k = m + 2 := ⟨k - 2, by omega⟩
  unfold cents_MulDiv.f
  by_cases hc0 : c = 0
  · rw [if_pos hc0, if_pos (.inl hc0)]
    simp [cents_MulDiv.j0]
  rw [if_neg hc0]
  by_cases hm1 : mode < 1
  · rw [if_pos hm1, if_pos (.inr (.inl hm1))]
    simp [cents_MulDiv.j0]
  rw [if_neg hm1]
  by_cases hm4 : mode > 4
  · rw [decide_eq_true hm4, if_pos (.inr (.inr hm4))]
    simp [cents_MulDiv.j0]
  rw [decide_eq_false hm4, if_neg (by omega)]
  have hm : 1 ≤ mode ∧ mode ≤ 4 := by omega
  simp only [cents_MulDiv.j0]
  rw [if_neg (by decide), cents_MulDiv.size_tells a ha, cents_MulDiv.size_tells b hb, cents_MulDiv.size_tells c hc]
  simp only [Option.bind_some]
  have ba : 0 ≤ M.abs a ∧ M.abs a ≤ 9223372036854775808 := by unfold M.abs M.In at *; split <;> omega
  have bb : 0 ≤ M.abs b ∧ M.abs b ≤ 9223372036854775808 := by unfold M.abs M.In at *; split <;> omega
  have bc : 0 < M.abs c ∧ M.abs c ≤ 9223372036854775808 := by unfold M.abs M.In at *; split <;> omega
  have hN : 0 ≤ M.abs a * M.abs b := Int.mul_nonneg ba.1 bb.1
  unfold bits_Mul64_s.f
  rw [if_pos ⟨ba.1, by omega, bb.1, by omega⟩]
  simp only [Option.bind_some]
  have hcq : M.quo (a * b) c mode = M.quo (if (!((!(decide (a < 0) == decide (b < 0))) == decide (c < 0))) = true then -(M.abs a * M.abs b) else M.abs a * M.abs b) (M.abs c) mode := by
    rw [cents_MulDiv.abs_mul a b]
    by_cases h : c < 0
    · rw [cents_MulDiv.quo_neg _ _ _ h]
      have : M.abs c = -c := by unfold M.abs; rw [if_pos h]
      rw [this, decide_eq_true h]
      cases hd : (decide (a < 0) == decide (b < 0)) <;> simp
    · have : M.abs c = c := by unfold M.abs; rw [if_neg h]
      rw [this, decide_eq_false h]
      cases hd : (decide (a < 0) == decide (b < 0)) <;> simp
  rw [hcq]
  generalize (!((!(decide (a < 0) == decide (b < 0))) == decide (c < 0))) = minus at *
  generalize M.abs a * M.abs b = N at *
  generalize M.abs c = z at *
  by_cases hov : N / 18446744073709551616 ≥ z
  · rw [if_pos hov, M.told_out]
    have hq : 18446744073709551616 ≤ N / z := by
      apply M.le_div bc.1
      rw [Int.mul_comm]
      omega
    have := cents_MulDiv.quo_over hN bc.1 hm hq
    cases minus
    · exact this.1
    · exact this.2
  · rw [if_neg hov]
    unfold bits_Div64_s.f
    rw [if_pos ⟨by omega, by omega, by omega, by omega, by omega⟩]
    simp only [Option.bind_some]
    have e : N / 18446744073709551616 * 18446744073709551616 + N % 18446744073709551616 = N := by omega
    rw [e]
    refine cents_MulDiv.last N z mode minus hN bc.1 bc.2 hm ?_ _ rfl k
    apply M.div_lt bc.1
    rw [Int.mul_comm]
    omega
def cents_MulDiv_s.f (a b c mode : Int) : Option (Int × Option Int) :=
  if M.In a ∧ M.In b ∧ M.In c then some (if c = 0 ∨ mode < 1 ∨ mode > 4 then (0, some 1) else M.told (M.quo (a * b) c mode)) else none
theorem cents_MulDiv_s.calls (a0 : Int) (a1 : Int) (a2 : Int) (a3 : Int) (r1 : Int) (r2 : Option Int) (w : World) (h : cents_MulDiv_s.f a0 a1 a2 a3 = some (r1, r2)) :
    Calls Try.prog 40 #[.int .i64 a0, .int .i64 a1, .int .i64 a2, .int .i64 a3] w fun e w' => e = .returned (.tuple #[.int .i64 r1, errW r2]) ∧ Drawn0 w w' := by
  unfold cents_MulDiv_s.f at h
  split at h
  · rename_i hr
    exact cents_MulDiv.calls 4 a0 a1 a2 a3 r1 r2 w ((cents_MulDiv.tells a0 a1 a2 a3 hr.1 hr.2.1 hr.2.2 4 (Nat.le_refl _)).trans h)
  · cases h
theorem cents_MulDiv_s.at_ {a b c mode : Int} (ha : M.In a) (hb : M.In b) (hc : M.In c) : cents_MulDiv_s.f a b c mode = some (if c = 0 ∨ mode < 1 ∨ mode > 4 then (0, some 1) else M.told (M.quo (a * b) c mode)) := by unfold cents_MulDiv_s.f; rw [if_pos ⟨ha, hb, hc⟩]

/-! ### rate_Month: function 30 -/
def rate_Month.f (a0 : Int) (a1 : Int) : Option (Int × Option Int) := (rate_may.f a0 a1).bind fun t147 => (if t147 = true then ((cents_MulDiv_s.f a0 a1 12000000 4).bind fun bt148 => (some (bt148.1, bt148.2))) else (some (0, some 1)))
set_option maxHeartbeats 8000000 in
set_option maxRecDepth 100000 in
theorem rate_Month.calls (a0 : Int) (a1 : Int) (r1 : Int) (r2 : Option Int) (w : World) (h : rate_Month.f a0 a1 = some (r1, r2)) :
    Calls Try.prog 30 #[.int .i64 a0, .int .i64 a1] w fun e w' => e = .returned (.tuple #[.int .i64 r1, errW r2]) ∧ Drawn0 w w' := by
  have hu26 := Try.underlying26
  have hu31 := Try.underlying31
  have H : ((rate_may.f a0 a1).bind fun t147 => (if t147 = true then ((cents_MulDiv_s.f a0 a1 12000000 4).bind fun bt148 => (some (bt148.1, bt148.2))) else (some (0, some 1)))) = some (r1, r2) := h
  clear h
  replace H := Option.bind_eq_some_iff.mp H
  obtain ⟨t147, A30, H⟩ := H
  replace H : (if t147 = true then ((cents_MulDiv_s.f a0 a1 12000000 4).bind fun bt148 => (some (bt148.1, bt148.2))) else (some (0, some 1))) = some (r1, r2) := H
  have A3 := Aside0.mk A30
  clear A30
  by_cases c4 : t147 = true
  · subst c4
    have H1 : ((cents_MulDiv_s.f a0 a1 12000000 4).bind fun bt148 => (some (bt148.1, bt148.2))) = some (r1, r2) := by rw [if_pos rfl] at H; exact H
    clear H
    have H := H1
    clear H1
    replace H := Option.bind_eq_some_iff.mp H
    obtain ⟨⟨t148, t149⟩, A50, H⟩ := H
    replace H : (some (t148, t149)) = some (r1, r2) := H
    have A5 := Aside0.mk A50
    clear A50
    simp only [Option.some.injEq, Prod.mk.injEq] at H
    obtain ⟨rfl, rfl⟩ := H
    go_enter Try.func30, Try.ntmps30
    go_wp2_with (first | ((with_reducible refine gate_callee (f := 29) rfl ?_); refine goesL_ (some 8) rfl rfl Try.func29 (by kernel_rfl) rfl #[.int .i64 a0, .int .i64 a1] rfl (by (try simp only [List.map_toArray, List.map_cons, List.map_nil]); first | done | rfl | (simp only [List.length_drop, List.length_take]; rfl)) ?_; (with_reducible refine (rate_may.calls a0 a1 true _ A3.out).mono ?_); rintro e w' ⟨rfl, ⟨nd, rfl⟩⟩; refine ⟨_, rfl, ?_⟩) | ((with_reducible refine gate_callee (f := 40) rfl ?_); refine goesL_ (some 13) rfl rfl Try.func40 (by kernel_rfl) rfl #[.int .i64 a0, .int .i64 a1, .int .i64 12000000, .int .i64 4] rfl (by (try simp only [List.map_toArray, List.map_cons, List.map_nil]); first | done | rfl | (simp only [List.length_drop, List.length_take]; rfl)) ?_; (with_reducible refine (cents_MulDiv_s.calls a0 a1 12000000 4 t148 t149 _ A5.out).mono ?_); rintro e w' ⟨rfl, ⟨nd, rfl⟩⟩; refine ⟨_, rfl, ?_⟩; (try simp only [errW_none, errW_some])))
    go_ret2
    exact ⟨by first | rfl | (simp; done) | (simp [*]; done), by repeat (first | exact Drawn0.refl _ | apply Drawn0.step)⟩
  · replace c4 := Bool.eq_false_iff.mpr c4
    subst c4
    have H1 : (some (0, some 1)) = some (r1, r2) := by rw [if_neg (show ¬ (false = true) by decide)] at H; exact H
    clear H
    have H := H1
    clear H1
    simp only [Option.some.injEq, Prod.mk.injEq] at H
    obtain ⟨rfl, rfl⟩ := H
    go_enter Try.func30, Try.ntmps30
    go_wp2_with (first | ((with_reducible refine gate_callee (f := 29) rfl ?_); refine goesL_ (some 8) rfl rfl Try.func29 (by kernel_rfl) rfl #[.int .i64 a0, .int .i64 a1] rfl (by (try simp only [List.map_toArray, List.map_cons, List.map_nil]); first | done | rfl | (simp only [List.length_drop, List.length_take]; rfl)) ?_; (with_reducible refine (rate_may.calls a0 a1 false _ A3.out).mono ?_); rintro e w' ⟨rfl, ⟨nd, rfl⟩⟩; refine ⟨_, rfl, ?_⟩))
    go_ret2
    exact ⟨by first | rfl | (simp; done) | (simp [*]; done), by repeat (first | exact Drawn0.refl _ | apply Drawn0.step)⟩

/-! ### rate_Month_s: function 30, told plainly -/
theorem rate_Month.tells (b r : Int) : rate_Month.f b r = some (if M.may b r then (M.month b r, none) else (0, some 1)) := by
  have hm : rate_may.f b r = some (decide (M.may b r)) := by
    unfold rate_may.f M.may
    by_cases h1 : 0 ≤ b <;> by_cases h2 : b ≤ 10000000000000 <;> by_cases h3 : 0 ≤ r <;> simp [h1, h2, h3]
  unfold rate_Month.f
  rw [hm, Option.bind_some]
  by_cases h : M.may b r
  · have hp := M.prod_bd h
    have h0 := M.month_nonneg h
    have h1 := M.month_le h
    have hi : M.In (M.quo (b * r) 12000000 4) := by
      show M.In (M.month b r)
      unfold M.may at h
      unfold M.In
      omega
    have h' := h
    unfold M.may at h'
    rw [if_pos (decide_eq_true h), if_pos h, cents_MulDiv_s.at_ (by unfold M.In; omega) (by unfold M.In; omega) (by decide), Option.bind_some, if_neg (by decide), M.told_in hi]
    rfl
  · rw [if_neg (by simpa using h), if_neg h]
def rate_Month_s.f (b r : Int) : Option (Int × Option Int) := some (if M.may b r then (M.month b r, none) else (0, some 1))
theorem rate_Month_s.calls (a0 : Int) (a1 : Int) (r1 : Int) (r2 : Option Int) (w : World) (h : rate_Month_s.f a0 a1 = some (r1, r2)) :
    Calls Try.prog 30 #[.int .i64 a0, .int .i64 a1] w fun e w' => e = .returned (.tuple #[.int .i64 r1, errW r2]) ∧ Drawn0 w w' :=
  rate_Month.calls a0 a1 r1 r2 w ((rate_Month.tells a0 a1).trans h)
theorem rate_Month_s.yes {b r : Int} (h : M.may b r) : rate_Month_s.f b r = some (M.month b r, none) := by unfold rate_Month_s.f; rw [if_pos h]
theorem rate_Month_s.no {b r : Int} (h : ¬ M.may b r) : rate_Month_s.f b r = some (0, some 1) := by unfold rate_Month_s.f; rw [if_neg h]

/-! ### rate_Next: function 20 -/
def rate_Next.j0 : Nat → Int → Int → Int → Bool → Option (Int × Int × Option Int)
  | 0, _, _, _, _ => none
  | k + 1, x0, x1, x2, x19 => if x19 = true then (some (0, 0, some 1)) else ((rate_Month_s.f x0 x1).bind fun bt151 => (if bt151.2.isNone = true then (if (wrap64 ((wrap64 (x0 + bt151.1)) - (mn x2 (wrap64 (x0 + bt151.1))))) > 10000000000000 then (some (0, 0, some 3)) else (some (wrap64 ((wrap64 (x0 + bt151.1)) - (mn x2 (wrap64 (x0 + bt151.1)))), bt151.1, none))) else (some (0, 0, some (bt151.2.getD 0)))))
def rate_Next.f (k : Nat) (a0 : Int) (a1 : Int) (a2 : Int) : Option (Int × Int × Option Int) := (rate_may.f a0 a1).bind fun t150 => (if t150 = true then (rate_Next.j0 k a0 a1 a2 (decide (a2 < 0))) else (rate_Next.j0 k a0 a1 a2 true))
theorem rate_Next.mono_l : ∀ k, (∀ y0 y1 y2 y3, LeO (rate_Next.j0 k y0 y1 y2 y3) (rate_Next.j0 (k + 1) y0 y1 y2 y3))
  | 0 => fun _ _ _ _ r h => by simp [rate_Next.j0] at h
  | k + 1 => by
    have ih0 := rate_Next.mono_l k
    · intro y0 y1 y2 y3
      unfold rate_Next.j0
      repeat' first
      | (with_reducible exact ih0 _ _ _ _)
      | (with_reducible exact LeO.refl _)
      | (with_reducible exact LeO.none _)
      | (with_reducible refine LeO.ite ?_ ?_)
      | (with_reducible refine LeO.bind ?_ (fun _ => ?_))
      | exact ih0 _ _ _ _
      | exact LeO.none _
      | refine LeO.ite ?_ ?_
      | refine LeO.bind ?_ (fun _ => ?_)
theorem rate_Next.mono : ∀ a0 a1 a2 k, LeO (rate_Next.f k a0 a1 a2) (rate_Next.f (k + 1) a0 a1 a2) := by
  intro a0 a1 a2 k
  have ih0 := rate_Next.mono_l k
  unfold rate_Next.f
  repeat' first
      | (with_reducible exact ih0 _ _ _ _)
      | (with_reducible exact LeO.refl _)
      | (with_reducible exact LeO.none _)
      | (with_reducible refine LeO.ite ?_ ?_)
      | (with_reducible refine LeO.bind ?_ (fun _ => ?_))
      | exact ih0 _ _ _ _
      | exact LeO.none _
      | refine LeO.ite ?_ ?_
      | refine LeO.bind ?_ (fun _ => ?_)
set_option maxHeartbeats 8000000 in
set_option maxRecDepth 100000 in
theorem rate_Next.calls (k : Nat) (a0 : Int) (a1 : Int) (a2 : Int) (r1 : Int) (r2 : Int) (r3 : Option Int) (w : World) (h : rate_Next.f k a0 a1 a2 = some (r1, r2, r3)) :
    Calls Try.prog 20 #[.int .i64 a0, .int .i64 a1, .int .i64 a2] w fun e w' => e = .returned (.tuple #[.int .i64 r1, .int .i64 r2, errW r3]) ∧ Below w.heap.size w w' := by
  have hu26 := Try.underlying26
  have hu31 := Try.underlying31
  have HB := Aside0.mk (Below.refl w.heap.size w)
  have H : ((rate_may.f a0 a1).bind fun t150 => (if t150 = true then (rate_Next.j0 k a0 a1 a2 (decide (a2 < 0))) else (rate_Next.j0 k a0 a1 a2 true))) = some (r1, r2, r3) := h
  clear h
  have HC4 := Aside0.mk H
  clear H
  go_enter Try.func20, Try.ntmps20
  go_upto_region 1 with (fail)
  go_cut [19] (fun v19 wc => ∃ (kq : Nat) (x19_3 : Bool), v19 = .bool x19_3 ∧ Aside0 (rate_Next.j0 kq a0 a1 a2 x19_3 = some (r1, r2, r3)) ∧ Aside0 (kq ≤ k) ∧ Aside0 (Below w.heap.size w wc))
  case first =>
    have H := HC4.out
    clear HC4
    replace H := Option.bind_eq_some_iff.mp H
    obtain ⟨t150, A50, H⟩ := H
    replace H : (if t150 = true then (rate_Next.j0 k a0 a1 a2 (decide (a2 < 0))) else (rate_Next.j0 k a0 a1 a2 true)) = some (r1, r2, r3) := H
    have A5 := Aside0.mk A50
    clear A50
    by_cases c6 : t150 = true
    · subst c6
      have H1 : (rate_Next.j0 k a0 a1 a2 (decide (a2 < 0))) = some (r1, r2, r3) := by rw [if_pos rfl] at H; exact H
      clear H
      have H := H1
      clear H1
      have H' := Aside0.mk H
      clear H
      go_wp2_with (first | ((with_reducible refine gate_callee (f := 29) rfl ?_); refine goesL_ (some 14) rfl rfl Try.func29 (by kernel_rfl) rfl #[.int .i64 a0, .int .i64 a1] rfl (by (try simp only [List.map_toArray, List.map_cons, List.map_nil]); first | done | rfl | (simp only [List.length_drop, List.length_take]; rfl)) ?_; (with_reducible refine (rate_may.calls a0 a1 true _ A5.out).mono ?_); rintro e w' ⟨rfl, ⟨nd, rfl⟩⟩; refine ⟨_, rfl, ?_⟩))
      go_meet
      case rel => exact ⟨_, (decide (a2 < 0)), (by first | rfl | (simp; done) | (simp [*]; done)), H', ⟨by first | omega | exact Nat.le_refl _⟩, ⟨by repeat (first | (with_reducible first | exact HB.out | apply below_alloc | apply pw_below_drewN | apply below_drew1) | exact HB.out)⟩⟩
    · replace c6 := Bool.eq_false_iff.mpr c6
      subst c6
      have H1 : (rate_Next.j0 k a0 a1 a2 true) = some (r1, r2, r3) := by rw [if_neg (show ¬ (false = true) by decide)] at H; exact H
      clear H
      have H := H1
      clear H1
      have H' := Aside0.mk H
      clear H
      go_wp2_with (first | ((with_reducible refine gate_callee (f := 29) rfl ?_); refine goesL_ (some 14) rfl rfl Try.func29 (by kernel_rfl) rfl #[.int .i64 a0, .int .i64 a1] rfl (by (try simp only [List.map_toArray, List.map_cons, List.map_nil]); first | done | rfl | (simp only [List.length_drop, List.length_take]; rfl)) ?_; (with_reducible refine (rate_may.calls a0 a1 false _ A5.out).mono ?_); rintro e w' ⟨rfl, ⟨nd, rfl⟩⟩; refine ⟨_, rfl, ?_⟩))
      go_meet
      case rel => exact ⟨_, (true), (by first | rfl | (simp; done) | (simp [*]; done)), H', ⟨by first | omega | exact Nat.le_refl _⟩, ⟨by repeat (first | (with_reducible first | exact HB.out | apply below_alloc | apply pw_below_drewN | apply below_drew1) | exact HB.out)⟩⟩
  case rest =>
    clear HC4
    try clear c2
    try clear p2
    try clear c6
    obtain ⟨kq, x19_3, rfl, HA, HJ3, HB⟩ := hcut
    cases kq with
    | zero => exact absurd HA.out (by simp [rate_Next.j0])
    | succ kj3 =>
      have H := HA.out
      clear HA
      simp only [rate_Next.j0] at H
      by_cases c7 : x19_3 = true
      · subst c7
        have H1 : (some (0, 0, some 1)) = some (r1, r2, r3) := by rw [if_pos rfl] at H; exact H
        clear H
        have H := H1
        clear H1
        simp only [Option.some.injEq, Prod.mk.injEq] at H
        obtain ⟨rfl, rfl, rfl⟩ := H
        go_wp2
        go_ret3
        exact ⟨by first | rfl | (simp [errW_none, errW_some] <;> rfl) | (simp [*, errW_none, errW_some] <;> rfl), by repeat (first | (with_reducible first | exact HB.out | apply below_alloc | apply pw_below_drewN | apply below_drew1) | exact HB.out)⟩
      · replace c7 := Bool.eq_false_iff.mpr c7
        subst c7
        have H1 : ((rate_Month_s.f a0 a1).bind fun bt151 => (if bt151.2.isNone = true then (if (wrap64 ((wrap64 (a0 + bt151.1)) - (mn a2 (wrap64 (a0 + bt151.1))))) > 10000000000000 then (some (0, 0, some 3)) else (some (wrap64 ((wrap64 (a0 + bt151.1)) - (mn a2 (wrap64 (a0 + bt151.1)))), bt151.1, none))) else (some (0, 0, some (bt151.2.getD 0))))) = some (r1, r2, r3) := by rw [if_neg (show ¬ (false = true) by decide)] at H; exact H
        clear H
        have H := H1
        clear H1
        replace H := Option.bind_eq_some_iff.mp H
        obtain ⟨⟨t151, t152⟩, A80, H⟩ := H
        replace H : (if t152.isNone = true then (if (wrap64 ((wrap64 (a0 + t151)) - (mn a2 (wrap64 (a0 + t151))))) > 10000000000000 then (some (0, 0, some 3)) else (some (wrap64 ((wrap64 (a0 + t151)) - (mn a2 (wrap64 (a0 + t151)))), t151, none))) else (some (0, 0, some (t152.getD 0)))) = some (r1, r2, r3) := H
        have A8 := Aside0.mk A80
        clear A80
        rcases t152 with _ | q153
        · have H1 : (if (wrap64 ((wrap64 (a0 + t151)) - (mn a2 (wrap64 (a0 + t151))))) > 10000000000000 then (some (0, 0, some 3)) else (some (wrap64 ((wrap64 (a0 + t151)) - (mn a2 (wrap64 (a0 + t151)))), t151, none))) = some (r1, r2, r3) := by rw [if_pos (show (none : Option Int).isNone = true by rfl)] at H; exact H
          clear H
          have H := H1
          clear H1
          try simp only [errW_none, errW_some]
          obtain ⟨ji9, hji9⟩ : ∃ j_ : Int, (mn a2 (wrap64 (a0 + t151))) = j_ := ⟨_, rfl⟩
          replace H : (if (wrap64 ((wrap64 (a0 + t151)) - (ji9))) > 10000000000000 then (some (0, 0, some 3)) else (some (wrap64 ((wrap64 (a0 + t151)) - (ji9)), t151, none))) = some (r1, r2, r3) := by first | (rw [hji9] at H; exact H) | (simp only [hji9] at H ⊢; exact H)
          (try rw [hji9] at A8)
          have hji9_ : (if (wrap64 (a0 + t151)) < a2 then (wrap64 (a0 + t151)) else a2) = ji9 := hji9
          by_cases c10 : (wrap64 ((wrap64 (a0 + t151)) - (ji9))) > 10000000000000
          · rw [if_pos c10] at H
            have c10b0 : decide (10000000000000 < (wrap64 ((wrap64 (a0 + t151)) - (ji9)))) = true := decide_eq_true c10
            clear c10
            simp only [Option.some.injEq, Prod.mk.injEq] at H
            obtain ⟨rfl, rfl, rfl⟩ := H
            go_wp2_with (first | ((with_reducible refine gate_callee (f := 30) rfl ?_); refine goesL_ (some 24) rfl rfl Try.func30 (by kernel_rfl) rfl #[.int .i64 a0, .int .i64 a1] rfl (by (try simp only [List.map_toArray, List.map_cons, List.map_nil]); first | done | rfl | (simp only [List.length_drop, List.length_take]; rfl)) ?_; (with_reducible refine (rate_Month_s.calls a0 a1 t151 none _ A8.out).mono ?_); rintro e w' ⟨rfl, ⟨nd, rfl⟩⟩; refine ⟨_, rfl, ?_⟩; (try simp only [errW_none, errW_some])))
            go_ret3
            exact ⟨by first | rfl | (simp [errW_none, errW_some] <;> rfl) | (simp only [← hji9]; first | rfl | (simp [errW_none, errW_some] <;> rfl)) | (simp [*, errW_none, errW_some] <;> rfl), by repeat (first | (with_reducible first | exact HB.out | apply below_alloc | apply pw_below_drewN | apply below_drew1) | exact HB.out)⟩
          · rw [if_neg c10] at H
            have c10b0 : decide (10000000000000 < (wrap64 ((wrap64 (a0 + t151)) - (ji9)))) = false := decide_eq_false c10
            clear c10
            simp only [Option.some.injEq, Prod.mk.injEq] at H
            obtain ⟨rfl, rfl, rfl⟩ := H
            go_wp2_with (first | ((with_reducible refine gate_callee (f := 30) rfl ?_); refine goesL_ (some 24) rfl rfl Try.func30 (by kernel_rfl) rfl #[.int .i64 a0, .int .i64 a1] rfl (by (try simp only [List.map_toArray, List.map_cons, List.map_nil]); first | done | rfl | (simp only [List.length_drop, List.length_take]; rfl)) ?_; (with_reducible refine (rate_Month_s.calls a0 a1 t151 none _ A8.out).mono ?_); rintro e w' ⟨rfl, ⟨nd, rfl⟩⟩; refine ⟨_, rfl, ?_⟩; (try simp only [errW_none, errW_some])))
            go_ret3
            exact ⟨by first | rfl | (simp [errW_none, errW_some] <;> rfl) | (simp only [← hji9]; first | rfl | (simp [errW_none, errW_some] <;> rfl)) | (simp [*, errW_none, errW_some] <;> rfl), by repeat (first | (with_reducible first | exact HB.out | apply below_alloc | apply pw_below_drewN | apply below_drew1) | exact HB.out)⟩
        · have H1 : (some (0, 0, some q153)) = some (r1, r2, r3) := by rw [if_neg (show ¬ (some q153).isNone = true by simp)] at H; exact H
          clear H
          have H := H1
          clear H1
          try simp only [errW_none, errW_some]
          simp only [Option.some.injEq, Prod.mk.injEq] at H
          obtain ⟨rfl, rfl, rfl⟩ := H
          go_wp2_with (first | ((with_reducible refine gate_callee (f := 30) rfl ?_); refine goesL_ (some 24) rfl rfl Try.func30 (by kernel_rfl) rfl #[.int .i64 a0, .int .i64 a1] rfl (by (try simp only [List.map_toArray, List.map_cons, List.map_nil]); first | done | rfl | (simp only [List.length_drop, List.length_take]; rfl)) ?_; (with_reducible refine (rate_Month_s.calls a0 a1 t151 (some q153) _ A8.out).mono ?_); rintro e w' ⟨rfl, ⟨nd, rfl⟩⟩; refine ⟨_, rfl, ?_⟩; (try simp only [errW_none, errW_some])))
          go_ret3
          exact ⟨by first | rfl | (simp [errW_none, errW_some] <;> rfl) | (simp [*, errW_none, errW_some] <;> rfl), by repeat (first | (with_reducible first | exact HB.out | apply below_alloc | apply pw_below_drewN | apply below_drew1) | exact HB.out)⟩

end Go.Proofs.Ytinpdbimbnhpoaa.P
