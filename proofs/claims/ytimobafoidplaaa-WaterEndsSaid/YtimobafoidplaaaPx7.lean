-- Written by a program of this session out of the translation of the seat: Lean functions and the proofs that the Go functions come to them.
import Derived.Test.YtimobafoidplaaaPx0
import Derived.Test.YtimobafoidplaaaPx2
import Derived.Test.YtimobafoidplaaaPx5
import Derived.Test.YtimobafoidplaaaPx6
namespace Go.Proofs.Ytimobafoidplaaa.P
open Go.RowKit Go.Proofs.YtimobafoidplaaaW.PrintWords Go.Proofs.YtimobafoidplaaaW.PrintLast Go.Proofs.YtimobafoidplaaaW.PrintMore
attribute [local go_sem] max2_int min2_int max_two min_two max_three min_three max_four min_four   -- for this text's walks alone
set_option linter.unusedVariables false
set_option linter.unusedSimpArgs false

/-! ### cents_further: function 53 -/
def cents_further.f (a0 : Int) (a1 : Int) (a2 : Int) (a3 : Bool) (a4 : Int) : Option (Bool) := if a4 = 1 then (if a3 = true then (some (decide (a1 > 0))) else (some false)) else (if a4 = 2 then (if a3 = true then (some false) else (some (decide (a1 > 0)))) else (if a4 = 3 then (if a1 > (IntKind.u64.wrap (a2 - a1)) then (some true) else (some (a1 == (IntKind.u64.wrap (a2 - a1))))) else (if a1 > (IntKind.u64.wrap (a2 - a1)) then (some true) else (if a1 = (IntKind.u64.wrap (a2 - a1)) then (some ((Go.bits .and .u64 a0 1) == 1)) else (some false)))))
set_option maxHeartbeats 8000000 in
set_option maxRecDepth 100000 in
theorem cents_further.calls (a0 : Int) (a1 : Int) (a2 : Int) (a3 : Bool) (a4 : Int) (r : Bool) (w : World) (h : cents_further.f a0 a1 a2 a3 a4 = some r) :
  Calls Try.prog 53 #[.int .u64 a0, .int .u64 a1, .int .u64 a2, .bool a3, .int .i64 a4] w fun e w' => e = .returned (.bool r) ∧ Drawn0 w w' := by
 have H : (if a4 = 1 then (if a3 = true then (some (decide (a1 > 0))) else (some false)) else (if a4 = 2 then (if a3 = true then (some false) else (some (decide (a1 > 0)))) else (if a4 = 3 then (if a1 > (IntKind.u64.wrap (a2 - a1)) then (some true) else (some (a1 == (IntKind.u64.wrap (a2 - a1))))) else (if a1 > (IntKind.u64.wrap (a2 - a1)) then (some true) else (if a1 = (IntKind.u64.wrap (a2 - a1)) then (some ((Go.bits .and .u64 a0 1) == 1)) else (some false)))))) = some r := h
 clear h
 by_cases c6 : a4 = 1
 ·rw [if_pos c6] at H
  have c6b0 : (a4 == 1) = true := beq_iff_eq.mpr c6
  have c6b1 : (a4 != 1) = false := bne_eq_false_iff_eq.mpr c6
  clear c6
  by_cases c7 : a3 = true
  ·subst c7
   have H1 : (some (decide (a1 > 0))) = some r := by rw [if_pos rfl] at H; exact H
   clear H
   have H := H1
   clear H1
   obtain rfl := Option.some.inj H
   go_enter Try.func53, Try.ntmps53
   go_wp2
   go_ret
   exact ⟨by first | rfl | (simp; done) | (simp [*]; done), by repeat (first | exact Drawn0.refl _ | apply Drawn0.step)⟩
  ·replace c7 := Bool.eq_false_iff.mpr c7
   subst c7
   have H1 : (some false) = some r := by rw [if_neg (show ¬ (false = true) by decide)] at H; exact H
   clear H
   have H := H1
   clear H1
   obtain rfl := Option.some.inj H
   go_enter Try.func53, Try.ntmps53
   go_wp2
   go_ret
   exact ⟨by first | rfl | (simp; done) | (simp [*]; done), by repeat (first | exact Drawn0.refl _ | apply Drawn0.step)⟩
 ·rw [if_neg c6] at H
  have c6b0 : (a4 == 1) = false := beq_eq_false_iff_ne.mpr c6
  have c6b1 : (a4 != 1) = true := bne_iff_ne.mpr c6
  by_cases c8 : a4 = 2
  ·rw [if_pos c8] at H
   have c8b0 : (a4 == 2) = true := beq_iff_eq.mpr c8
   have c8b1 : (a4 != 2) = false := bne_eq_false_iff_eq.mpr c8
   clear c8
   by_cases c9 : a3 = true
   ·subst c9
    have H1 : (some false) = some r := by rw [if_pos rfl] at H; exact H
    clear H
    have H := H1
    clear H1
    obtain rfl := Option.some.inj H
    go_enter Try.func53, Try.ntmps53
    go_wp2
    go_ret
    exact ⟨by first | rfl | (simp; done) | (simp [*]; done), by repeat (first | exact Drawn0.refl _ | apply Drawn0.step)⟩
   ·replace c9 := Bool.eq_false_iff.mpr c9
    subst c9
    have H1 : (some (decide (a1 > 0))) = some r := by rw [if_neg (show ¬ (false = true) by decide)] at H; exact H
    clear H
    have H := H1
    clear H1
    obtain rfl := Option.some.inj H
    go_enter Try.func53, Try.ntmps53
    go_wp2
    go_ret
    exact ⟨by first | rfl | (simp; done) | (simp [*]; done), by repeat (first | exact Drawn0.refl _ | apply Drawn0.step)⟩
  ·rw [if_neg c8] at H
   have c8b0 : (a4 == 2) = false := beq_eq_false_iff_ne.mpr c8
   have c8b1 : (a4 != 2) = true := bne_iff_ne.mpr c8
   by_cases c10 : a4 = 3
   ·rw [if_pos c10] at H
    have c10b0 : (a4 == 3) = true := beq_iff_eq.mpr c10
    have c10b1 : (a4 != 3) = false := bne_eq_false_iff_eq.mpr c10
    clear c10
    by_cases c11 : a1 > (IntKind.u64.wrap (a2 - a1))
    ·rw [if_pos c11] at H
     have c11b0 : decide ((IntKind.u64.wrap (a2 - a1)) < a1) = true := decide_eq_true c11
     clear c11
     obtain rfl := Option.some.inj H
     go_enter Try.func53, Try.ntmps53
     go_wp2
     go_ret
     exact ⟨by first | rfl | (simp; done) | (simp [*]; done), by repeat (first | exact Drawn0.refl _ | apply Drawn0.step)⟩
    ·rw [if_neg c11] at H
     have c11b0 : decide ((IntKind.u64.wrap (a2 - a1)) < a1) = false := decide_eq_false c11
     clear c11
     obtain rfl := Option.some.inj H
     go_enter Try.func53, Try.ntmps53
     go_wp2
     go_ret
     exact ⟨by first | rfl | (simp; done) | (simp [*]; done), by repeat (first | exact Drawn0.refl _ | apply Drawn0.step)⟩
   ·rw [if_neg c10] at H
    have c10b0 : (a4 == 3) = false := beq_eq_false_iff_ne.mpr c10
    have c10b1 : (a4 != 3) = true := bne_iff_ne.mpr c10
    by_cases c12 : a1 > (IntKind.u64.wrap (a2 - a1))
    ·rw [if_pos c12] at H
     have c12b0 : decide ((IntKind.u64.wrap (a2 - a1)) < a1) = true := decide_eq_true c12
     clear c12
     obtain rfl := Option.some.inj H
     go_enter Try.func53, Try.ntmps53
     go_wp2
     go_ret
     exact ⟨by first | rfl | (simp; done) | (simp [*]; done), by repeat (first | exact Drawn0.refl _ | apply Drawn0.step)⟩
    ·rw [if_neg c12] at H
     have c12b0 : decide ((IntKind.u64.wrap (a2 - a1)) < a1) = false := decide_eq_false c12
     clear c12
     by_cases c13 : a1 = (IntKind.u64.wrap (a2 - a1))
     ·rw [if_pos c13] at H
      have c13b0 : (a1 == (IntKind.u64.wrap (a2 - a1))) = true := beq_iff_eq.mpr c13
      have c13b1 : (a1 != (IntKind.u64.wrap (a2 - a1))) = false := bne_eq_false_iff_eq.mpr c13
      clear c13
      obtain rfl := Option.some.inj H
      go_enter Try.func53, Try.ntmps53
      go_wp2
      go_ret
      exact ⟨by first | rfl | (simp; done) | (simp [*]; done), by repeat (first | exact Drawn0.refl _ | apply Drawn0.step)⟩
     ·rw [if_neg c13] at H
      have c13b0 : (a1 == (IntKind.u64.wrap (a2 - a1))) = false := beq_eq_false_iff_ne.mpr c13
      have c13b1 : (a1 != (IntKind.u64.wrap (a2 - a1))) = true := bne_iff_ne.mpr c13
      obtain rfl := Option.some.inj H
      go_enter Try.func53, Try.ntmps53
      go_wp2
      go_ret
      exact ⟨by first | rfl | (simp; done) | (simp [*]; done), by repeat (first | exact Drawn0.refl _ | apply Drawn0.step)⟩

/-! ### cents_signed: function 54 -/
def cents_signed.f (a0 : Int) (a1 : Bool) : Option (Int × Bool) := if a1 = true then (some (wrap64 (IntKind.u64.wrap (-a0)), decide (a0 ≤ 9223372036854775808))) else (some (wrap64 (a0), decide (a0 < 9223372036854775808)))
set_option maxHeartbeats 8000000 in
set_option maxRecDepth 100000 in
theorem cents_signed.calls (a0 : Int) (a1 : Bool) (r1 : Int) (r2 : Bool) (w : World) (h : cents_signed.f a0 a1 = some (r1, r2)) :
  Calls Try.prog 54 #[.int .u64 a0, .bool a1] w fun e w' => e = .returned (.tuple #[.int .i64 r1, .bool r2]) ∧ Drawn0 w w' := by
 have H : (if a1 = true then (some (wrap64 (IntKind.u64.wrap (-a0)), decide (a0 ≤ 9223372036854775808))) else (some (wrap64 (a0), decide (a0 < 9223372036854775808)))) = some (r1, r2) := h
 clear h
 by_cases c3 : a1 = true
 ·subst c3
  have H1 : (some (wrap64 (IntKind.u64.wrap (-a0)), decide (a0 ≤ 9223372036854775808))) = some (r1, r2) := by rw [if_pos rfl] at H; exact H
  clear H
  have H := H1
  clear H1
  simp only [Option.some.injEq, Prod.mk.injEq] at H
  obtain ⟨rfl, rfl⟩ := H
  go_enter Try.func54, Try.ntmps54
  go_wp2
  go_ret2
  exact ⟨by first | rfl | (simp; done) | (simp [*]; done), by repeat (first | exact Drawn0.refl _ | apply Drawn0.step)⟩
 ·replace c3 := Bool.eq_false_iff.mpr c3
  subst c3
  have H1 : (some (wrap64 (a0), decide (a0 < 9223372036854775808))) = some (r1, r2) := by rw [if_neg (show ¬ (false = true) by decide)] at H; exact H
  clear H
  have H := H1
  clear H1
  simp only [Option.some.injEq, Prod.mk.injEq] at H
  obtain ⟨rfl, rfl⟩ := H
  go_enter Try.func54, Try.ntmps54
  go_wp2
  go_ret2
  exact ⟨by first | rfl | (simp; done) | (simp [*]; done), by repeat (first | exact Drawn0.refl _ | apply Drawn0.step)⟩

/-! ### cents_MulDiv: function 43 -/
mutual
def cents_MulDiv.j0 : Nat → Int → Int → Int → Int → Bool → Option (Int × Option Int)
 | 0, _, _, _, _, _ => none
 | k + 1, x0, x1, x2, x3, x32 => if x32 = true then (some (0, some 1)) else ((cents_size.f x0).bind fun bt154 => ((cents_size.f x1).bind fun bt156 => ((cents_size.f x2).bind fun bt158 => ((bits_Mul64_s.f bt154.1 bt156.1).bind fun bt160 => (if bt160.1 ≥ bt158.1 then (some (0, some 3)) else ((bits_Div64_s.f bt160.1 bt160.2 bt158.1).bind fun bt162 => (if bt162.2 > 0 then ((cents_further.f bt162.1 bt162.2 bt158.1 (!((!(bt154.2 == bt156.2)) == bt158.2)) x3).bind fun t164 => (cents_MulDiv.j1 k (!((!(bt154.2 == bt156.2)) == bt158.2)) bt162.1 t164)) else (cents_MulDiv.j1 k (!((!(bt154.2 == bt156.2)) == bt158.2)) bt162.1 false))))))))
def cents_MulDiv.j1 : Nat → Bool → Int → Bool → Option (Int × Option Int)
 | 0, _, _, _ => none
 | k + 1, x16, x19, x80 => if x80 = true then (if (IntKind.u64.wrap (x19 + 1)) = 0 then (some (0, some 3)) else ((cents_signed.f (IntKind.u64.wrap (x19 + 1)) x16).bind fun bt165 => (if bt165.2 = true then (some (bt165.1, none)) else (some (0, some 3))))) else ((cents_signed.f x19 x16).bind fun bt167 => (if bt167.2 = true then (some (bt167.1, none)) else (some (0, some 3))))
end
def cents_MulDiv.f (k : Nat) (a0 : Int) (a1 : Int) (a2 : Int) (a3 : Int) : Option (Int × Option Int) := if a2 = 0 then (cents_MulDiv.j0 k a0 a1 a2 a3 true) else (if a3 < 1 then (cents_MulDiv.j0 k a0 a1 a2 a3 true) else (cents_MulDiv.j0 k a0 a1 a2 a3 (decide (a3 > 4))))
theorem cents_MulDiv.mono_l : ∀ k, (∀ y0 y1 y2 y3 y4, LeO (cents_MulDiv.j0 k y0 y1 y2 y3 y4) (cents_MulDiv.j0 (k + 1) y0 y1 y2 y3 y4)) ∧ (∀ y0 y1 y2, LeO (cents_MulDiv.j1 k y0 y1 y2) (cents_MulDiv.j1 (k + 1) y0 y1 y2))
 | 0 => ⟨fun _ _ _ _ _ r h => by simp [cents_MulDiv.j0] at h, fun _ _ _ r h => by simp [cents_MulDiv.j1] at h⟩
 | k + 1 => by
  obtain ⟨ih0, ih1⟩ := cents_MulDiv.mono_l k
  refine ⟨?_, ?_⟩
  ·intro y0 y1 y2 y3 y4
   unfold cents_MulDiv.j0
   repeat' first
   | (with_reducible exact ih0 _ _ _ _ _)
   | (with_reducible exact ih1 _ _ _)
   | (with_reducible exact LeO.refl _)
   | (with_reducible exact LeO.none _)
   | (with_reducible refine LeO.ite ?_ ?_)
   | (with_reducible refine LeO.bind ?_ (fun _ => ?_))
   | exact ih0 _ _ _ _ _
   | exact ih1 _ _ _
   | exact LeO.none _
   | refine LeO.ite ?_ ?_
   | refine LeO.bind ?_ (fun _ => ?_)
  ·intro y0 y1 y2
   unfold cents_MulDiv.j1
   repeat' first
   | (with_reducible exact ih0 _ _ _ _ _)
   | (with_reducible exact ih1 _ _ _)
   | (with_reducible exact LeO.refl _)
   | (with_reducible exact LeO.none _)
   | (with_reducible refine LeO.ite ?_ ?_)
   | (with_reducible refine LeO.bind ?_ (fun _ => ?_))
   | exact ih0 _ _ _ _ _
   | exact ih1 _ _ _
   | exact LeO.none _
   | refine LeO.ite ?_ ?_
   | refine LeO.bind ?_ (fun _ => ?_)
theorem cents_MulDiv.mono : ∀ a0 a1 a2 a3 k, LeO (cents_MulDiv.f k a0 a1 a2 a3) (cents_MulDiv.f (k + 1) a0 a1 a2 a3) := by
 intro a0 a1 a2 a3 k
 obtain ⟨ih0, ih1⟩ := cents_MulDiv.mono_l k
 unfold cents_MulDiv.f
 repeat' first
   | (with_reducible exact ih0 _ _ _ _ _)
   | (with_reducible exact ih1 _ _ _)
   | (with_reducible exact LeO.refl _)
   | (with_reducible exact LeO.none _)
   | (with_reducible refine LeO.ite ?_ ?_)
   | (with_reducible refine LeO.bind ?_ (fun _ => ?_))
   | exact ih0 _ _ _ _ _
   | exact ih1 _ _ _
   | exact LeO.none _
   | refine LeO.ite ?_ ?_
   | refine LeO.bind ?_ (fun _ => ?_)
set_option maxHeartbeats 8000000 in
set_option maxRecDepth 100000 in
theorem cents_MulDiv.calls (k : Nat) (a0 : Int) (a1 : Int) (a2 : Int) (a3 : Int) (r1 : Int) (r2 : Option Int) (w : World) (h : cents_MulDiv.f k a0 a1 a2 a3 = some (r1, r2)) :
  Calls Try.prog 43 #[.int .i64 a0, .int .i64 a1, .int .i64 a2, .int .i64 a3] w fun e w' => e = .returned (.tuple #[.int .i64 r1, errW r2]) ∧ Drawn0 w w' := by
 have hu30 := Try.underlying30
 have hu34 := Try.underlying34
 have H : (if a2 = 0 then (cents_MulDiv.j0 k a0 a1 a2 a3 true) else (if a3 < 1 then (cents_MulDiv.j0 k a0 a1 a2 a3 true) else (cents_MulDiv.j0 k a0 a1 a2 a3 (decide (a3 > 4))))) = some (r1, r2) := h
 clear h
 have HC5 := ka H
 clear H
 go_enter Try.func43, Try.ntmps43
 go_upto_region 1 with (fail)
 go_cut [32] (fun v32 wc => ∃ (kq : Nat) (x32_4 : Bool), v32 = .bool x32_4 ∧ Aside0 (cents_MulDiv.j0 kq a0 a1 a2 a3 x32_4 = some (r1, r2)) ∧ Aside0 (kq ≤ k) ∧ Drawn0 w wc)
 case first =>
  have H := HC5.out
  clear HC5
  by_cases c6 : a2 = 0
  ·rw [if_pos c6] at H
   have c6b0 : (a2 == 0) = true := beq_iff_eq.mpr c6
   have c6b1 : (a2 != 0) = false := bne_eq_false_iff_eq.mpr c6
   clear c6
   (first | rw [c6b0] | (simp only [i64_w, i32_w]; rw [c6b0]) | skip)
   have H' := ka H
   clear H
   go_wp2
   go_meet
   case rel => exact ⟨_, (true), (by first | rfl | (simp; done) | (simp [*]; done)), H', ⟨by first | omega | exact Nat.le_refl _⟩, by repeat (first | exact Drawn0.refl _ | apply Drawn0.step)⟩
  ·rw [if_neg c6] at H
   have c6b0 : (a2 == 0) = false := beq_eq_false_iff_ne.mpr c6
   have c6b1 : (a2 != 0) = true := bne_iff_ne.mpr c6
   (first | rw [c6b0] | (simp only [i64_w, i32_w]; rw [c6b0]) | skip)
   by_cases c7 : a3 < 1
   ·rw [if_pos c7] at H
    have c7b0 : decide (a3 < 1) = true := decide_eq_true c7
    clear c7
    have H' := ka H
    clear H
    go_wp2
    go_meet
    case rel => exact ⟨_, (true), (by first | rfl | (simp; done) | (simp [*]; done)), H', ⟨by first | omega | exact Nat.le_refl _⟩, by repeat (first | exact Drawn0.refl _ | apply Drawn0.step)⟩
   ·rw [if_neg c7] at H
    have c7b0 : decide (a3 < 1) = false := decide_eq_false c7
    clear c7
    have H' := ka H
    clear H
    go_wp2
    go_meet
    case rel => exact ⟨_, (decide (a3 > 4)), (by first | rfl | (simp; done) | (simp [*]; done)), H', ⟨by first | omega | exact Nat.le_refl _⟩, by repeat (first | exact Drawn0.refl _ | apply Drawn0.step)⟩
 case rest =>
  clear HC5
  try clear p2
  try clear c4
  try clear c6
  try clear c6b0
  try clear c6b1
  try clear c7
  try clear c7b0
  obtain ⟨kq, x32_4, rfl, HA, HJ4, ⟨mc4, rfl⟩⟩ := hcut
  cases kq with
  | zero => exact absurd HA.out (by simp [cents_MulDiv.j0])
  | succ kj4 =>
   have H := HA.out
   clear HA
   simp only [cents_MulDiv.j0] at H
   by_cases c8 : x32_4 = true
   ·subst c8
    have H1 : (some (0, some 1)) = some (r1, r2) := by rw [if_pos rfl] at H; exact H
    clear H
    have H := H1
    clear H1
    simp only [Option.some.injEq, Prod.mk.injEq] at H
    obtain ⟨rfl, rfl⟩ := H
    go_wp2
    go_ret2
    exact ⟨by first | rfl | (simp; done) | (simp [*]; done), by repeat (first | exact Drawn0.refl _ | apply Drawn0.step)⟩
   ·replace c8 := Bool.eq_false_iff.mpr c8
    subst c8
    have H1 : ((cents_size.f a0).bind fun bt154 => ((cents_size.f a1).bind fun bt156 => ((cents_size.f a2).bind fun bt158 => ((bits_Mul64_s.f bt154.1 bt156.1).bind fun bt160 => (if bt160.1 ≥ bt158.1 then (some (0, some 3)) else ((bits_Div64_s.f bt160.1 bt160.2 bt158.1).bind fun bt162 => (if bt162.2 > 0 then ((cents_further.f bt162.1 bt162.2 bt158.1 (!((!(bt154.2 == bt156.2)) == bt158.2)) a3).bind fun t164 => (cents_MulDiv.j1 kj4 (!((!(bt154.2 == bt156.2)) == bt158.2)) bt162.1 t164)) else (cents_MulDiv.j1 kj4 (!((!(bt154.2 == bt156.2)) == bt158.2)) bt162.1 false)))))))) = some (r1, r2) := by rw [if_neg (show ¬ (false = true) by decide)] at H; exact H
    clear H
    have H := H1
    clear H1
    replace H := Option.bind_eq_some_iff.mp H
    obtain ⟨⟨t154, t155⟩, A90, H⟩ := H
    replace H : ((cents_size.f a1).bind fun bt156 => ((cents_size.f a2).bind fun bt158 => ((bits_Mul64_s.f t154 bt156.1).bind fun bt160 => (if bt160.1 ≥ bt158.1 then (some (0, some 3)) else ((bits_Div64_s.f bt160.1 bt160.2 bt158.1).bind fun bt162 => (if bt162.2 > 0 then ((cents_further.f bt162.1 bt162.2 bt158.1 (!((!(t155 == bt156.2)) == bt158.2)) a3).bind fun t164 => (cents_MulDiv.j1 kj4 (!((!(t155 == bt156.2)) == bt158.2)) bt162.1 t164)) else (cents_MulDiv.j1 kj4 (!((!(t155 == bt156.2)) == bt158.2)) bt162.1 false))))))) = some (r1, r2) := H
    have A9 := ka A90
    clear A90
    replace H := Option.bind_eq_some_iff.mp H
    obtain ⟨⟨t156, t157⟩, A100, H⟩ := H
    replace H : ((cents_size.f a2).bind fun bt158 => ((bits_Mul64_s.f t154 t156).bind fun bt160 => (if bt160.1 ≥ bt158.1 then (some (0, some 3)) else ((bits_Div64_s.f bt160.1 bt160.2 bt158.1).bind fun bt162 => (if bt162.2 > 0 then ((cents_further.f bt162.1 bt162.2 bt158.1 (!((!(t155 == t157)) == bt158.2)) a3).bind fun t164 => (cents_MulDiv.j1 kj4 (!((!(t155 == t157)) == bt158.2)) bt162.1 t164)) else (cents_MulDiv.j1 kj4 (!((!(t155 == t157)) == bt158.2)) bt162.1 false)))))) = some (r1, r2) := H
    have A10 := ka A100
    clear A100
    replace H := Option.bind_eq_some_iff.mp H
    obtain ⟨⟨t158, t159⟩, A110, H⟩ := H
    replace H : ((bits_Mul64_s.f t154 t156).bind fun bt160 => (if bt160.1 ≥ t158 then (some (0, some 3)) else ((bits_Div64_s.f bt160.1 bt160.2 t158).bind fun bt162 => (if bt162.2 > 0 then ((cents_further.f bt162.1 bt162.2 t158 (!((!(t155 == t157)) == t159)) a3).bind fun t164 => (cents_MulDiv.j1 kj4 (!((!(t155 == t157)) == t159)) bt162.1 t164)) else (cents_MulDiv.j1 kj4 (!((!(t155 == t157)) == t159)) bt162.1 false))))) = some (r1, r2) := H
    have A11 := ka A110
    clear A110
    replace H := Option.bind_eq_some_iff.mp H
    obtain ⟨⟨t160, t161⟩, A120, H⟩ := H
    replace H : (if t160 ≥ t158 then (some (0, some 3)) else ((bits_Div64_s.f t160 t161 t158).bind fun bt162 => (if bt162.2 > 0 then ((cents_further.f bt162.1 bt162.2 t158 (!((!(t155 == t157)) == t159)) a3).bind fun t164 => (cents_MulDiv.j1 kj4 (!((!(t155 == t157)) == t159)) bt162.1 t164)) else (cents_MulDiv.j1 kj4 (!((!(t155 == t157)) == t159)) bt162.1 false)))) = some (r1, r2) := H
    have A12 := ka A120
    clear A120
    by_cases c13 : t160 ≥ t158
    ·rw [if_pos c13] at H
     have c13b0 : decide (t158 ≤ t160) = true := decide_eq_true c13
     clear c13
     simp only [Option.some.injEq, Prod.mk.injEq] at H
     obtain ⟨rfl, rfl⟩ := H
     go_wp2_with (first | ((with_reducible refine gate_callee (f := 50) rfl ?_); refine kg (some 36) rfl rfl Try.func50 (by kernel_rfl) rfl #[.int .i64 a0] rfl ?_; (with_reducible refine (cents_size.calls a0 t154 t155 _ A9.out).mono ?_); rintro e w' ⟨rfl, ⟨nd, rfl⟩⟩; refine ⟨_, rfl, ?_⟩) | ((with_reducible refine gate_callee (f := 50) rfl ?_); refine kg (some 41) rfl rfl Try.func50 (by kernel_rfl) rfl #[.int .i64 a1] rfl ?_; (with_reducible refine (cents_size.calls a1 t156 t157 _ A10.out).mono ?_); rintro e w' ⟨rfl, ⟨nd, rfl⟩⟩; refine ⟨_, rfl, ?_⟩) | ((with_reducible refine gate_callee (f := 50) rfl ?_); refine kg (some 46) rfl rfl Try.func50 (by kernel_rfl) rfl #[.int .i64 a2] rfl ?_; (with_reducible refine (cents_size.calls a2 t158 t159 _ A11.out).mono ?_); rintro e w' ⟨rfl, ⟨nd, rfl⟩⟩; refine ⟨_, rfl, ?_⟩) | ((with_reducible refine gate_callee (f := 51) rfl ?_); refine kg (some 57) rfl rfl Try.func51 (by kernel_rfl) rfl #[.int .u64 t154, .int .u64 t156] rfl ?_; (with_reducible refine (bits_Mul64_s.calls t154 t156 t160 t161 _ A12.out).mono ?_); rintro e w' ⟨rfl, ⟨nd, rfl⟩⟩; refine ⟨_, rfl, ?_⟩))
     go_ret2
     exact ⟨by first | rfl | (simp; done) | (simp [*]; done), by repeat (first | exact Drawn0.refl _ | apply Drawn0.step)⟩
    ·rw [if_neg c13] at H
     have c13b0 : decide (t158 ≤ t160) = false := decide_eq_false c13
     clear c13
     replace H := Option.bind_eq_some_iff.mp H
     obtain ⟨⟨t162, t163⟩, A140, H⟩ := H
     replace H : (if t163 > 0 then ((cents_further.f t162 t163 t158 (!((!(t155 == t157)) == t159)) a3).bind fun t164 => (cents_MulDiv.j1 kj4 (!((!(t155 == t157)) == t159)) t162 t164)) else (cents_MulDiv.j1 kj4 (!((!(t155 == t157)) == t159)) t162 false)) = some (r1, r2) := H
     have A14 := ka A140
     clear A140
     have HC15 := ka H
     clear H
     go_upto_region 11 with (first | ((with_reducible refine gate_callee (f := 50) rfl ?_); refine kg (some 36) rfl rfl Try.func50 (by kernel_rfl) rfl #[.int .i64 a0] rfl ?_; (with_reducible refine (cents_size.calls a0 t154 t155 _ A9.out).mono ?_); rintro e w' ⟨rfl, ⟨nd, rfl⟩⟩; refine ⟨_, rfl, ?_⟩) | ((with_reducible refine gate_callee (f := 50) rfl ?_); refine kg (some 41) rfl rfl Try.func50 (by kernel_rfl) rfl #[.int .i64 a1] rfl ?_; (with_reducible refine (cents_size.calls a1 t156 t157 _ A10.out).mono ?_); rintro e w' ⟨rfl, ⟨nd, rfl⟩⟩; refine ⟨_, rfl, ?_⟩) | ((with_reducible refine gate_callee (f := 50) rfl ?_); refine kg (some 46) rfl rfl Try.func50 (by kernel_rfl) rfl #[.int .i64 a2] rfl ?_; (with_reducible refine (cents_size.calls a2 t158 t159 _ A11.out).mono ?_); rintro e w' ⟨rfl, ⟨nd, rfl⟩⟩; refine ⟨_, rfl, ?_⟩) | ((with_reducible refine gate_callee (f := 51) rfl ?_); refine kg (some 57) rfl rfl Try.func51 (by kernel_rfl) rfl #[.int .u64 t154, .int .u64 t156] rfl ?_; (with_reducible refine (bits_Mul64_s.calls t154 t156 t160 t161 _ A12.out).mono ?_); rintro e w' ⟨rfl, ⟨nd, rfl⟩⟩; refine ⟨_, rfl, ?_⟩) | ((with_reducible refine gate_callee (f := 52) rfl ?_); refine kg (some 68) rfl rfl Try.func52 (by kernel_rfl) rfl #[.int .u64 t160, .int .u64 t161, .int .u64 t158] rfl ?_; (with_reducible refine (bits_Div64_s.calls t160 t161 t158 t162 t163 _ A14.out).mono ?_); rintro e w' ⟨rfl, ⟨nd, rfl⟩⟩; refine ⟨_, rfl, ?_⟩))
     (try simp only [Act.put, List.setIfInBounds_toArray, List.set_cons_zero, List.set_cons_succ])
     go_cut [80] (fun v80 wc => ∃ (kq : Nat) (x80_14 : Bool), v80 = .bool x80_14 ∧ Aside0 (cents_MulDiv.j1 kq (!((!(t155 == t157)) == t159)) t162 x80_14 = some (r1, r2)) ∧ Aside0 (kq ≤ kj4) ∧ Drawn0 w wc)
     case first =>
      have H := HC15.out
      clear HC15
      by_cases c16 : t163 > 0
      ·rw [if_pos c16] at H
       have c16b0 : decide (0 < t163) = true := decide_eq_true c16
       clear c16
       (first | rw [c16b0] | (simp only [i64_w, i32_w]; rw [c16b0]) | skip)
       replace H := Option.bind_eq_some_iff.mp H
       obtain ⟨t164, A170, H⟩ := H
       replace H : (cents_MulDiv.j1 kj4 (!((!(t155 == t157)) == t159)) t162 t164) = some (r1, r2) := H
       have A17 := ka A170
       clear A170
       have H' := ka H
       clear H
       go_wp2_with (first | (go_at_call 53; (with_reducible refine (cents_further.calls t162 t163 t158 (!((!(t155 == t157)) == t159)) a3 t164 _ A17.out).mono ?_); rintro e w' ⟨rfl, ⟨nd, rfl⟩⟩))
       go_meet
       case rel => exact ⟨_, (t164), (by first | rfl | (simp; done) | (simp [*]; done)), H', ⟨by have := HJ4.out; first | omega | exact Nat.le_refl _⟩, by repeat (first | exact Drawn0.refl _ | apply Drawn0.step)⟩
      ·rw [if_neg c16] at H
       have c16b0 : decide (0 < t163) = false := decide_eq_false c16
       clear c16
       (first | rw [c16b0] | (simp only [i64_w, i32_w]; rw [c16b0]) | skip)
       have H' := ka H
       clear H
       go_wp2
       go_meet
       case rel => exact ⟨_, (false), (by first | rfl | (simp; done) | (simp [*]; done)), H', ⟨by have := HJ4.out; first | omega | exact Nat.le_refl _⟩, by repeat (first | exact Drawn0.refl _ | apply Drawn0.step)⟩
     case rest =>
      clear HC15
      try clear c1
      try clear p2
      try clear c4
      try clear c5
      try clear c6
      try clear c6b0
      try clear c6b1
      try clear c7
      try clear c7b0
      try clear c8
      try clear c13
      try clear c13b0
      try clear c16
      try clear c16b0
      try clear p2
      obtain ⟨kq, x80_14, rfl, HA, HJ14, ⟨mc14, rfl⟩⟩ := hcut
      cases kq with
      | zero => exact absurd HA.out (by simp [cents_MulDiv.j1])
      | succ kj14 =>
       have H := HA.out
       clear HA
       simp only [cents_MulDiv.j1] at H
       by_cases c18 : x80_14 = true
       ·subst c18
        have H1 : (if (IntKind.u64.wrap (t162 + 1)) = 0 then (some (0, some 3)) else ((cents_signed.f (IntKind.u64.wrap (t162 + 1)) (!((!(t155 == t157)) == t159))).bind fun bt165 => (if bt165.2 = true then (some (bt165.1, none)) else (some (0, some 3))))) = some (r1, r2) := by rw [if_pos rfl] at H; exact H
        clear H
        have H := H1
        clear H1
        by_cases c19 : (IntKind.u64.wrap (t162 + 1)) = 0
        ·rw [if_pos c19] at H
         have c19b0 : ((IntKind.u64.wrap (t162 + 1)) == 0) = true := beq_iff_eq.mpr c19
         have c19b1 : ((IntKind.u64.wrap (t162 + 1)) != 0) = false := bne_eq_false_iff_eq.mpr c19
         clear c19
         simp only [Option.some.injEq, Prod.mk.injEq] at H
         obtain ⟨rfl, rfl⟩ := H
         go_wp2
         go_ret2
         exact ⟨by first | rfl | (simp; done) | (simp [*]; done), by repeat (first | exact Drawn0.refl _ | apply Drawn0.step)⟩
        ·rw [if_neg c19] at H
         have c19b0 : ((IntKind.u64.wrap (t162 + 1)) == 0) = false := beq_eq_false_iff_ne.mpr c19
         have c19b1 : ((IntKind.u64.wrap (t162 + 1)) != 0) = true := bne_iff_ne.mpr c19
         replace H := Option.bind_eq_some_iff.mp H
         obtain ⟨⟨t165, t166⟩, A200, H⟩ := H
         replace H : (if t166 = true then (some (t165, none)) else (some (0, some 3))) = some (r1, r2) := H
         have A20 := ka A200
         clear A200
         by_cases c21 : t166 = true
         ·subst c21
          have H1 : (some (t165, none)) = some (r1, r2) := by rw [if_pos rfl] at H; exact H
          clear H
          have H := H1
          clear H1
          simp only [Option.some.injEq, Prod.mk.injEq] at H
          obtain ⟨rfl, rfl⟩ := H
          go_wp2_with (first | ((with_reducible refine gate_callee (f := 54) rfl ?_); refine kg (some 89) rfl rfl Try.func54 (by kernel_rfl) rfl #[.int .u64 (IntKind.u64.wrap (t162 + 1)), .bool (!((!(t155 == t157)) == t159))] rfl ?_; (with_reducible refine (cents_signed.calls (IntKind.u64.wrap (t162 + 1)) (!((!(t155 == t157)) == t159)) t165 true _ A20.out).mono ?_); rintro e w' ⟨rfl, ⟨nd, rfl⟩⟩; refine ⟨_, rfl, ?_⟩))
          go_ret2
          exact ⟨by first | rfl | (simp; done) | (simp [*]; done), by repeat (first | exact Drawn0.refl _ | apply Drawn0.step)⟩
         ·replace c21 := Bool.eq_false_iff.mpr c21
          subst c21
          have H1 : (some (0, some 3)) = some (r1, r2) := by rw [if_neg (show ¬ (false = true) by decide)] at H; exact H
          clear H
          have H := H1
          clear H1
          simp only [Option.some.injEq, Prod.mk.injEq] at H
          obtain ⟨rfl, rfl⟩ := H
          go_wp2_with (first | ((with_reducible refine gate_callee (f := 54) rfl ?_); refine kg (some 89) rfl rfl Try.func54 (by kernel_rfl) rfl #[.int .u64 (IntKind.u64.wrap (t162 + 1)), .bool (!((!(t155 == t157)) == t159))] rfl ?_; (with_reducible refine (cents_signed.calls (IntKind.u64.wrap (t162 + 1)) (!((!(t155 == t157)) == t159)) t165 false _ A20.out).mono ?_); rintro e w' ⟨rfl, ⟨nd, rfl⟩⟩; refine ⟨_, rfl, ?_⟩))
          go_ret2
          exact ⟨by first | rfl | (simp; done) | (simp [*]; done), by repeat (first | exact Drawn0.refl _ | apply Drawn0.step)⟩
       ·replace c18 := Bool.eq_false_iff.mpr c18
        subst c18
        have H1 : ((cents_signed.f t162 (!((!(t155 == t157)) == t159))).bind fun bt167 => (if bt167.2 = true then (some (bt167.1, none)) else (some (0, some 3)))) = some (r1, r2) := by rw [if_neg (show ¬ (false = true) by decide)] at H; exact H
        clear H
        have H := H1
        clear H1
        replace H := Option.bind_eq_some_iff.mp H
        obtain ⟨⟨t167, t168⟩, A220, H⟩ := H
        replace H : (if t168 = true then (some (t167, none)) else (some (0, some 3))) = some (r1, r2) := H
        have A22 := ka A220
        clear A220
        by_cases c23 : t168 = true
        ·subst c23
         have H1 : (some (t167, none)) = some (r1, r2) := by rw [if_pos rfl] at H; exact H
         clear H
         have H := H1
         clear H1
         simp only [Option.some.injEq, Prod.mk.injEq] at H
         obtain ⟨rfl, rfl⟩ := H
         go_wp2_with (first | ((with_reducible refine gate_callee (f := 54) rfl ?_); refine kg (some 89) rfl rfl Try.func54 (by kernel_rfl) rfl #[.int .u64 t162, .bool (!((!(t155 == t157)) == t159))] rfl ?_; (with_reducible refine (cents_signed.calls t162 (!((!(t155 == t157)) == t159)) t167 true _ A22.out).mono ?_); rintro e w' ⟨rfl, ⟨nd, rfl⟩⟩; refine ⟨_, rfl, ?_⟩))
         go_ret2
         exact ⟨by first | rfl | (simp; done) | (simp [*]; done), by repeat (first | exact Drawn0.refl _ | apply Drawn0.step)⟩
        ·replace c23 := Bool.eq_false_iff.mpr c23
         subst c23
         have H1 : (some (0, some 3)) = some (r1, r2) := by rw [if_neg (show ¬ (false = true) by decide)] at H; exact H
         clear H
         have H := H1
         clear H1
         simp only [Option.some.injEq, Prod.mk.injEq] at H
         obtain ⟨rfl, rfl⟩ := H
         go_wp2_with (first | ((with_reducible refine gate_callee (f := 54) rfl ?_); refine kg (some 89) rfl rfl Try.func54 (by kernel_rfl) rfl #[.int .u64 t162, .bool (!((!(t155 == t157)) == t159))] rfl ?_; (with_reducible refine (cents_signed.calls t162 (!((!(t155 == t157)) == t159)) t167 false _ A22.out).mono ?_); rintro e w' ⟨rfl, ⟨nd, rfl⟩⟩; refine ⟨_, rfl, ?_⟩))
         go_ret2
         exact ⟨by first | rfl | (simp; done) | (simp [*]; done), by repeat (first | exact Drawn0.refl _ | apply Drawn0.step)⟩

/-! ### cents_MulDiv_s: function 43, told plainly -/
theorem cents_MulDiv.size_tells (a : Int) (h : M.In a) : cents_size.f a = some (M.abs a, decide (a < 0)) := by
 unfold cents_size.f M.abs M.In at *
 by_cases h0 : a < 0
 ·rw [if_pos h0, if_pos h0, decide_eq_true h0]
  congr 2
  simp only [M.wrapu]
  omega
 ·rw [if_neg h0, if_neg h0, decide_eq_false h0]
  congr 2
  simp only [M.wrapu]
  omega
theorem cents_MulDiv.further_tells (q r c : Int) (minus : Bool) (mode : Int) (hm : 1 ≤ mode ∧ mode ≤ 4) (h0 : 0 ≤ q) (h1 : q < 18446744073709551616) (hr : 0 < r) (hrc : r < c) (hc : c < 18446744073709551616) :
  cents_further.f q r c minus mode = some (decide ((if minus = true then mode = 1 else mode = 2) ∨ mode = 3 ∧ 2 * r ≥ c ∨ mode = 4 ∧ (2 * r > c ∨ 2 * r = c ∧ q % 2 = 1))) := by
 unfold cents_further.f
 have hw : IntKind.u64.wrap (c - r) = c - r := M.wrapu_id (by omega) (by omega)
 rw [hw, M.and_one q h0 h1]
 have hm' : mode = 1 ∨ mode = 2 ∨ mode = 3 ∨ mode = 4 := by omega
 rcases hm' with rfl | rfl | rfl | rfl
 ·cases minus <;> simp <;> omega
 ·cases minus <;> simp <;> omega
 ·by_cases g : r > c - r
  ·have g2 : c ≤ 2 * r := by omega
   cases minus <;> simp [g, g2]
  ·by_cases g' : r = c - r
   ·have g2 : c ≤ 2 * r := by omega
    cases minus <;> simp [g, g2] <;> omega
   ·have g2 : ¬ c ≤ 2 * r := by omega
    cases minus <;> simp [g, g', g2]
 ·have h2 : 2 * r > c ↔ r > c - r := by omega
  have h3 : 2 * r = c ↔ r = c - r := by omega
  simp only [h2, h3]
  by_cases g : r > c - r
  ·cases minus <;> simp [g]
  ·by_cases g' : r = c - r
   ·have e : ∀ z : Int, (z == 1) = decide (z = 1) := fun z => by by_cases h : z = 1 <;> simp [h]
    cases minus <;> simp [g, ← g', e]
   ·cases minus <;> simp [g, g']
theorem cents_MulDiv.last (N c mode : Int) (minus : Bool) (hN : 0 ≤ N) (hc : 0 < c) (hc2 : c ≤ 9223372036854775808) (hm : 1 ≤ mode ∧ mode ≤ 4) (hq : N / c < 18446744073709551616) (n : Int) (hn : n = if minus = true then -N else N) (k : Nat) :
  (if N % c > 0 then (cents_further.f (N / c) (N % c) c minus mode).bind fun t => cents_MulDiv.j1 (k + 1) minus (N / c) t else cents_MulDiv.j1 (k + 1) minus (N / c) false) = some (M.told (M.quo n c mode)) := by
 have r0 := Int.emod_nonneg N (show c ≠ 0 by omega)
 have r1 := Int.emod_lt_of_pos N hc
 have hq0 : 0 ≤ N / c := Int.ediv_nonneg hN (by omega)
 have hs := M.quo_sized hN hc hm
 have key : ∀ (t : Bool) (v : Int), (v = if minus = true then -(N / c + (if t = true then 1 else 0)) else N / c + (if t = true then 1 else 0)) →
   cents_MulDiv.j1 (k + 1) minus (N / c) t = some (M.told v) := by
  intro t v hv
  simp only [cents_MulDiv.j1]
  generalize N / c = q at *
  unfold cents_signed.f
  cases t with
  | true =>
   simp only [if_true] at hv ⊢
   by_cases hz : IntKind.u64.wrap (q + 1) = 0
   ·rw [if_pos hz, M.told_out]
    intro hin
    unfold M.In at hin
    rw [M.wrapu] at hz
    cases minus <;> simp at hv <;> omega
   ·rw [if_neg hz]
    have hw : IntKind.u64.wrap (q + 1) = q + 1 := by rw [M.wrapu] at hz ⊢; omega
    rw [hw]
    cases minus with
    | true =>
     simp only [if_true] at hv ⊢
     rw [Option.bind_some]
     by_cases hle : q + 1 ≤ 9223372036854775808
     ·rw [if_pos (decide_eq_true hle), M.told_in (show M.In v from ⟨by omega, by omega⟩)]
      refine congrArg some (Prod.ext ?_ rfl)
      simp only [M.wrapu]; unfold wrap64; omega
     ·rw [if_neg (by simpa using hle), M.told_out (fun hin => by unfold M.In at hin; omega)]
    | false =>
     simp only [Bool.false_eq_true, if_false] at hv ⊢
     rw [Option.bind_some]
     by_cases hle : q + 1 < 9223372036854775808
     ·rw [if_pos (decide_eq_true hle), M.told_in (show M.In v from ⟨by omega, by omega⟩)]
      refine congrArg some (Prod.ext ?_ rfl)
      simp only []; unfold wrap64; omega
     ·rw [if_neg (by simpa using hle), M.told_out (fun hin => by unfold M.In at hin; omega)]
  | false =>
   simp only [Bool.false_eq_true, if_false] at hv ⊢
   cases minus with
   | true =>
    simp only [if_true] at hv ⊢
    rw [Option.bind_some]
    by_cases hle : q ≤ 9223372036854775808
    ·rw [if_pos (decide_eq_true hle), M.told_in (show M.In v from ⟨by omega, by omega⟩)]
     refine congrArg some (Prod.ext ?_ rfl)
     simp only [M.wrapu]; unfold wrap64; omega
    ·rw [if_neg (by simpa using hle), M.told_out (fun hin => by unfold M.In at hin; omega)]
   | false =>
    simp only [Bool.false_eq_true, if_false] at hv ⊢
    rw [Option.bind_some]
    by_cases hle : q < 9223372036854775808
    ·rw [if_pos (decide_eq_true hle), M.told_in (show M.In v from ⟨by omega, by omega⟩)]
     refine congrArg some (Prod.ext ?_ rfl)
     simp only []; unfold wrap64; omega
    ·rw [if_neg (by simpa using hle), M.told_out (fun hin => by unfold M.In at hin; omega)]
 by_cases hr : N % c > 0
 ·rw [if_pos hr, cents_MulDiv.further_tells _ _ _ _ _ hm hq0 hq hr r1 (by omega), Option.bind_some]
  apply key
  subst hn
  cases minus with
  | true =>
   simp only [if_true]
   rw [hs.2]
   congr 2
   simp only [hr, true_and, decide_eq_true_eq]
  | false =>
   simp only [Bool.false_eq_true, if_false]
   rw [hs.1]
   congr 2
   simp only [hr, true_and, decide_eq_true_eq]
 ·rw [if_neg hr]
  apply key
  subst hn
  cases minus with
  | true => simp only [if_true]; rw [hs.2]; simp [hr]
  | false => simp only [Bool.false_eq_true, if_false]; rw [hs.1]; simp [hr]
theorem cents_MulDiv.quo_over {N c mode : Int} (hN : 0 ≤ N) (hc : 0 < c) (hm : 1 ≤ mode ∧ mode ≤ 4) (hq : 18446744073709551616 ≤ N / c) : ¬ M.In (M.quo N c mode) ∧ ¬ M.In (M.quo (-N) c mode) := by
 have hs := M.quo_sized hN hc hm
 rw [hs.1, hs.2]
 unfold M.In
 constructor <;> split <;> omega
theorem cents_MulDiv.quo_neg (n c mode : Int) (hc : c < 0) : M.quo n c mode = M.quo (-n) (-c) mode := by
 unfold M.quo
 simp only [if_pos hc, if_neg (show ¬ -c < 0 by omega)]
theorem cents_MulDiv.abs_mul (a b : Int) : a * b = if (decide (a < 0) == decide (b < 0)) = true then M.abs a * M.abs b else -(M.abs a * M.abs b) := by
 unfold M.abs
 by_cases ha : a < 0 <;> by_cases hb : b < 0 <;> simp [ha, hb, Int.neg_mul, Int.mul_neg]
theorem cents_MulDiv.tells (a b c mode : Int) (ha : M.In a) (hb : M.In b) (hc : M.In c) (k : Nat) (hk : 4 ≤ k) :
  cents_MulDiv.f k a b c mode = some (if c = 0 ∨ mode < 1 ∨ mode > 4 then (0, some 1) else M.told (M.quo (a * b) c mode)) := by
 obtain ⟨k, rfl⟩ : ∃ m, k = m + 2 := ⟨k - 2, by omega⟩
 unfold cents_MulDiv.f
 by_cases hc0 : c = 0
 ·rw [if_pos hc0, if_pos (.inl hc0)]
  simp [cents_MulDiv.j0]
 rw [if_neg hc0]
 by_cases hm1 : mode < 1
 ·rw [if_pos hm1, if_pos (.inr (.inl hm1))]
  simp [cents_MulDiv.j0]
 rw [if_neg hm1]
 by_cases hm4 : mode > 4
 ·rw [decide_eq_true hm4, if_pos (.inr (.inr hm4))]
  simp [cents_MulDiv.j0]
 rw [decide_eq_false hm4, if_neg (by omega)]
 have hm : 1 ≤ mode ∧ mode ≤ 4 := by omega
 simp only [cents_MulDiv.j0]
 rw [if_neg (by decide), cents_MulDiv.size_tells a ha, cents_MulDiv.size_tells b hb, cents_MulDiv.size_tells c hc]
 simp only [Option.bind_some]
 have ba : 0 ≤ M.abs a ∧ M.abs a ≤ 9223372036854775808 := by unfold M.abs M.In at *; split <;> omega
 have bb : 0 ≤ M.abs b ∧ M.abs b ≤ 9223372036854775808 := by unfold M.abs M.In at *; split <;> omega
 have bc : 0 < M.abs c ∧ M.abs c ≤ 9223372036854775808 := by unfold M.abs M.In at *; split <;> omega
 have hN : 0 ≤ M.abs a * M.abs b := Int.mul_nonneg ba.1 bb.1
 unfold bits_Mul64_s.f
 rw [if_pos ⟨ba.1, by omega, bb.1, by omega⟩]
 simp only [Option.bind_some]
 have hcq : M.quo (a * b) c mode = M.quo (if (!((!(decide (a < 0) == decide (b < 0))) == decide (c < 0))) = true then -(M.abs a * M.abs b) else M.abs a * M.abs b) (M.abs c) mode := by
  rw [cents_MulDiv.abs_mul a b]
  by_cases h : c < 0
  ·rw [cents_MulDiv.quo_neg _ _ _ h]
   have : M.abs c = -c := by unfold M.abs; rw [if_pos h]
   rw [this, decide_eq_true h]
   cases hd : (decide (a < 0) == decide (b < 0)) <;> simp
  ·have : M.abs c = c := by unfold M.abs; rw [if_neg h]
   rw [this, decide_eq_false h]
   cases hd : (decide (a < 0) == decide (b < 0)) <;> simp
 rw [hcq]
 generalize (!((!(decide (a < 0) == decide (b < 0))) == decide (c < 0))) = minus at *
 generalize M.abs a * M.abs b = N at *
 generalize M.abs c = z at *
 by_cases hov : N / 18446744073709551616 ≥ z
 ·rw [if_pos hov, M.told_out]
  have hq : 18446744073709551616 ≤ N / z := by
   apply M.le_div bc.1
   rw [Int.mul_comm]
   omega
  have := cents_MulDiv.quo_over hN bc.1 hm hq
  cases minus
  ·exact this.1
  ·exact this.2
 ·rw [if_neg hov]
  unfold bits_Div64_s.f
  rw [if_pos ⟨by omega, by omega, by omega, by omega, by omega⟩]
  simp only [Option.bind_some]
  have e : N / 18446744073709551616 * 18446744073709551616 + N % 18446744073709551616 = N := by omega
  rw [e]
  refine cents_MulDiv.last N z mode minus hN bc.1 bc.2 hm ?_ _ rfl k
  apply M.div_lt bc.1
  rw [Int.mul_comm]
  omega
def cents_MulDiv_s.f (a b c mode : Int) : Option (Int × Option Int) :=
 if M.In a ∧ M.In b ∧ M.In c then some (if c = 0 ∨ mode < 1 ∨ mode > 4 then (0, some 1) else M.told (M.quo (a * b) c mode)) else none
theorem cents_MulDiv_s.calls (a0 : Int) (a1 : Int) (a2 : Int) (a3 : Int) (r1 : Int) (r2 : Option Int) (w : World) (h : cents_MulDiv_s.f a0 a1 a2 a3 = some (r1, r2)) :
  Calls Try.prog 43 #[.int .i64 a0, .int .i64 a1, .int .i64 a2, .int .i64 a3] w fun e w' => e = .returned (.tuple #[.int .i64 r1, errW r2]) ∧ Drawn0 w w' := by
 unfold cents_MulDiv_s.f at h
 split at h
 ·rename_i hr
  exact cents_MulDiv.calls 4 a0 a1 a2 a3 r1 r2 w ((cents_MulDiv.tells a0 a1 a2 a3 hr.1 hr.2.1 hr.2.2 4 (Nat.le_refl _)).trans h)
 ·cases h
theorem cents_MulDiv_s.at_ {a b c mode : Int} (ha : M.In a) (hb : M.In b) (hc : M.In c) : cents_MulDiv_s.f a b c mode = some (if c = 0 ∨ mode < 1 ∨ mode > 4 then (0, some 1) else M.told (M.quo (a * b) c mode)) := by unfold cents_MulDiv_s.f; rw [if_pos ⟨ha, hb, hc⟩]

/-! ### rate_Month: function 32 -/
def rate_Month.f (a0 : Int) (a1 : Int) : Option (Int × Option Int) := (rate_may.f a0 a1).bind fun t169 => (if t169 = true then ((cents_MulDiv_s.f a0 a1 12000000 4).bind fun bt170 => (some (bt170.1, bt170.2))) else (some (0, some 1)))
set_option maxHeartbeats 8000000 in
set_option maxRecDepth 100000 in
theorem rate_Month.calls (a0 : Int) (a1 : Int) (r1 : Int) (r2 : Option Int) (w : World) (h : rate_Month.f a0 a1 = some (r1, r2)) :
  Calls Try.prog 32 #[.int .i64 a0, .int .i64 a1] w fun e w' => e = .returned (.tuple #[.int .i64 r1, errW r2]) ∧ Drawn0 w w' := by
 have hu30 := Try.underlying30
 have hu34 := Try.underlying34
 have H : ((rate_may.f a0 a1).bind fun t169 => (if t169 = true then ((cents_MulDiv_s.f a0 a1 12000000 4).bind fun bt170 => (some (bt170.1, bt170.2))) else (some (0, some 1)))) = some (r1, r2) := h
 clear h
 replace H := Option.bind_eq_some_iff.mp H
 obtain ⟨t169, A30, H⟩ := H
 replace H : (if t169 = true then ((cents_MulDiv_s.f a0 a1 12000000 4).bind fun bt170 => (some (bt170.1, bt170.2))) else (some (0, some 1))) = some (r1, r2) := H
 have A3 := ka A30
 clear A30
 by_cases c4 : t169 = true
 ·subst c4
  have H1 : ((cents_MulDiv_s.f a0 a1 12000000 4).bind fun bt170 => (some (bt170.1, bt170.2))) = some (r1, r2) := by rw [if_pos rfl] at H; exact H
  clear H
  have H := H1
  clear H1
  replace H := Option.bind_eq_some_iff.mp H
  obtain ⟨⟨t170, t171⟩, A50, H⟩ := H
  replace H : (some (t170, t171)) = some (r1, r2) := H
  have A5 := ka A50
  clear A50
  simp only [Option.some.injEq, Prod.mk.injEq] at H
  obtain ⟨rfl, rfl⟩ := H
  go_enter Try.func32, Try.ntmps32
  go_wp2_with (first | ((with_reducible refine gate_callee (f := 42) rfl ?_); refine kg (some 8) rfl rfl Try.func42 (by kernel_rfl) rfl #[.int .i64 a0, .int .i64 a1] rfl ?_; (with_reducible refine (rate_may.calls a0 a1 true _ A3.out).mono ?_); rintro e w' ⟨rfl, ⟨nd, rfl⟩⟩; refine ⟨_, rfl, ?_⟩) | ((with_reducible refine gate_callee (f := 43) rfl ?_); refine kg (some 13) rfl rfl Try.func43 (by kernel_rfl) rfl #[.int .i64 a0, .int .i64 a1, .int .i64 12000000, .int .i64 4] rfl ?_; (with_reducible refine (cents_MulDiv_s.calls a0 a1 12000000 4 t170 t171 _ A5.out).mono ?_); rintro e w' ⟨rfl, ⟨nd, rfl⟩⟩; refine ⟨_, rfl, ?_⟩; (try simp only [errW_none, errW_some])))
  go_ret2
  exact ⟨by first | rfl | (simp; done) | (simp [*]; done), by repeat (first | exact Drawn0.refl _ | apply Drawn0.step)⟩
 ·replace c4 := Bool.eq_false_iff.mpr c4
  subst c4
  have H1 : (some (0, some 1)) = some (r1, r2) := by rw [if_neg (show ¬ (false = true) by decide)] at H; exact H
  clear H
  have H := H1
  clear H1
  simp only [Option.some.injEq, Prod.mk.injEq] at H
  obtain ⟨rfl, rfl⟩ := H
  go_enter Try.func32, Try.ntmps32
  go_wp2_with (first | ((with_reducible refine gate_callee (f := 42) rfl ?_); refine kg (some 8) rfl rfl Try.func42 (by kernel_rfl) rfl #[.int .i64 a0, .int .i64 a1] rfl ?_; (with_reducible refine (rate_may.calls a0 a1 false _ A3.out).mono ?_); rintro e w' ⟨rfl, ⟨nd, rfl⟩⟩; refine ⟨_, rfl, ?_⟩))
  go_ret2
  exact ⟨by first | rfl | (simp; done) | (simp [*]; done), by repeat (first | exact Drawn0.refl _ | apply Drawn0.step)⟩

/-! ### rate_Month_s: function 32, told plainly -/
theorem rate_Month.tells (b r : Int) : rate_Month.f b r = some (if M.may b r then (M.month b r, none) else (0, some 1)) := by
 have hm : rate_may.f b r = some (decide (M.may b r)) := by
  unfold rate_may.f M.may
  by_cases h1 : 0 ≤ b <;> by_cases h2 : b ≤ 10000000000000 <;> by_cases h3 : 0 ≤ r <;> simp [h1, h2, h3]
 unfold rate_Month.f
 rw [hm, Option.bind_some]
 by_cases h : M.may b r
 ·have hp := M.prod_bd h
  have h0 := M.month_nonneg h
  have h1 := M.month_le h
  have hi : M.In (M.quo (b * r) 12000000 4) := by
   show M.In (M.month b r)
   unfold M.may at h
   unfold M.In
   omega
  have h' := h
  unfold M.may at h'
  rw [if_pos (decide_eq_true h), if_pos h, cents_MulDiv_s.at_ (by unfold M.In; omega) (by unfold M.In; omega) (by decide), Option.bind_some, if_neg (by decide), M.told_in hi]
  rfl
 ·rw [if_neg (by simpa using h), if_neg h]
def rate_Month_s.f (b r : Int) : Option (Int × Option Int) := some (if M.may b r then (M.month b r, none) else (0, some 1))
theorem rate_Month_s.calls (a0 : Int) (a1 : Int) (r1 : Int) (r2 : Option Int) (w : World) (h : rate_Month_s.f a0 a1 = some (r1, r2)) :
  Calls Try.prog 32 #[.int .i64 a0, .int .i64 a1] w fun e w' => e = .returned (.tuple #[.int .i64 r1, errW r2]) ∧ Drawn0 w w' :=
 rate_Month.calls a0 a1 r1 r2 w ((rate_Month.tells a0 a1).trans h)
theorem rate_Month_s.yes {b r : Int} (h : M.may b r) : rate_Month_s.f b r = some (M.month b r, none) := by unfold rate_Month_s.f; rw [if_pos h]
theorem rate_Month_s.no {b r : Int} (h : ¬ M.may b r) : rate_Month_s.f b r = some (0, some 1) := by unfold rate_Month_s.f; rw [if_neg h]

/-! ### water_next: function 28 -/
def water_next.f (a0_0 : Int) (a0_1 : Int) (a0_2 : Int) (a0_3 : Int) (a0_4 : Int) (a0_5 : Int) (a0_6 : Int) (a0_7 : Int) (a0_8 : Int) (a0_9 : Int) (a0_10 : Int) (a0_11 : Int) (a0_12 : Int) (a0_13 : Int) (a0_14 : Int) : Option (Int × Int × Int × Int × Int × Int × Option Int) := (rate_Month_s.f a0_9 a0_1).bind fun bt174 => (if bt174.2.isNone = true then (some (1, bt174.1, mn (mx (wrap64 (a0_10 - bt174.1)) 0) a0_9, a0_4, 0, wrap64 (a0_9 - (mn (mx (wrap64 (a0_10 - bt174.1)) 0) a0_9)), none)) else (some (0, 0, 0, 0, 0, 0, some (bt174.2.getD 0))))
set_option maxHeartbeats 8000000 in
set_option maxRecDepth 100000 in
theorem water_next.calls (a0_0 : Int) (a0_1 : Int) (a0_2 : Int) (a0_3 : Int) (a0_4 : Int) (a0_5 : Int) (a0_6 : Int) (a0_7 : Int) (a0_8 : Int) (a0_9 : Int) (a0_10 : Int) (a0_11 : Int) (a0_12 : Int) (a0_13 : Int) (a0_14 : Int) (r1 : Int) (r2 : Int) (r3 : Int) (r4 : Int) (r5 : Int) (r6 : Int) (r7 : Option Int) (w : World) (h : water_next.f a0_0 a0_1 a0_2 a0_3 a0_4 a0_5 a0_6 a0_7 a0_8 a0_9 a0_10 a0_11 a0_12 a0_13 a0_14 = some (r1, r2, r3, r4, r5, r6, r7)) :
  Calls Try.prog 28 #[.agg #[.int .i64 a0_0, .int .i64 a0_1, .int .i64 a0_2, .int .i64 a0_3, .int .i64 a0_4, .int .i64 a0_5, .int .i64 a0_6, .int .i64 a0_7, .int .i64 a0_8, .int .i64 a0_9, .int .i64 a0_10, .int .i64 a0_11, .int .i64 a0_12, .int .i64 a0_13, .int .i64 a0_14]] w fun e w' => e = .returned (.tuple #[.agg #[.int .i64 r1, .int .i64 r2, .int .i64 r3, .int .i64 r4, .int .i64 r5, .int .i64 r6], errW r7]) ∧ Below w.heap.size w w' := by
 have hu25 := Try.underlying25
 have hu28 := Try.underlying28
 have hu30 := Try.underlying30
 have hu34 := Try.underlying34
 have HB := ka (Below.refl w.heap.size w)
 have H : ((rate_Month_s.f a0_9 a0_1).bind fun bt174 => (if bt174.2.isNone = true then (some (1, bt174.1, mn (mx (wrap64 (a0_10 - bt174.1)) 0) a0_9, a0_4, 0, wrap64 (a0_9 - (mn (mx (wrap64 (a0_10 - bt174.1)) 0) a0_9)), none)) else (some (0, 0, 0, 0, 0, 0, some (bt174.2.getD 0))))) = some (r1, r2, r3, r4, r5, r6, r7) := h
 clear h
 replace H := Option.bind_eq_some_iff.mp H
 obtain ⟨⟨t174, t175⟩, A20, H⟩ := H
 replace H : (if t175.isNone = true then (some (1, t174, mn (mx (wrap64 (a0_10 - t174)) 0) a0_9, a0_4, 0, wrap64 (a0_9 - (mn (mx (wrap64 (a0_10 - t174)) 0) a0_9)), none)) else (some (0, 0, 0, 0, 0, 0, some (t175.getD 0)))) = some (r1, r2, r3, r4, r5, r6, r7) := H
 have A2 := ka A20
 clear A20
 rcases t175 with _ | q176
 ·have H1 : (some (1, t174, mn (mx (wrap64 (a0_10 - t174)) 0) a0_9, a0_4, 0, wrap64 (a0_9 - (mn (mx (wrap64 (a0_10 - t174)) 0) a0_9)), none)) = some (r1, r2, r3, r4, r5, r6, r7) := by rw [if_pos (show (none : Option Int).isNone = true by rfl)] at H; exact H
  clear H
  have H := H1
  clear H1
  try simp only [errW_none, errW_some]
  obtain ⟨ji3, hji3⟩ : ∃ j_ : Int, (mx (wrap64 (a0_10 - t174)) 0) = j_ := ⟨_, rfl⟩
  replace H : (some (1, t174, mn (ji3) a0_9, a0_4, 0, wrap64 (a0_9 - (mn (ji3) a0_9)), none)) = some (r1, r2, r3, r4, r5, r6, r7) := by first | (rw [hji3] at H; exact H) | (simp only [hji3] at H ⊢; exact H)
  (try rw [hji3] at A2)
  (try (have hji3l : 0 ≤ ji3 := by (rw [← hji3]; unfold mx; (repeat' split) <;> omega)))
  (try (have hji3m : 0 ≤ ji3 := by omega))
  have hji3_ : (if (wrap64 (a0_10 - t174)) < 0 then 0 else (wrap64 (a0_10 - t174))) = ji3 := hji3
  obtain ⟨ji4, hji4⟩ : ∃ j_ : Int, (mn (ji3) a0_9) = j_ := ⟨_, rfl⟩
  replace H : (some (1, t174, ji4, a0_4, 0, wrap64 (a0_9 - (ji4)), none)) = some (r1, r2, r3, r4, r5, r6, r7) := by first | (rw [hji4] at H; exact H) | (simp only [hji4] at H ⊢; exact H)
  (try rw [hji4] at A2)
  have hji4_ : (if a0_9 < (ji3) then a0_9 else (ji3)) = ji4 := hji4
  simp only [Option.some.injEq, Prod.mk.injEq] at H
  obtain ⟨rfl, rfl, rfl, rfl, rfl, rfl, rfl⟩ := H
  go_enter Try.func28, Try.ntmps28
  go_wp2_with (first | ((with_reducible refine gate_dst (N := 1) rfl ?_); refine kx (N := 1) (cs := #[.int .i64 a0_0, .int .i64 a0_1, .int .i64 a0_2, .int .i64 a0_3, .int .i64 a0_4, .int .i64 a0_5, .int .i64 a0_6, .int .i64 a0_7, .int .i64 a0_8, .int .i64 a0_9, .int .i64 a0_10, .int .i64 a0_11, .int .i64 a0_12, .int .i64 a0_13, .int .i64 a0_14]) (t := 25) ?_; intro gb172 hg w5 hbox hb; have n0_ := ka (below_step (kw HB.out) hb); have n1_ := ka (hbox); have n2_ := ka ((by rw [hg]; exact (below_size (kw HB.out)) : w.heap.size ≤ gb172)); have n3_ := n2_; clear HB; have HB := n0_; have BK172 := n1_; have GW172 := n2_; have GE172 := n3_; clear n0_ n1_ n2_ n3_; clear hb hbox hg) | ((with_reducible refine gate_dst (N := 2) rfl ?_); refine kx (N := 2) (cs := #[.int .i64 0, .int .i64 0, .int .i64 0, .int .i64 0, .int .i64 0, .int .i64 0]) (t := 28) ?_; intro gb173 hg w6 hbox hb; have n0_ := ka (blk_below (g := gb172) (kz BK172.out) hb); have n1_ := ka (below_step (kw HB.out) hb); have n2_ := ka (hbox); have n3_ := ka ((by rw [hg]; exact (below_size (kw HB.out)) : w.heap.size ≤ gb173)); have n4_ := n3_; have n5_ := ka ((by rw [hg]; exact Nat.ne_of_lt (blk_lt (g := gb172) (kz BK172.out)) : gb172 ≠ gb173)); have n6_ := ka n5_.out.symm; clear BK172; clear HB; have BK172 := n0_; have HB := n1_; have BK173 := n2_; have GW173 := n3_; have GE173 := n4_; have NB172_173 := n5_; have NB173_172 := n6_; clear n0_ n1_ n2_ n3_ n4_ n5_ n6_; clear hb hbox hg; have hnb7 := NB172_173.out; have hnc7 := NB173_172.out; have hcz8 := blkAll15 BK172.out) | ((with_reducible refine gate_callee (f := 32) rfl ?_); refine kg (some 13) rfl rfl Try.func32 (by kernel_rfl) rfl #[.int .i64 a0_9, .int .i64 a0_1] rfl ?_; (with_reducible refine (rate_Month_s.calls a0_9 a0_1 t174 none _ A2.out).mono ?_); rintro e w' ⟨rfl, ⟨nd, rfl⟩⟩; refine ⟨_, rfl, ?_⟩; (try simp only [errW_none, errW_some]); (try (rw [drewN_self w6]; generalize hq_ : World.drewN w6 _ = w6; have n0_ : Aside0 (w6.heap[gb172]? = some (.cells #[.int .i64 a0_0, .int .i64 a0_1, .int .i64 a0_2, .int .i64 a0_3, .int .i64 a0_4, .int .i64 a0_5, .int .i64 a0_6, .int .i64 a0_7, .int .i64 a0_8, .int .i64 a0_9, .int .i64 a0_10, .int .i64 a0_11, .int .i64 a0_12, .int .i64 a0_13, .int .i64 a0_14] 25 (0, 0))) := ⟨by rw [← hq_]; exact (kz BK172.out)⟩; have n1_ : Aside0 (w6.heap[gb173]? = some (.cells #[.int .i64 0, .int .i64 0, .int .i64 0, .int .i64 0, .int .i64 0, .int .i64 0] 28 (0, 0))) := ⟨by rw [← hq_]; exact (kz BK173.out)⟩; have n2_ : Aside0 (Below w.heap.size w w6) := ⟨by rw [← hq_]; exact (kw HB.out)⟩; clear BK172 BK173 HB hq_; have BK172 := n0_; have BK173 := n1_; have HB := n2_; clear n0_ n1_ n2_)); have hcz9 := blkAll15 BK172.out; have hcz10 := blkAll6 BK173.out))
  refine bodyPost_ret (results_ct rfl _ _ gb173 28 #[.int .i64 1, .int .i64 t174, .int .i64 ji4, .int .i64 a0_4, .int .i64 0, .int .i64 (wrap64 (a0_9 - (ji4)))] (0, 0) _ rfl (by (with_reducible repeat (first | apply kb1 | apply kb2 | apply kb3 | apply blkPut6_5 | apply blkPut6_4 | apply blkPut6_3 | apply blkPut6_2 | apply blkPut6_1 | apply blkPut6_0)); exact BK173.out) Try.underlying28 rfl (by kernel_rfl)) rfl ?_
  exact ⟨by first | rfl | (simp [errW_none, errW_some] <;> rfl) | (simp only [← hji3, ← hji4]; first | rfl | (simp [errW_none, errW_some] <;> rfl)) | (simp [*, errW_none, errW_some] <;> rfl), by repeat (first | (with_reducible first | exact HB.out | apply kc1 | apply kc2 | apply kc3 | refine kc4 ?_ GE172.out | refine kc4 ?_ GE173.out) | exact HB.out)⟩
 ·have H1 : (some (0, 0, 0, 0, 0, 0, some q176)) = some (r1, r2, r3, r4, r5, r6, r7) := by rw [if_neg (show ¬ (some q176).isNone = true by simp)] at H; exact H
  clear H
  have H := H1
  clear H1
  try simp only [errW_none, errW_some]
  simp only [Option.some.injEq, Prod.mk.injEq] at H
  obtain ⟨rfl, rfl, rfl, rfl, rfl, rfl, rfl⟩ := H
  go_enter Try.func28, Try.ntmps28
  go_wp2_with (first | ((with_reducible refine gate_dst (N := 1) rfl ?_); refine kx (N := 1) (cs := #[.int .i64 a0_0, .int .i64 a0_1, .int .i64 a0_2, .int .i64 a0_3, .int .i64 a0_4, .int .i64 a0_5, .int .i64 a0_6, .int .i64 a0_7, .int .i64 a0_8, .int .i64 a0_9, .int .i64 a0_10, .int .i64 a0_11, .int .i64 a0_12, .int .i64 a0_13, .int .i64 a0_14]) (t := 25) ?_; intro gb172 hg w11 hbox hb; have n0_ := ka (below_step (kw HB.out) hb); have n1_ := ka (hbox); have n2_ := ka ((by rw [hg]; exact (below_size (kw HB.out)) : w.heap.size ≤ gb172)); have n3_ := n2_; clear HB; have HB := n0_; have BK172 := n1_; have GW172 := n2_; have GE172 := n3_; clear n0_ n1_ n2_ n3_; clear hb hbox hg) | ((with_reducible refine gate_dst (N := 2) rfl ?_); refine kx (N := 2) (cs := #[.int .i64 0, .int .i64 0, .int .i64 0, .int .i64 0, .int .i64 0, .int .i64 0]) (t := 28) ?_; intro gb173 hg w12 hbox hb; have n0_ := ka (blk_below (g := gb172) (kz BK172.out) hb); have n1_ := ka (below_step (kw HB.out) hb); have n2_ := ka (hbox); have n3_ := ka ((by rw [hg]; exact (below_size (kw HB.out)) : w.heap.size ≤ gb173)); have n4_ := n3_; have n5_ := ka ((by rw [hg]; exact Nat.ne_of_lt (blk_lt (g := gb172) (kz BK172.out)) : gb172 ≠ gb173)); have n6_ := ka n5_.out.symm; clear BK172; clear HB; have BK172 := n0_; have HB := n1_; have BK173 := n2_; have GW173 := n3_; have GE173 := n4_; have NB172_173 := n5_; have NB173_172 := n6_; clear n0_ n1_ n2_ n3_ n4_ n5_ n6_; clear hb hbox hg; have hnb13 := NB172_173.out; have hnc13 := NB173_172.out; have hcz14 := blkAll15 BK172.out) | ((with_reducible refine gate_callee (f := 32) rfl ?_); refine kg (some 13) rfl rfl Try.func32 (by kernel_rfl) rfl #[.int .i64 a0_9, .int .i64 a0_1] rfl ?_; (with_reducible refine (rate_Month_s.calls a0_9 a0_1 t174 (some q176) _ A2.out).mono ?_); rintro e w' ⟨rfl, ⟨nd, rfl⟩⟩; refine ⟨_, rfl, ?_⟩; (try simp only [errW_none, errW_some]); (try (rw [drewN_self w12]; generalize hq_ : World.drewN w12 _ = w12; have n0_ : Aside0 (w12.heap[gb172]? = some (.cells #[.int .i64 a0_0, .int .i64 a0_1, .int .i64 a0_2, .int .i64 a0_3, .int .i64 a0_4, .int .i64 a0_5, .int .i64 a0_6, .int .i64 a0_7, .int .i64 a0_8, .int .i64 a0_9, .int .i64 a0_10, .int .i64 a0_11, .int .i64 a0_12, .int .i64 a0_13, .int .i64 a0_14] 25 (0, 0))) := ⟨by rw [← hq_]; exact (kz BK172.out)⟩; have n1_ : Aside0 (w12.heap[gb173]? = some (.cells #[.int .i64 0, .int .i64 0, .int .i64 0, .int .i64 0, .int .i64 0, .int .i64 0] 28 (0, 0))) := ⟨by rw [← hq_]; exact (kz BK173.out)⟩; have n2_ : Aside0 (Below w.heap.size w w12) := ⟨by rw [← hq_]; exact (kw HB.out)⟩; clear BK172 BK173 HB hq_; have BK172 := n0_; have BK173 := n1_; have HB := n2_; clear n0_ n1_ n2_)); have hcz15 := blkAll6 BK173.out))
  refine bodyPost_ret (results_ct rfl _ _ gb173 28 #[.int .i64 0, .int .i64 0, .int .i64 0, .int .i64 0, .int .i64 0, .int .i64 0] (0, 0) _ rfl (by (with_reducible repeat (first | apply kb1 | apply kb2 | apply kb3 | apply blkPut6_5 | apply blkPut6_4 | apply blkPut6_3 | apply blkPut6_2 | apply blkPut6_1 | apply blkPut6_0)); exact BK173.out) Try.underlying28 rfl (by kernel_rfl)) rfl ?_
  exact ⟨by first | rfl | (simp [errW_none, errW_some] <;> rfl) | (simp [*, errW_none, errW_some] <;> rfl), by repeat (first | (with_reducible first | exact HB.out | apply kc1 | apply kc2 | apply kc3 | refine kc4 ?_ GE172.out | refine kc4 ?_ GE173.out) | exact HB.out)⟩

/-! ### water_next_s: function 28, told plainly -/
theorem water_next.tells (b r m f e i w fe g bal lvl du cnt sus late : Int) (h : M.may bal r ∧ 0 ≤ lvl ∧ lvl ≤ 20000000000000) : water_next.f b r m f e i w fe g bal lvl du cnt sus late = some (1, M.month bal r, M.prin bal r lvl, e, 0, bal - M.prin bal r lvl, none) := by
 obtain ⟨h1, h2, h3⟩ := h
 have a := M.month_nonneg h1
 have c := M.month_le h1
 have d := h1.2.1
 have d0 := h1.1
 have p := M.prin_bd (lvl := lvl) h1
 have q : mn (mx (lvl - M.month bal r) 0) bal = M.prin bal r lvl := by
  unfold mn mx M.prin
  repeat' split
  all_goals omega
 unfold water_next.f
 rw [rate_Month_s.yes h1, Option.bind_some, if_pos (show ((none : Option Int).isNone = true) from rfl)]
 simp only []
 rw [M.w64_id (n := lvl - M.month bal r) (by omega) (by omega), q, M.w64_id (n := bal - M.prin bal r lvl) (by omega) (by omega)]
def water_next_s.f (b r m f e i w fe g bal lvl du cnt sus late : Int) : Option (Int × Int × Int × Int × Int × Int × Option Int) := if M.may bal r ∧ 0 ≤ lvl ∧ lvl ≤ 20000000000000 then some (1, M.month bal r, M.prin bal r lvl, e, 0, bal - M.prin bal r lvl, none) else none
theorem water_next_s.calls (a0_0 : Int) (a0_1 : Int) (a0_2 : Int) (a0_3 : Int) (a0_4 : Int) (a0_5 : Int) (a0_6 : Int) (a0_7 : Int) (a0_8 : Int) (a0_9 : Int) (a0_10 : Int) (a0_11 : Int) (a0_12 : Int) (a0_13 : Int) (a0_14 : Int) (r1 : Int) (r2 : Int) (r3 : Int) (r4 : Int) (r5 : Int) (r6 : Int) (r7 : Option Int) (w : World) (h : water_next_s.f a0_0 a0_1 a0_2 a0_3 a0_4 a0_5 a0_6 a0_7 a0_8 a0_9 a0_10 a0_11 a0_12 a0_13 a0_14 = some (r1, r2, r3, r4, r5, r6, r7)) :
  Calls Try.prog 28 #[.agg #[.int .i64 a0_0, .int .i64 a0_1, .int .i64 a0_2, .int .i64 a0_3, .int .i64 a0_4, .int .i64 a0_5, .int .i64 a0_6, .int .i64 a0_7, .int .i64 a0_8, .int .i64 a0_9, .int .i64 a0_10, .int .i64 a0_11, .int .i64 a0_12, .int .i64 a0_13, .int .i64 a0_14]] w fun e w' => e = .returned (.tuple #[.agg #[.int .i64 r1, .int .i64 r2, .int .i64 r3, .int .i64 r4, .int .i64 r5, .int .i64 r6], errW r7]) ∧ Below w.heap.size w w' := by
 unfold water_next_s.f at h
 split at h
 ·rename_i hr
  exact water_next.calls a0_0 a0_1 a0_2 a0_3 a0_4 a0_5 a0_6 a0_7 a0_8 a0_9 a0_10 a0_11 a0_12 a0_13 a0_14 r1 r2 r3 r4 r5 r6 r7 w ((water_next.tells a0_0 a0_1 a0_2 a0_3 a0_4 a0_5 a0_6 a0_7 a0_8 a0_9 a0_10 a0_11 a0_12 a0_13 a0_14 hr).trans h)
 ·cases h
theorem water_next_s.yes {b r m f e i w fe g bal lvl du cnt sus late : Int} (h : M.may bal r ∧ 0 ≤ lvl ∧ lvl ≤ 20000000000000) : water_next_s.f b r m f e i w fe g bal lvl du cnt sus late = some (1, M.month bal r, M.prin bal r lvl, e, 0, bal - M.prin bal r lvl, none) := by unfold water_next_s.f; rw [if_pos h]

/-! ### date_Number: function 45 -/
def date_Number.f (a0_0 : Int) (a0_1 : Int) (a0_2 : Int) : Option (Int × Option Int) := (date_May_s.f a0_0 a0_1 a0_2).bind fun t178 => (if t178 = true then ((date_civil_s.f a0_0 a0_1 a0_2).bind fun t179 => (some (t179, none))) else (some (0, some 2)))
set_option maxHeartbeats 8000000 in
set_option maxRecDepth 100000 in
theorem date_Number.calls (a0_0 : Int) (a0_1 : Int) (a0_2 : Int) (r1 : Int) (r2 : Option Int) (w : World) (h : date_Number.f a0_0 a0_1 a0_2 = some (r1, r2)) :
  Calls Try.prog 45 #[.agg #[.int .i64 a0_0, .int .i64 a0_1, .int .i64 a0_2]] w fun e w' => e = .returned (.tuple #[.int .i64 r1, errW r2]) ∧ Below w.heap.size w w' := by
 have hu53 := Try.underlying53
 have hu30 := Try.underlying30
 have hu34 := Try.underlying34
 have HB := ka (Below.refl w.heap.size w)
 have H : ((date_May_s.f a0_0 a0_1 a0_2).bind fun t178 => (if t178 = true then ((date_civil_s.f a0_0 a0_1 a0_2).bind fun t179 => (some (t179, none))) else (some (0, some 2)))) = some (r1, r2) := h
 clear h
 replace H := Option.bind_eq_some_iff.mp H
 obtain ⟨t178, A20, H⟩ := H
 replace H : (if t178 = true then ((date_civil_s.f a0_0 a0_1 a0_2).bind fun t179 => (some (t179, none))) else (some (0, some 2))) = some (r1, r2) := H
 have A2 := ka A20
 clear A20
 by_cases c3 : t178 = true
 ·subst c3
  have H1 : ((date_civil_s.f a0_0 a0_1 a0_2).bind fun t179 => (some (t179, none))) = some (r1, r2) := by rw [if_pos rfl] at H; exact H
  clear H
  have H := H1
  clear H1
  replace H := Option.bind_eq_some_iff.mp H
  obtain ⟨t179, A40, H⟩ := H
  replace H : (some (t179, none)) = some (r1, r2) := H
  have A4 := ka A40
  clear A40
  simp only [Option.some.injEq, Prod.mk.injEq] at H
  obtain ⟨rfl, rfl⟩ := H
  go_enter Try.func45, Try.ntmps45
  go_wp2_with (first | ((with_reducible refine gate_dst (N := 1) rfl ?_); refine kx (N := 1) (cs := #[.int .i64 a0_0, .int .i64 a0_1, .int .i64 a0_2]) (t := 53) ?_; intro gb177 hg w5 hbox hb; have n0_ := ka (below_step (kw HB.out) hb); have n1_ := ka (hbox); have n2_ := ka ((by rw [hg]; exact (below_size (kw HB.out)) : w.heap.size ≤ gb177)); have n3_ := n2_; clear HB; have HB := n0_; have BK177 := n1_; have GW177 := n2_; have GE177 := n3_; clear n0_ n1_ n2_ n3_; clear hb hbox hg; have hcz6 := blkAll3 BK177.out) | ((with_reducible refine gate_callee (f := 55) rfl ?_); refine kg (some 5) rfl rfl Try.func55 (by kernel_rfl) rfl #[.agg #[.int .i64 a0_0, .int .i64 a0_1, .int .i64 a0_2]] rfl ?_; (with_reducible refine (date_May_s.calls a0_0 a0_1 a0_2 true _ A2.out).mono ?_); rintro e w7 ⟨rfl, hb⟩; refine ⟨_, rfl, ?_⟩; have n0_ := ka (blk_below (g := gb177) (kz BK177.out) hb); have n1_ := ka (below_step (kw HB.out) hb); clear BK177; clear HB; have BK177 := n0_; have HB := n1_; clear n0_ n1_; (try clear hb); (try clear hb2); (try clear hk); (try clear hi); have hcz8 := blkAll3 BK177.out) | ((with_reducible refine gate_callee (f := 47) rfl ?_); refine kg (some 14) rfl rfl Try.func47 (by kernel_rfl) rfl #[.int .i64 a0_0, .int .i64 a0_1, .int .i64 a0_2] rfl ?_; (with_reducible refine (date_civil_s.calls a0_0 a0_1 a0_2 t179 _ A4.out).mono ?_); rintro e w' ⟨rfl, ⟨nd, rfl⟩⟩; refine ⟨_, rfl, ?_⟩))
  go_ret2
  exact ⟨by first | rfl | (simp [errW_none, errW_some] <;> rfl) | (simp [*, errW_none, errW_some] <;> rfl), by repeat (first | (with_reducible first | exact HB.out | apply kc1 | apply kc2 | apply kc3 | refine kc4 ?_ GE177.out) | exact HB.out)⟩
 ·replace c3 := Bool.eq_false_iff.mpr c3
  subst c3
  have H1 : (some (0, some 2)) = some (r1, r2) := by rw [if_neg (show ¬ (false = true) by decide)] at H; exact H
  clear H
  have H := H1
  clear H1
  simp only [Option.some.injEq, Prod.mk.injEq] at H
  obtain ⟨rfl, rfl⟩ := H
  go_enter Try.func45, Try.ntmps45
  go_wp2_with (first | ((with_reducible refine gate_dst (N := 1) rfl ?_); refine kx (N := 1) (cs := #[.int .i64 a0_0, .int .i64 a0_1, .int .i64 a0_2]) (t := 53) ?_; intro gb177 hg w9 hbox hb; have n0_ := ka (below_step (kw HB.out) hb); have n1_ := ka (hbox); have n2_ := ka ((by rw [hg]; exact (below_size (kw HB.out)) : w.heap.size ≤ gb177)); have n3_ := n2_; clear HB; have HB := n0_; have BK177 := n1_; have GW177 := n2_; have GE177 := n3_; clear n0_ n1_ n2_ n3_; clear hb hbox hg; have hcz10 := blkAll3 BK177.out) | ((with_reducible refine gate_callee (f := 55) rfl ?_); refine kg (some 5) rfl rfl Try.func55 (by kernel_rfl) rfl #[.agg #[.int .i64 a0_0, .int .i64 a0_1, .int .i64 a0_2]] rfl ?_; (with_reducible refine (date_May_s.calls a0_0 a0_1 a0_2 false _ A2.out).mono ?_); rintro e w11 ⟨rfl, hb⟩; refine ⟨_, rfl, ?_⟩; have n0_ := ka (blk_below (g := gb177) (kz BK177.out) hb); have n1_ := ka (below_step (kw HB.out) hb); clear BK177; clear HB; have BK177 := n0_; have HB := n1_; clear n0_ n1_; (try clear hb); (try clear hb2); (try clear hk); (try clear hi)))
  go_ret2
  exact ⟨by first | rfl | (simp [errW_none, errW_some] <;> rfl) | (simp [*, errW_none, errW_some] <;> rfl), by repeat (first | (with_reducible first | exact HB.out | apply kc1 | apply kc2 | apply kc3 | refine kc4 ?_ GE177.out) | exact HB.out)⟩

/-! ### date_Number_s: function 45, told plainly -/
theorem date_Number.tells (y m d : Int) : date_Number.f y m d = some (if M.date y m d then (M.civ y m d, none) else (0, some 2)) := by
 unfold date_Number.f date_May_s.f
 rw [Option.bind_some]
 by_cases h : M.date y m d
 ·have a := M.date_in h
  rw [if_pos (decide_eq_true h), if_pos h]
  unfold date_civil_s.f
  rw [if_pos (by omega)]
  rfl
 ·rw [if_neg (by simpa using h), if_neg h]
def date_Number_s.f (y m d : Int) : Option (Int × Option Int) := some (if M.date y m d then (M.civ y m d, none) else (0, some 2))
theorem date_Number_s.calls (a0_0 : Int) (a0_1 : Int) (a0_2 : Int) (r1 : Int) (r2 : Option Int) (w : World) (h : date_Number_s.f a0_0 a0_1 a0_2 = some (r1, r2)) :
  Calls Try.prog 45 #[.agg #[.int .i64 a0_0, .int .i64 a0_1, .int .i64 a0_2]] w fun e w' => e = .returned (.tuple #[.int .i64 r1, errW r2]) ∧ Below w.heap.size w w' := by
 exact date_Number.calls a0_0 a0_1 a0_2 r1 r2 w ((date_Number.tells a0_0 a0_1 a0_2).trans h)
theorem date_Number_s.yes {y m d : Int} (h : M.date y m d) : date_Number_s.f y m d = some (M.civ y m d, none) := by unfold date_Number_s.f; rw [if_pos h]
theorem date_Number_s.no {y m d : Int} (h : ¬ M.date y m d) : date_Number_s.f y m d = some (0, some 2) := by unfold date_Number_s.f; rw [if_neg h]

end Go.Proofs.Ytimobafoidplaaa.P
