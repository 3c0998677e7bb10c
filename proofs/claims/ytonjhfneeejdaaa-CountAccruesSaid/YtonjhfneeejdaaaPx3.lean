-- Written by a program of this session out of the translation of the seat: Lean functions and the proofs that the Go functions come to them.
import Derived.Test.YtonjhfneeejdaaaPx0
import Derived.Test.YtonjhfneeejdaaaPx1
import Derived.Test.YtonjhfneeejdaaaPx2
namespace Go.Proofs.Ytonjhfneeejdaaa.P
open Go.RowKit Go.Proofs.YtonjhfneeejdaaaW.PrintWords Go.Proofs.YtonjhfneeejdaaaW.PrintLast Go.Proofs.YtonjhfneeejdaaaW.PrintMore
attribute [local go_sem] max2_int min2_int max_two min_two max_three min_three max_four min_four   -- for this text's walks alone
set_option linter.unusedVariables false
set_option linter.unusedSimpArgs false

/-! ### cents_further: function 37 -/
def cents_further.f (a0 : Int) (a1 : Int) (a2 : Int) (a3 : Bool) (a4 : Int) : Option (Bool) := if a4 = 1 then (if a3 = true then (some (decide (a1 > 0))) else (some false)) else (if a4 = 2 then (if a3 = true then (some false) else (some (decide (a1 > 0)))) else (if a4 = 3 then (if a1 > (IntKind.u64.wrap (a2 - a1)) then (some true) else (some (a1 == (IntKind.u64.wrap (a2 - a1))))) else (if a1 > (IntKind.u64.wrap (a2 - a1)) then (some true) else (if a1 = (IntKind.u64.wrap (a2 - a1)) then (some ((Go.bits .and .u64 a0 1) == 1)) else (some false)))))
set_option maxHeartbeats 8000000 in
set_option maxRecDepth 100000 in
theorem cents_further.calls (a0 : Int) (a1 : Int) (a2 : Int) (a3 : Bool) (a4 : Int) (r : Bool) (w : World) (h : cents_further.f a0 a1 a2 a3 a4 = some r) :
  Calls Try.prog 37 #[.int .u64 a0, .int .u64 a1, .int .u64 a2, .bool a3, .int .i64 a4] w fun e w' => e = .returned (.bool r) ∧ Drawn0 w w' := by
 have H : (if a4 = 1 then (if a3 = true then (some (decide (a1 > 0))) else (some false)) else (if a4 = 2 then (if a3 = true then (some false) else (some (decide (a1 > 0)))) else (if a4 = 3 then (if a1 > (IntKind.u64.wrap (a2 - a1)) then (some true) else (some (a1 == (IntKind.u64.wrap (a2 - a1))))) else (if a1 > (IntKind.u64.wrap (a2 - a1)) then (some true) else (if a1 = (IntKind.u64.wrap (a2 - a1)) then (some ((Go.bits .and .u64 a0 1) == 1)) else (some false)))))) = some r := h
 clear h
 by_cases c6 : a4 = 1
 ·rw [if_pos c6] at H
  have c6b0 : (a4 == 1) = true := beq_iff_eq.mpr c6
  have c6b1 : (a4 != 1) = false := bne_eq_false_iff_eq.mpr c6
  clear c6
  by_cases c7 : a3 = true
  ·subst c7
   have H1 : (some (decide (a1 > 0))) = some r := by rw [if_pos rfl] at H; exact H
   clear H
   have H := H1
   clear H1
   obtain rfl := Option.some.inj H
   go_enter Try.func37, Try.ntmps37
   go_wp2
   go_ret
   exact ⟨by first | rfl | (simp; done) | (simp [*]; done), by repeat (first | exact Drawn0.refl _ | apply Drawn0.step)⟩
  ·replace c7 := Bool.eq_false_iff.mpr c7
   subst c7
   have H1 : (some false) = some r := by rw [if_neg (show ¬ (false = true) by decide)] at H; exact H
   clear H
   have H := H1
   clear H1
   obtain rfl := Option.some.inj H
   go_enter Try.func37, Try.ntmps37
   go_wp2
   go_ret
   exact ⟨by first | rfl | (simp; done) | (simp [*]; done), by repeat (first | exact Drawn0.refl _ | apply Drawn0.step)⟩
 ·rw [if_neg c6] at H
  have c6b0 : (a4 == 1) = false := beq_eq_false_iff_ne.mpr c6
  have c6b1 : (a4 != 1) = true := bne_iff_ne.mpr c6
  by_cases c8 : a4 = 2
  ·rw [if_pos c8] at H
   have c8b0 : (a4 == 2) = true := beq_iff_eq.mpr c8
   have c8b1 : (a4 != 2) = false := bne_eq_false_iff_eq.mpr c8
   clear c8
   by_cases c9 : a3 = true
   ·subst c9
    have H1 : (some false) = some r := by rw [if_pos rfl] at H; exact H
    clear H
    have H := H1
    clear H1
    obtain rfl := Option.some.inj H
    go_enter Try.func37, Try.ntmps37
    go_wp2
    go_ret
    exact ⟨by first | rfl | (simp; done) | (simp [*]; done), by repeat (first | exact Drawn0.refl _ | apply Drawn0.step)⟩
   ·replace c9 := Bool.eq_false_iff.mpr c9
    subst c9
    have H1 : (some (decide (a1 > 0))) = some r := by rw [if_neg (show ¬ (false = true) by decide)] at H; exact H
    clear H
    have H := H1
    clear H1
    obtain rfl := Option.some.inj H
    go_enter Try.func37, Try.ntmps37
    go_wp2
    go_ret
    exact ⟨by first | rfl | (simp; done) | (simp [*]; done), by repeat (first | exact Drawn0.refl _ | apply Drawn0.step)⟩
  ·rw [if_neg c8] at H
   have c8b0 : (a4 == 2) = false := beq_eq_false_iff_ne.mpr c8
   have c8b1 : (a4 != 2) = true := bne_iff_ne.mpr c8
   by_cases c10 : a4 = 3
   ·rw [if_pos c10] at H
    have c10b0 : (a4 == 3) = true := beq_iff_eq.mpr c10
    have c10b1 : (a4 != 3) = false := bne_eq_false_iff_eq.mpr c10
    clear c10
    by_cases c11 : a1 > (IntKind.u64.wrap (a2 - a1))
    ·rw [if_pos c11] at H
     have c11b0 : decide ((IntKind.u64.wrap (a2 - a1)) < a1) = true := decide_eq_true c11
     clear c11
     obtain rfl := Option.some.inj H
     go_enter Try.func37, Try.ntmps37
     go_wp2
     go_ret
     exact ⟨by first | rfl | (simp; done) | (simp [*]; done), by repeat (first | exact Drawn0.refl _ | apply Drawn0.step)⟩
    ·rw [if_neg c11] at H
     have c11b0 : decide ((IntKind.u64.wrap (a2 - a1)) < a1) = false := decide_eq_false c11
     clear c11
     obtain rfl := Option.some.inj H
     go_enter Try.func37, Try.ntmps37
     go_wp2
     go_ret
     exact ⟨by first | rfl | (simp; done) | (simp [*]; done), by repeat (first | exact Drawn0.refl _ | apply Drawn0.step)⟩
   ·rw [if_neg c10] at H
    have c10b0 : (a4 == 3) = false := beq_eq_false_iff_ne.mpr c10
    have c10b1 : (a4 != 3) = true := bne_iff_ne.mpr c10
    by_cases c12 : a1 > (IntKind.u64.wrap (a2 - a1))
    ·rw [if_pos c12] at H
     have c12b0 : decide ((IntKind.u64.wrap (a2 - a1)) < a1) = true := decide_eq_true c12
     clear c12
     obtain rfl := Option.some.inj H
     go_enter Try.func37, Try.ntmps37
     go_wp2
     go_ret
     exact ⟨by first | rfl | (simp; done) | (simp [*]; done), by repeat (first | exact Drawn0.refl _ | apply Drawn0.step)⟩
    ·rw [if_neg c12] at H
     have c12b0 : decide ((IntKind.u64.wrap (a2 - a1)) < a1) = false := decide_eq_false c12
     clear c12
     by_cases c13 : a1 = (IntKind.u64.wrap (a2 - a1))
     ·rw [if_pos c13] at H
      have c13b0 : (a1 == (IntKind.u64.wrap (a2 - a1))) = true := beq_iff_eq.mpr c13
      have c13b1 : (a1 != (IntKind.u64.wrap (a2 - a1))) = false := bne_eq_false_iff_eq.mpr c13
      clear c13
      obtain rfl := Option.some.inj H
      go_enter Try.func37, Try.ntmps37
      go_wp2
      go_ret
      exact ⟨by first | rfl | (simp; done) | (simp [*]; done), by repeat (first | exact Drawn0.refl _ | apply Drawn0.step)⟩
     ·rw [if_neg c13] at H
      have c13b0 : (a1 == (IntKind.u64.wrap (a2 - a1))) = false := beq_eq_false_iff_ne.mpr c13
      have c13b1 : (a1 != (IntKind.u64.wrap (a2 - a1))) = true := bne_iff_ne.mpr c13
      obtain rfl := Option.some.inj H
      go_enter Try.func37, Try.ntmps37
      go_wp2
      go_ret
      exact ⟨by first | rfl | (simp; done) | (simp [*]; done), by repeat (first | exact Drawn0.refl _ | apply Drawn0.step)⟩

/-! ### cents_signed: function 38 -/
def cents_signed.f (a0 : Int) (a1 : Bool) : Option (Int × Bool) := if a1 = true then (some (wrap64 (IntKind.u64.wrap (-a0)), decide (a0 ≤ 9223372036854775808))) else (some (wrap64 (a0), decide (a0 < 9223372036854775808)))
set_option maxHeartbeats 8000000 in
set_option maxRecDepth 100000 in
theorem cents_signed.calls (a0 : Int) (a1 : Bool) (r1 : Int) (r2 : Bool) (w : World) (h : cents_signed.f a0 a1 = some (r1, r2)) :
  Calls Try.prog 38 #[.int .u64 a0, .bool a1] w fun e w' => e = .returned (.tuple #[.int .i64 r1, .bool r2]) ∧ Drawn0 w w' := by
 have H : (if a1 = true then (some (wrap64 (IntKind.u64.wrap (-a0)), decide (a0 ≤ 9223372036854775808))) else (some (wrap64 (a0), decide (a0 < 9223372036854775808)))) = some (r1, r2) := h
 clear h
 by_cases c3 : a1 = true
 ·subst c3
  have H1 : (some (wrap64 (IntKind.u64.wrap (-a0)), decide (a0 ≤ 9223372036854775808))) = some (r1, r2) := by rw [if_pos rfl] at H; exact H
  clear H
  have H := H1
  clear H1
  simp only [Option.some.injEq, Prod.mk.injEq] at H
  obtain ⟨rfl, rfl⟩ := H
  go_enter Try.func38, Try.ntmps38
  go_wp2
  go_ret2
  exact ⟨by first | rfl | (simp; done) | (simp [*]; done), by repeat (first | exact Drawn0.refl _ | apply Drawn0.step)⟩
 ·replace c3 := Bool.eq_false_iff.mpr c3
  subst c3
  have H1 : (some (wrap64 (a0), decide (a0 < 9223372036854775808))) = some (r1, r2) := by rw [if_neg (show ¬ (false = true) by decide)] at H; exact H
  clear H
  have H := H1
  clear H1
  simp only [Option.some.injEq, Prod.mk.injEq] at H
  obtain ⟨rfl, rfl⟩ := H
  go_enter Try.func38, Try.ntmps38
  go_wp2
  go_ret2
  exact ⟨by first | rfl | (simp; done) | (simp [*]; done), by repeat (first | exact Drawn0.refl _ | apply Drawn0.step)⟩

/-! ### cents_MulDiv: function 23 -/
mutual
def cents_MulDiv.j0 : Nat → Int → Int → Int → Int → Bool → Option (Int × Option Int)
 | 0, _, _, _, _, _ => none
 | k + 1, x0, x1, x2, x3, x32 => if x32 = true then (some (0, some 1)) else ((cents_size.f x0).bind fun bt419 => ((cents_size.f x1).bind fun bt421 => ((cents_size.f x2).bind fun bt423 => ((bits_Mul64_s.f bt419.1 bt421.1).bind fun bt425 => (if bt425.1 ≥ bt423.1 then (some (0, some 3)) else ((bits_Div64_s.f bt425.1 bt425.2 bt423.1).bind fun bt427 => (if bt427.2 > 0 then ((cents_further.f bt427.1 bt427.2 bt423.1 (!((!(bt419.2 == bt421.2)) == bt423.2)) x3).bind fun t429 => (cents_MulDiv.j1 k (!((!(bt419.2 == bt421.2)) == bt423.2)) bt427.1 t429)) else (cents_MulDiv.j1 k (!((!(bt419.2 == bt421.2)) == bt423.2)) bt427.1 false))))))))
def cents_MulDiv.j1 : Nat → Bool → Int → Bool → Option (Int × Option Int)
 | 0, _, _, _ => none
 | k + 1, x16, x19, x80 => if x80 = true then (if (IntKind.u64.wrap (x19 + 1)) = 0 then (some (0, some 3)) else ((cents_signed.f (IntKind.u64.wrap (x19 + 1)) x16).bind fun bt430 => (if bt430.2 = true then (some (bt430.1, none)) else (some (0, some 3))))) else ((cents_signed.f x19 x16).bind fun bt432 => (if bt432.2 = true then (some (bt432.1, none)) else (some (0, some 3))))
end
def cents_MulDiv.f (k : Nat) (a0 : Int) (a1 : Int) (a2 : Int) (a3 : Int) : Option (Int × Option Int) := if a2 = 0 then (cents_MulDiv.j0 k a0 a1 a2 a3 true) else (if a3 < 1 then (cents_MulDiv.j0 k a0 a1 a2 a3 true) else (cents_MulDiv.j0 k a0 a1 a2 a3 (decide (a3 > 4))))
theorem cents_MulDiv.mono_l : ∀ k, (∀ y0 y1 y2 y3 y4, LeO (cents_MulDiv.j0 k y0 y1 y2 y3 y4) (cents_MulDiv.j0 (k + 1) y0 y1 y2 y3 y4)) ∧ (∀ y0 y1 y2, LeO (cents_MulDiv.j1 k y0 y1 y2) (cents_MulDiv.j1 (k + 1) y0 y1 y2))
 | 0 => ⟨fun _ _ _ _ _ r h => by simp [cents_MulDiv.j0] at h, fun _ _ _ r h => by simp [cents_MulDiv.j1] at h⟩
 | k + 1 => by
  obtain ⟨ih0, ih1⟩ := cents_MulDiv.mono_l k
  refine ⟨?_, ?_⟩
  ·intro y0 y1 y2 y3 y4
   unfold cents_MulDiv.j0
   repeat' first
   | (with_reducible exact ih0 _ _ _ _ _)
   | (with_reducible exact ih1 _ _ _)
   | (with_reducible exact LeO.refl _)
   | (with_reducible exact LeO.none _)
   | (with_reducible refine LeO.ite ?_ ?_)
   | (with_reducible refine LeO.bind ?_ (fun _ => ?_))
   | exact ih0 _ _ _ _ _
   | exact ih1 _ _ _
   | exact LeO.none _
   | refine LeO.ite ?_ ?_
   | refine LeO.bind ?_ (fun _ => ?_)
  ·intro y0 y1 y2
   unfold cents_MulDiv.j1
   repeat' first
   | (with_reducible exact ih0 _ _ _ _ _)
   | (with_reducible exact ih1 _ _ _)
   | (with_reducible exact LeO.refl _)
   | (with_reducible exact LeO.none _)
   | (with_reducible refine LeO.ite ?_ ?_)
   | (with_reducible refine LeO.bind ?_ (fun _ => ?_))
   | exact ih0 _ _ _ _ _
   | exact ih1 _ _ _
   | exact LeO.none _
   | refine LeO.ite ?_ ?_
   | refine LeO.bind ?_ (fun _ => ?_)
theorem cents_MulDiv.mono : ∀ a0 a1 a2 a3 k, LeO (cents_MulDiv.f k a0 a1 a2 a3) (cents_MulDiv.f (k + 1) a0 a1 a2 a3) := by
 intro a0 a1 a2 a3 k
 obtain ⟨ih0, ih1⟩ := cents_MulDiv.mono_l k
 unfold cents_MulDiv.f
 repeat' first
   | (with_reducible exact ih0 _ _ _ _ _)
   | (with_reducible exact ih1 _ _ _)
   | (with_reducible exact LeO.refl _)
   | (with_reducible exact LeO.none _)
   | (with_reducible refine LeO.ite ?_ ?_)
   | (with_reducible refine LeO.bind ?_ (fun _ => ?_))
   | exact ih0 _ _ _ _ _
   | exact ih1 _ _ _
   | exact LeO.none _
   | refine LeO.ite ?_ ?_
   | refine LeO.bind ?_ (fun _ => ?_)
set_option maxHeartbeats 8000000 in
set_option maxRecDepth 100000 in
theorem cents_MulDiv.calls (k : Nat) (a0 : Int) (a1 : Int) (a2 : Int) (a3 : Int) (r1 : Int) (r2 : Option Int) (w : World) (h : cents_MulDiv.f k a0 a1 a2 a3 = some (r1, r2)) :
  Calls Try.prog 23 #[.int .i64 a0, .int .i64 a1, .int .i64 a2, .int .i64 a3] w fun e w' => e = .returned (.tuple #[.int .i64 r1, errW r2]) ∧ Drawn0 w w' := by
 have hu26 := Try.underlying26
 have hu30 := Try.underlying30
 have H : (if a2 = 0 then (cents_MulDiv.j0 k a0 a1 a2 a3 true) else (if a3 < 1 then (cents_MulDiv.j0 k a0 a1 a2 a3 true) else (cents_MulDiv.j0 k a0 a1 a2 a3 (decide (a3 > 4))))) = some (r1, r2) := h
 clear h
 have HC5 := ka H
 clear H
 go_enter Try.func23, Try.ntmps23
 go_upto_region 1 with (fail)
 go_cut [32] (fun v32 wc => ∃ (kq : Nat) (x32_4 : Bool), v32 = .bool x32_4 ∧ Aside0 (cents_MulDiv.j0 kq a0 a1 a2 a3 x32_4 = some (r1, r2)) ∧ Aside0 (kq ≤ k) ∧ Drawn0 w wc)
 case first =>
  have H := HC5.out
  clear HC5
  by_cases c6 : a2 = 0
  ·rw [if_pos c6] at H
   have c6b0 : (a2 == 0) = true := beq_iff_eq.mpr c6
   have c6b1 : (a2 != 0) = false := bne_eq_false_iff_eq.mpr c6
   clear c6
   (first | rw [c6b0] | (simp only [i64_w, i32_w]; rw [c6b0]) | skip)
   have H' := ka H
   clear H
   go_wp2
   go_meet
   case rel => exact ⟨_, (true), (by first | rfl | (simp; done) | (simp [*]; done)), H', ⟨by first | omega | exact Nat.le_refl _⟩, by repeat (first | exact Drawn0.refl _ | apply Drawn0.step)⟩
  ·rw [if_neg c6] at H
   have c6b0 : (a2 == 0) = false := beq_eq_false_iff_ne.mpr c6
   have c6b1 : (a2 != 0) = true := bne_iff_ne.mpr c6
   (first | rw [c6b0] | (simp only [i64_w, i32_w]; rw [c6b0]) | skip)
   by_cases c7 : a3 < 1
   ·rw [if_pos c7] at H
    have c7b0 : decide (a3 < 1) = true := decide_eq_true c7
    clear c7
    have H' := ka H
    clear H
    go_wp2
    go_meet
    case rel => exact ⟨_, (true), (by first | rfl | (simp; done) | (simp [*]; done)), H', ⟨by first | omega | exact Nat.le_refl _⟩, by repeat (first | exact Drawn0.refl _ | apply Drawn0.step)⟩
   ·rw [if_neg c7] at H
    have c7b0 : decide (a3 < 1) = false := decide_eq_false c7
    clear c7
    have H' := ka H
    clear H
    go_wp2
    go_meet
    case rel => exact ⟨_, (decide (a3 > 4)), (by first | rfl | (simp; done) | (simp [*]; done)), H', ⟨by first | omega | exact Nat.le_refl _⟩, by repeat (first | exact Drawn0.refl _ | apply Drawn0.step)⟩
 case rest =>
  clear HC5
  try clear c2
  try clear p2
  try clear c6
  try clear c6b0
  try clear c6b1
  try clear c7
  try clear c7b0
  obtain ⟨kq, x32_4, rfl, HA, HJ4, ⟨mc4, rfl⟩⟩ := hcut
  cases kq with
  | zero => exact absurd HA.out (by simp [cents_MulDiv.j0])
  | succ kj4 =>
   have H := HA.out
   clear HA
   simp only [cents_MulDiv.j0] at H
   by_cases c8 : x32_4 = true
   ·subst c8
    have H1 : (some (0, some 1)) = some (r1, r2) := by rw [if_pos rfl] at H; exact H
    clear H
    have H := H1
    clear H1
    simp only [Option.some.injEq, Prod.mk.injEq] at H
    obtain ⟨rfl, rfl⟩ := H
    go_wp2
    go_ret2
    exact ⟨by first | rfl | (simp; done) | (simp [*]; done), by repeat (first | exact Drawn0.refl _ | apply Drawn0.step)⟩
   ·replace c8 := Bool.eq_false_iff.mpr c8
    subst c8
    have H1 : ((cents_size.f a0).bind fun bt419 => ((cents_size.f a1).bind fun bt421 => ((cents_size.f a2).bind fun bt423 => ((bits_Mul64_s.f bt419.1 bt421.1).bind fun bt425 => (if bt425.1 ≥ bt423.1 then (some (0, some 3)) else ((bits_Div64_s.f bt425.1 bt425.2 bt423.1).bind fun bt427 => (if bt427.2 > 0 then ((cents_further.f bt427.1 bt427.2 bt423.1 (!((!(bt419.2 == bt421.2)) == bt423.2)) a3).bind fun t429 => (cents_MulDiv.j1 kj4 (!((!(bt419.2 == bt421.2)) == bt423.2)) bt427.1 t429)) else (cents_MulDiv.j1 kj4 (!((!(bt419.2 == bt421.2)) == bt423.2)) bt427.1 false)))))))) = some (r1, r2) := by rw [if_neg (show ¬ (false = true) by decide)] at H; exact H
    clear H
    have H := H1
    clear H1
    replace H := Option.bind_eq_some_iff.mp H
    obtain ⟨⟨t419, t420⟩, A90, H⟩ := H
    replace H : ((cents_size.f a1).bind fun bt421 => ((cents_size.f a2).bind fun bt423 => ((bits_Mul64_s.f t419 bt421.1).bind fun bt425 => (if bt425.1 ≥ bt423.1 then (some (0, some 3)) else ((bits_Div64_s.f bt425.1 bt425.2 bt423.1).bind fun bt427 => (if bt427.2 > 0 then ((cents_further.f bt427.1 bt427.2 bt423.1 (!((!(t420 == bt421.2)) == bt423.2)) a3).bind fun t429 => (cents_MulDiv.j1 kj4 (!((!(t420 == bt421.2)) == bt423.2)) bt427.1 t429)) else (cents_MulDiv.j1 kj4 (!((!(t420 == bt421.2)) == bt423.2)) bt427.1 false))))))) = some (r1, r2) := H
    have A9 := ka A90
    clear A90
    replace H := Option.bind_eq_some_iff.mp H
    obtain ⟨⟨t421, t422⟩, A100, H⟩ := H
    replace H : ((cents_size.f a2).bind fun bt423 => ((bits_Mul64_s.f t419 t421).bind fun bt425 => (if bt425.1 ≥ bt423.1 then (some (0, some 3)) else ((bits_Div64_s.f bt425.1 bt425.2 bt423.1).bind fun bt427 => (if bt427.2 > 0 then ((cents_further.f bt427.1 bt427.2 bt423.1 (!((!(t420 == t422)) == bt423.2)) a3).bind fun t429 => (cents_MulDiv.j1 kj4 (!((!(t420 == t422)) == bt423.2)) bt427.1 t429)) else (cents_MulDiv.j1 kj4 (!((!(t420 == t422)) == bt423.2)) bt427.1 false)))))) = some (r1, r2) := H
    have A10 := ka A100
    clear A100
    replace H := Option.bind_eq_some_iff.mp H
    obtain ⟨⟨t423, t424⟩, A110, H⟩ := H
    replace H : ((bits_Mul64_s.f t419 t421).bind fun bt425 => (if bt425.1 ≥ t423 then (some (0, some 3)) else ((bits_Div64_s.f bt425.1 bt425.2 t423).bind fun bt427 => (if bt427.2 > 0 then ((cents_further.f bt427.1 bt427.2 t423 (!((!(t420 == t422)) == t424)) a3).bind fun t429 => (cents_MulDiv.j1 kj4 (!((!(t420 == t422)) == t424)) bt427.1 t429)) else (cents_MulDiv.j1 kj4 (!((!(t420 == t422)) == t424)) bt427.1 false))))) = some (r1, r2) := H
    have A11 := ka A110
    clear A110
    replace H := Option.bind_eq_some_iff.mp H
    obtain ⟨⟨t425, t426⟩, A120, H⟩ := H
    replace H : (if t425 ≥ t423 then (some (0, some 3)) else ((bits_Div64_s.f t425 t426 t423).bind fun bt427 => (if bt427.2 > 0 then ((cents_further.f bt427.1 bt427.2 t423 (!((!(t420 == t422)) == t424)) a3).bind fun t429 => (cents_MulDiv.j1 kj4 (!((!(t420 == t422)) == t424)) bt427.1 t429)) else (cents_MulDiv.j1 kj4 (!((!(t420 == t422)) == t424)) bt427.1 false)))) = some (r1, r2) := H
    have A12 := ka A120
    clear A120
    by_cases c13 : t425 ≥ t423
    ·rw [if_pos c13] at H
     have c13b0 : decide (t423 ≤ t425) = true := decide_eq_true c13
     clear c13
     simp only [Option.some.injEq, Prod.mk.injEq] at H
     obtain ⟨rfl, rfl⟩ := H
     go_wp2_with (first | ((with_reducible refine gate_callee (f := 34) rfl ?_); refine kg (some 36) rfl rfl Try.func34 (by kernel_rfl) rfl #[.int .i64 a0] rfl ?_; (with_reducible refine (cents_size.calls a0 t419 t420 _ A9.out).mono ?_); rintro e w' ⟨rfl, ⟨nd, rfl⟩⟩; refine ⟨_, rfl, ?_⟩) | ((with_reducible refine gate_callee (f := 34) rfl ?_); refine kg (some 41) rfl rfl Try.func34 (by kernel_rfl) rfl #[.int .i64 a1] rfl ?_; (with_reducible refine (cents_size.calls a1 t421 t422 _ A10.out).mono ?_); rintro e w' ⟨rfl, ⟨nd, rfl⟩⟩; refine ⟨_, rfl, ?_⟩) | ((with_reducible refine gate_callee (f := 34) rfl ?_); refine kg (some 46) rfl rfl Try.func34 (by kernel_rfl) rfl #[.int .i64 a2] rfl ?_; (with_reducible refine (cents_size.calls a2 t423 t424 _ A11.out).mono ?_); rintro e w' ⟨rfl, ⟨nd, rfl⟩⟩; refine ⟨_, rfl, ?_⟩) | ((with_reducible refine gate_callee (f := 35) rfl ?_); refine kg (some 57) rfl rfl Try.func35 (by kernel_rfl) rfl #[.int .u64 t419, .int .u64 t421] rfl ?_; (with_reducible refine (bits_Mul64_s.calls t419 t421 t425 t426 _ A12.out).mono ?_); rintro e w' ⟨rfl, ⟨nd, rfl⟩⟩; refine ⟨_, rfl, ?_⟩))
     go_ret2
     exact ⟨by first | rfl | (simp; done) | (simp [*]; done), by repeat (first | exact Drawn0.refl _ | apply Drawn0.step)⟩
    ·rw [if_neg c13] at H
     have c13b0 : decide (t423 ≤ t425) = false := decide_eq_false c13
     clear c13
     replace H := Option.bind_eq_some_iff.mp H
     obtain ⟨⟨t427, t428⟩, A140, H⟩ := H
     replace H : (if t428 > 0 then ((cents_further.f t427 t428 t423 (!((!(t420 == t422)) == t424)) a3).bind fun t429 => (cents_MulDiv.j1 kj4 (!((!(t420 == t422)) == t424)) t427 t429)) else (cents_MulDiv.j1 kj4 (!((!(t420 == t422)) == t424)) t427 false)) = some (r1, r2) := H
     have A14 := ka A140
     clear A140
     have HC15 := ka H
     clear H
     go_upto_region 11 with (first | ((with_reducible refine gate_callee (f := 34) rfl ?_); refine kg (some 36) rfl rfl Try.func34 (by kernel_rfl) rfl #[.int .i64 a0] rfl ?_; (with_reducible refine (cents_size.calls a0 t419 t420 _ A9.out).mono ?_); rintro e w' ⟨rfl, ⟨nd, rfl⟩⟩; refine ⟨_, rfl, ?_⟩) | ((with_reducible refine gate_callee (f := 34) rfl ?_); refine kg (some 41) rfl rfl Try.func34 (by kernel_rfl) rfl #[.int .i64 a1] rfl ?_; (with_reducible refine (cents_size.calls a1 t421 t422 _ A10.out).mono ?_); rintro e w' ⟨rfl, ⟨nd, rfl⟩⟩; refine ⟨_, rfl, ?_⟩) | ((with_reducible refine gate_callee (f := 34) rfl ?_); refine kg (some 46) rfl rfl Try.func34 (by kernel_rfl) rfl #[.int .i64 a2] rfl ?_; (with_reducible refine (cents_size.calls a2 t423 t424 _ A11.out).mono ?_); rintro e w' ⟨rfl, ⟨nd, rfl⟩⟩; refine ⟨_, rfl, ?_⟩) | ((with_reducible refine gate_callee (f := 35) rfl ?_); refine kg (some 57) rfl rfl Try.func35 (by kernel_rfl) rfl #[.int .u64 t419, .int .u64 t421] rfl ?_; (with_reducible refine (bits_Mul64_s.calls t419 t421 t425 t426 _ A12.out).mono ?_); rintro e w' ⟨rfl, ⟨nd, rfl⟩⟩; refine ⟨_, rfl, ?_⟩) | ((with_reducible refine gate_callee (f := 36) rfl ?_); refine kg (some 68) rfl rfl Try.func36 (by kernel_rfl) rfl #[.int .u64 t425, .int .u64 t426, .int .u64 t423] rfl ?_; (with_reducible refine (bits_Div64_s.calls t425 t426 t423 t427 t428 _ A14.out).mono ?_); rintro e w' ⟨rfl, ⟨nd, rfl⟩⟩; refine ⟨_, rfl, ?_⟩))
     (try simp only [Act.put, List.setIfInBounds_toArray, List.set_cons_zero, List.set_cons_succ])
     go_cut [80] (fun v80 wc => ∃ (kq : Nat) (x80_14 : Bool), v80 = .bool x80_14 ∧ Aside0 (cents_MulDiv.j1 kq (!((!(t420 == t422)) == t424)) t427 x80_14 = some (r1, r2)) ∧ Aside0 (kq ≤ kj4) ∧ Drawn0 w wc)
     case first =>
      have H := HC15.out
      clear HC15
      by_cases c16 : t428 > 0
      ·rw [if_pos c16] at H
       have c16b0 : decide (0 < t428) = true := decide_eq_true c16
       clear c16
       (first | rw [c16b0] | (simp only [i64_w, i32_w]; rw [c16b0]) | skip)
       replace H := Option.bind_eq_some_iff.mp H
       obtain ⟨t429, A170, H⟩ := H
       replace H : (cents_MulDiv.j1 kj4 (!((!(t420 == t422)) == t424)) t427 t429) = some (r1, r2) := H
       have A17 := ka A170
       clear A170
       have H' := ka H
       clear H
       go_wp2_with (first | (go_at_call 37; (with_reducible refine (cents_further.calls t427 t428 t423 (!((!(t420 == t422)) == t424)) a3 t429 _ A17.out).mono ?_); rintro e w' ⟨rfl, ⟨nd, rfl⟩⟩))
       go_meet
       case rel => exact ⟨_, (t429), (by first | rfl | (simp; done) | (simp [*]; done)), H', ⟨by have := HJ4.out; first | omega | exact Nat.le_refl _⟩, by repeat (first | exact Drawn0.refl _ | apply Drawn0.step)⟩
      ·rw [if_neg c16] at H
       have c16b0 : decide (0 < t428) = false := decide_eq_false c16
       clear c16
       (first | rw [c16b0] | (simp only [i64_w, i32_w]; rw [c16b0]) | skip)
       have H' := ka H
       clear H
       go_wp2
       go_meet
       case rel => exact ⟨_, (false), (by first | rfl | (simp; done) | (simp [*]; done)), H', ⟨by have := HJ4.out; first | omega | exact Nat.le_refl _⟩, by repeat (first | exact Drawn0.refl _ | apply Drawn0.step)⟩
     case rest =>
      clear HC15
      try clear c1
      try clear c2
      try clear p2
      try clear c3
      try clear c4
      try clear c6
      try clear c6b0
      try clear c6b1
      try clear c7
      try clear c7b0
      try clear c8
      try clear c13
      try clear c13b0
      try clear c16
      try clear c16b0
      try clear p2
      obtain ⟨kq, x80_14, rfl, HA, HJ14, ⟨mc14, rfl⟩⟩ := hcut
      cases kq with
      | zero => exact absurd HA.out (by simp [cents_MulDiv.j1])
      | succ kj14 =>
       have H := HA.out
       clear HA
       simp only [cents_MulDiv.j1] at H
       by_cases c18 : x80_14 = true
       ·subst c18
        have H1 : (if (IntKind.u64.wrap (t427 + 1)) = 0 then (some (0, some 3)) else ((cents_signed.f (IntKind.u64.wrap (t427 + 1)) (!((!(t420 == t422)) == t424))).bind fun bt430 => (if bt430.2 = true then (some (bt430.1, none)) else (some (0, some 3))))) = some (r1, r2) := by rw [if_pos rfl] at H; exact H
        clear H
        have H := H1
        clear H1
        by_cases c19 : (IntKind.u64.wrap (t427 + 1)) = 0
        ·rw [if_pos c19] at H
         have c19b0 : ((IntKind.u64.wrap (t427 + 1)) == 0) = true := beq_iff_eq.mpr c19
         have c19b1 : ((IntKind.u64.wrap (t427 + 1)) != 0) = false := bne_eq_false_iff_eq.mpr c19
         clear c19
         simp only [Option.some.injEq, Prod.mk.injEq] at H
         obtain ⟨rfl, rfl⟩ := H
         go_wp2
         go_ret2
         exact ⟨by first | rfl | (simp; done) | (simp [*]; done), by repeat (first | exact Drawn0.refl _ | apply Drawn0.step)⟩
        ·rw [if_neg c19] at H
         have c19b0 : ((IntKind.u64.wrap (t427 + 1)) == 0) = false := beq_eq_false_iff_ne.mpr c19
         have c19b1 : ((IntKind.u64.wrap (t427 + 1)) != 0) = true := bne_iff_ne.mpr c19
         replace H := Option.bind_eq_some_iff.mp H
         obtain ⟨⟨t430, t431⟩, A200, H⟩ := H
         replace H : (if t431 = true then (some (t430, none)) else (some (0, some 3))) = some (r1, r2) := H
         have A20 := ka A200
         clear A200
         by_cases c21 : t431 = true
         ·subst c21
          have H1 : (some (t430, none)) = some (r1, r2) := by rw [if_pos rfl] at H; exact H
          clear H
          have H := H1
          clear H1
          simp only [Option.some.injEq, Prod.mk.injEq] at H
          obtain ⟨rfl, rfl⟩ := H
          go_wp2_with (first | ((with_reducible refine gate_callee (f := 38) rfl ?_); refine kg (some 89) rfl rfl Try.func38 (by kernel_rfl) rfl #[.int .u64 (IntKind.u64.wrap (t427 + 1)), .bool (!((!(t420 == t422)) == t424))] rfl ?_; (with_reducible refine (cents_signed.calls (IntKind.u64.wrap (t427 + 1)) (!((!(t420 == t422)) == t424)) t430 true _ A20.out).mono ?_); rintro e w' ⟨rfl, ⟨nd, rfl⟩⟩; refine ⟨_, rfl, ?_⟩))
          go_ret2
          exact ⟨by first | rfl | (simp; done) | (simp [*]; done), by repeat (first | exact Drawn0.refl _ | apply Drawn0.step)⟩
         ·replace c21 := Bool.eq_false_iff.mpr c21
          subst c21
          have H1 : (some (0, some 3)) = some (r1, r2) := by rw [if_neg (show ¬ (false = true) by decide)] at H; exact H
          clear H
          have H := H1
          clear H1
          simp only [Option.some.injEq, Prod.mk.injEq] at H
          obtain ⟨rfl, rfl⟩ := H
          go_wp2_with (first | ((with_reducible refine gate_callee (f := 38) rfl ?_); refine kg (some 89) rfl rfl Try.func38 (by kernel_rfl) rfl #[.int .u64 (IntKind.u64.wrap (t427 + 1)), .bool (!((!(t420 == t422)) == t424))] rfl ?_; (with_reducible refine (cents_signed.calls (IntKind.u64.wrap (t427 + 1)) (!((!(t420 == t422)) == t424)) t430 false _ A20.out).mono ?_); rintro e w' ⟨rfl, ⟨nd, rfl⟩⟩; refine ⟨_, rfl, ?_⟩))
          go_ret2
          exact ⟨by first | rfl | (simp; done) | (simp [*]; done), by repeat (first | exact Drawn0.refl _ | apply Drawn0.step)⟩
       ·replace c18 := Bool.eq_false_iff.mpr c18
        subst c18
        have H1 : ((cents_signed.f t427 (!((!(t420 == t422)) == t424))).bind fun bt432 => (if bt432.2 = true then (some (bt432.1, none)) else (some (0, some 3)))) = some (r1, r2) := by rw [if_neg (show ¬ (false = true) by decide)] at H; exact H
        clear H
        have H := H1
        clear H1
        replace H := Option.bind_eq_some_iff.mp H
        obtain ⟨⟨t432, t433⟩, A220, H⟩ := H
        replace H : (if t433 = true then (some (t432, none)) else (some (0, some 3))) = some (r1, r2) := H
        have A22 := ka A220
        clear A220
        by_cases c23 : t433 = true
        ·subst c23
         have H1 : (some (t432, none)) = some (r1, r2) := by rw [if_pos rfl] at H; exact H
         clear H
         have H := H1
         clear H1
         simp only [Option.some.injEq, Prod.mk.injEq] at H
         obtain ⟨rfl, rfl⟩ := H
         go_wp2_with (first | ((with_reducible refine gate_callee (f := 38) rfl ?_); refine kg (some 89) rfl rfl Try.func38 (by kernel_rfl) rfl #[.int .u64 t427, .bool (!((!(t420 == t422)) == t424))] rfl ?_; (with_reducible refine (cents_signed.calls t427 (!((!(t420 == t422)) == t424)) t432 true _ A22.out).mono ?_); rintro e w' ⟨rfl, ⟨nd, rfl⟩⟩; refine ⟨_, rfl, ?_⟩))
         go_ret2
         exact ⟨by first | rfl | (simp; done) | (simp [*]; done), by repeat (first | exact Drawn0.refl _ | apply Drawn0.step)⟩
        ·replace c23 := Bool.eq_false_iff.mpr c23
         subst c23
         have H1 : (some (0, some 3)) = some (r1, r2) := by rw [if_neg (show ¬ (false = true) by decide)] at H; exact H
         clear H
         have H := H1
         clear H1
         simp only [Option.some.injEq, Prod.mk.injEq] at H
         obtain ⟨rfl, rfl⟩ := H
         go_wp2_with (first | ((with_reducible refine gate_callee (f := 38) rfl ?_); refine kg (some 89) rfl rfl Try.func38 (by kernel_rfl) rfl #[.int .u64 t427, .bool (!((!(t420 == t422)) == t424))] rfl ?_; (with_reducible refine (cents_signed.calls t427 (!((!(t420 == t422)) == t424)) t432 false _ A22.out).mono ?_); rintro e w' ⟨rfl, ⟨nd, rfl⟩⟩; refine ⟨_, rfl, ?_⟩))
         go_ret2
         exact ⟨by first | rfl | (simp; done) | (simp [*]; done), by repeat (first | exact Drawn0.refl _ | apply Drawn0.step)⟩

/-! ### cents_MulDiv_s: function 23, told plainly -/
theorem cents_MulDiv.size_tells (a : Int) (h : M.In a) : cents_size.f a = some (M.abs a, decide (a < 0)) := by
 unfold cents_size.f M.abs M.In at *
 by_cases h0 : a < 0
 ·rw [if_pos h0, if_pos h0, decide_eq_true h0]
  congr 2
  simp only [M.wrapu]
  omega
 ·rw [if_neg h0, if_neg h0, decide_eq_false h0]
  congr 2
  simp only [M.wrapu]
  omega
theorem cents_MulDiv.further_tells (q r c : Int) (minus : Bool) (mode : Int) (hm : 1 ≤ mode ∧ mode ≤ 4) (h0 : 0 ≤ q) (h1 : q < 18446744073709551616) (hr : 0 < r) (hrc : r < c) (hc : c < 18446744073709551616) :
  cents_further.f q r c minus mode = some (decide ((if minus = true then mode = 1 else mode = 2) ∨ mode = 3 ∧ 2 * r ≥ c ∨ mode = 4 ∧ (2 * r > c ∨ 2 * r = c ∧ q % 2 = 1))) := by
 unfold cents_further.f
 have hw : IntKind.u64.wrap (c - r) = c - r := M.wrapu_id (by omega) (by omega)
 rw [hw, M.and_one q h0 h1]
 have hm' : mode = 1 ∨ mode = 2 ∨ mode = 3 ∨ mode = 4 := by omega
 rcases hm' with rfl | rfl | rfl | rfl
 ·cases minus <;> simp <;> omega
 ·cases minus <;> simp <;> omega
 ·by_cases g : r > c - r
  ·have g2 : c ≤ 2 * r := by omega
   cases minus <;> simp [g, g2]
  ·by_cases g' : r = c - r
   ·have g2 : c ≤ 2 * r := by omega
    cases minus <;> simp [g, g2] <;> omega
   ·have g2 : ¬ c ≤ 2 * r := by omega
    cases minus <;> simp [g, g', g2]
 ·have h2 : 2 * r > c ↔ r > c - r := by omega
  have h3 : 2 * r = c ↔ r = c - r := by omega
  simp only [h2, h3]
  by_cases g : r > c - r
  ·cases minus <;> simp [g]
  ·by_cases g' : r = c - r
   ·have e : ∀ z : Int, (z == 1) = decide (z = 1) := fun z => by by_cases h : z = 1 <;> simp [h]
    cases minus <;> simp [g, ← g', e]
   ·cases minus <;> simp [g, g']
theorem cents_MulDiv.last (N c mode : Int) (minus : Bool) (hN : 0 ≤ N) (hc : 0 < c) (hc2 : c ≤ 9223372036854775808) (hm : 1 ≤ mode ∧ mode ≤ 4) (hq : N / c < 18446744073709551616) (n : Int) (hn : n = if minus = true then -N else N) (k : Nat) :
  (if N % c > 0 then (cents_further.f (N / c) (N % c) c minus mode).bind fun t => cents_MulDiv.j1 (k + 1) minus (N / c) t else cents_MulDiv.j1 (k + 1) minus (N / c) false) = some (M.told (M.quo n c mode)) := by
 have r0 := Int.emod_nonneg N (show c ≠ 0 by omega)
 have r1 := Int.emod_lt_of_pos N hc
 have hq0 : 0 ≤ N / c := Int.ediv_nonneg hN (by omega)
 have hs := M.quo_sized hN hc hm
 have key : ∀ (t : Bool) (v : Int), (v = if minus = true then -(N / c + (if t = true then 1 else 0)) else N / c + (if t = true then 1 else 0)) →
   cents_MulDiv.j1 (k + 1) minus (N / c) t = some (M.told v) := by
  intro t v hv
  simp only [cents_MulDiv.j1]
  generalize N / c = q at *
  unfold cents_signed.f
  cases t with
  | true =>
   simp only [if_true] at hv ⊢
   by_cases hz : IntKind.u64.wrap (q + 1) = 0
   ·rw [if_pos hz, M.told_out]
    intro hin
    unfold M.In at hin
    rw [M.wrapu] at hz
    cases minus <;> simp at hv <;> omega
   ·rw [if_neg hz]
    have hw : IntKind.u64.wrap (q + 1) = q + 1 := by rw [M.wrapu] at hz ⊢; omega
    rw [hw]
    cases minus with
    | true =>
     simp only [if_true] at hv ⊢
     rw [Option.bind_some]
     by_cases hle : q + 1 ≤ 9223372036854775808
     ·rw [if_pos (decide_eq_true hle), M.told_in (show M.In v from ⟨by omega, by omega⟩)]
      refine congrArg some (Prod.ext ?_ rfl)
      simp only [M.wrapu]; unfold wrap64; omega
     ·rw [if_neg (by simpa using hle), M.told_out (fun hin => by unfold M.In at hin; omega)]
    | false =>
     simp only [Bool.false_eq_true, if_false] at hv ⊢
     rw [Option.bind_some]
     by_cases hle : q + 1 < 9223372036854775808
     ·rw [if_pos (decide_eq_true hle), M.told_in (show M.In v from ⟨by omega, by omega⟩)]
      refine congrArg some (Prod.ext ?_ rfl)
      simp only []; unfold wrap64; omega
     ·rw [if_neg (by simpa using hle), M.told_out (fun hin => by unfold M.In at hin; omega)]
  | false =>
   simp only [Bool.false_eq_true, if_false] at hv ⊢
   cases minus with
   | true =>
    simp only [if_true] at hv ⊢
    rw [Option.bind_some]
    by_cases hle : q ≤ 9223372036854775808
    ·rw [if_pos (decide_eq_true hle), M.told_in (show M.In v from ⟨by omega, by omega⟩)]
     refine congrArg some (Prod.ext ?_ rfl)
     simp only [M.wrapu]; unfold wrap64; omega
    ·rw [if_neg (by simpa using hle), M.told_out (fun hin => by unfold M.In at hin; omega)]
   | false =>
    simp only [Bool.false_eq_true, if_false] at hv ⊢
    rw [Option.bind_some]
    by_cases hle : q < 9223372036854775808
    ·rw [if_pos (decide_eq_true hle), M.told_in (show M.In v from ⟨by omega, by omega⟩)]
     refine congrArg some (Prod.ext ?_ rfl)
     simp only []; unfold wrap64; omega
    ·rw [if_neg (by simpa using hle), M.told_out (fun hin => by unfold M.In at hin; omega)]
 by_cases hr : N % c > 0
 ·rw [if_pos hr, cents_MulDiv.further_tells _ _ _ _ _ hm hq0 hq hr r1 (by omega), Option.bind_some]
  apply key
  subst hn
  cases minus with
  | true =>
   simp only [if_true]
   rw [hs.2]
   congr 2
   simp only [hr, true_and, decide_eq_true_eq]
  | false =>
   simp only [Bool.false_eq_true, if_false]
   rw [hs.1]
   congr 2
   simp only [hr, true_and, decide_eq_true_eq]
 ·rw [if_neg hr]
  apply key
  subst hn
  cases minus with
  | true => simp only [if_true]; rw [hs.2]; simp [hr]
  | false => simp only [Bool.false_eq_true, if_false]; rw [hs.1]; simp [hr]
theorem cents_MulDiv.quo_over {N c mode : Int} (hN : 0 ≤ N) (hc : 0 < c) (hm : 1 ≤ mode ∧ mode ≤ 4) (hq : 18446744073709551616 ≤ N / c) : ¬ M.In (M.quo N c mode) ∧ ¬ M.In (M.quo (-N) c mode) := by
 have hs := M.quo_sized hN hc hm
 rw [hs.1, hs.2]
 unfold M.In
 constructor <;> split <;> omega
theorem cents_MulDiv.quo_neg (n c mode : Int) (hc : c < 0) : M.quo n c mode = M.quo (-n) (-c) mode := by
 unfold M.quo
 simp only [if_pos hc, if_neg (show ¬ -c < 0 by omega)]
theorem cents_MulDiv.abs_mul (a b : Int) : a * b = if (decide (a < 0) == decide (b < 0)) = true then M.abs a * M.abs b else -(M.abs a * M.abs b) := by
 unfold M.abs
 by_cases ha : a < 0 <;> by_cases hb : b < 0 <;> simp [ha, hb, Int.neg_mul, Int.mul_neg]
theorem cents_MulDiv.tells (a b c mode : Int) (ha : M.In a) (hb : M.In b) (hc : M.In c) (k : Nat) (hk : 4 ≤ k) :
  cents_MulDiv.f k a b c mode = some (if c = 0 ∨ mode < 1 ∨ mode > 4 then (0, some 1) else M.told (M.quo (a * b) c mode)) := by
 obtain ⟨k, rfl⟩ : ∃ m, k = m + 2 := ⟨k - 2, by omega⟩
 unfold cents_MulDiv.f
 by_cases hc0 : c = 0
 ·rw [if_pos hc0, if_pos (.inl hc0)]
  simp [cents_MulDiv.j0]
 rw [if_neg hc0]
 by_cases hm1 : mode < 1
 ·rw [if_pos hm1, if_pos (.inr (.inl hm1))]
  simp [cents_MulDiv.j0]
 rw [if_neg hm1]
 by_cases hm4 : mode > 4
 ·rw [decide_eq_true hm4, if_pos (.inr (.inr hm4))]
  simp [cents_MulDiv.j0]
 rw [decide_eq_false hm4, if_neg (by omega)]
 have hm : 1 ≤ mode ∧ mode ≤ 4 := by omega
 simp only [cents_MulDiv.j0]
 rw [if_neg (by decide), cents_MulDiv.size_tells a ha, cents_MulDiv.size_tells b hb, cents_MulDiv.size_tells c hc]
 simp only [Option.bind_some]
 have ba : 0 ≤ M.abs a ∧ M.abs a ≤ 9223372036854775808 := by unfold M.abs M.In at *; split <;> omega
 have bb : 0 ≤ M.abs b ∧ M.abs b ≤ 9223372036854775808 := by unfold M.abs M.In at *; split <;> omega
 have bc : 0 < M.abs c ∧ M.abs c ≤ 9223372036854775808 := by unfold M.abs M.In at *; split <;> omega
 have hN : 0 ≤ M.abs a * M.abs b := Int.mul_nonneg ba.1 bb.1
 unfold bits_Mul64_s.f
 rw [if_pos ⟨ba.1, by omega, bb.1, by omega⟩]
 simp only [Option.bind_some]
 have hcq : M.quo (a * b) c mode = M.quo (if (!((!(decide (a < 0) == decide (b < 0))) == decide (c < 0))) = true then -(M.abs a * M.abs b) else M.abs a * M.abs b) (M.abs c) mode := by
  rw [cents_MulDiv.abs_mul a b]
  by_cases h : c < 0
  ·rw [cents_MulDiv.quo_neg _ _ _ h]
   have : M.abs c = -c := by unfold M.abs; rw [if_pos h]
   rw [this, decide_eq_true h]
   cases hd : (decide (a < 0) == decide (b < 0)) <;> simp
  ·have : M.abs c = c := by unfold M.abs; rw [if_neg h]
   rw [this, decide_eq_false h]
   cases hd : (decide (a < 0) == decide (b < 0)) <;> simp
 rw [hcq]
 generalize (!((!(decide (a < 0) == decide (b < 0))) == decide (c < 0))) = minus at *
 generalize M.abs a * M.abs b = N at *
 generalize M.abs c = z at *
 by_cases hov : N / 18446744073709551616 ≥ z
 ·rw [if_pos hov, M.told_out]
  have hq : 18446744073709551616 ≤ N / z := by
   apply M.le_div bc.1
   rw [Int.mul_comm]
   omega
  have := cents_MulDiv.quo_over hN bc.1 hm hq
  cases minus
  ·exact this.1
  ·exact this.2
 ·rw [if_neg hov]
  unfold bits_Div64_s.f
  rw [if_pos ⟨by omega, by omega, by omega, by omega, by omega⟩]
  simp only [Option.bind_some]
  have e : N / 18446744073709551616 * 18446744073709551616 + N % 18446744073709551616 = N := by omega
  rw [e]
  refine cents_MulDiv.last N z mode minus hN bc.1 bc.2 hm ?_ _ rfl k
  apply M.div_lt bc.1
  rw [Int.mul_comm]
  omega
def cents_MulDiv_s.f (a b c mode : Int) : Option (Int × Option Int) :=
 if M.In a ∧ M.In b ∧ M.In c then some (if c = 0 ∨ mode < 1 ∨ mode > 4 then (0, some 1) else M.told (M.quo (a * b) c mode)) else none
theorem cents_MulDiv_s.calls (a0 : Int) (a1 : Int) (a2 : Int) (a3 : Int) (r1 : Int) (r2 : Option Int) (w : World) (h : cents_MulDiv_s.f a0 a1 a2 a3 = some (r1, r2)) :
  Calls Try.prog 23 #[.int .i64 a0, .int .i64 a1, .int .i64 a2, .int .i64 a3] w fun e w' => e = .returned (.tuple #[.int .i64 r1, errW r2]) ∧ Drawn0 w w' := by
 unfold cents_MulDiv_s.f at h
 split at h
 ·rename_i hr
  exact cents_MulDiv.calls 4 a0 a1 a2 a3 r1 r2 w ((cents_MulDiv.tells a0 a1 a2 a3 hr.1 hr.2.1 hr.2.2 4 (Nat.le_refl _)).trans h)
 ·cases h
theorem cents_MulDiv_s.at_ {a b c mode : Int} (ha : M.In a) (hb : M.In b) (hc : M.In c) : cents_MulDiv_s.f a b c mode = some (if c = 0 ∨ mode < 1 ∨ mode > 4 then (0, some 1) else M.told (M.quo (a * b) c mode)) := by unfold cents_MulDiv_s.f; rw [if_pos ⟨ha, hb, hc⟩]

/-! ### count_Accrue: function 12 -/
def count_Accrue.j0 : Nat → Int → Int → Int → Bool → Bool → Option (Int × Option Int)
 | 0, _, _, _, _, _ => none
 | k + 1, x0, x1, x2, x3, x32 => if x32 = true then (some (0, some 1)) else (if x3 = true then ((cents_MulDiv_s.f x0 (wrap64 (x1 * x2)) (360 * 1000000) 4).bind fun bt434 => (some (bt434.1, bt434.2))) else ((cents_MulDiv_s.f x0 (wrap64 (x1 * x2)) (365 * 1000000) 4).bind fun bt436 => (some (bt436.1, bt436.2))))
def count_Accrue.f (k : Nat) (a0 : Int) (a1 : Int) (a2 : Int) (a3 : Bool) : Option (Int × Option Int) := if a0 < 0 then (count_Accrue.j0 k a0 a1 a2 a3 true) else (if a0 > 10000000000000 then (count_Accrue.j0 k a0 a1 a2 a3 true) else (if a1 < 0 then (count_Accrue.j0 k a0 a1 a2 a3 true) else (if a1 > 300000 then (count_Accrue.j0 k a0 a1 a2 a3 true) else (if a2 < 0 then (count_Accrue.j0 k a0 a1 a2 a3 true) else (count_Accrue.j0 k a0 a1 a2 a3 (decide (a2 > 40000)))))))
theorem count_Accrue.mono_l : ∀ k, (∀ y0 y1 y2 y3 y4, LeO (count_Accrue.j0 k y0 y1 y2 y3 y4) (count_Accrue.j0 (k + 1) y0 y1 y2 y3 y4))
 | 0 => fun _ _ _ _ _ r h => by simp [count_Accrue.j0] at h
 | k + 1 => by
  have ih0 := count_Accrue.mono_l k
  ·intro y0 y1 y2 y3 y4
   unfold count_Accrue.j0
   repeat' first
   | (with_reducible exact ih0 _ _ _ _ _)
   | (with_reducible exact LeO.refl _)
   | (with_reducible exact LeO.none _)
   | (with_reducible refine LeO.ite ?_ ?_)
   | (with_reducible refine LeO.bind ?_ (fun _ => ?_))
   | exact ih0 _ _ _ _ _
   | exact LeO.none _
   | refine LeO.ite ?_ ?_
   | refine LeO.bind ?_ (fun _ => ?_)
theorem count_Accrue.mono : ∀ a0 a1 a2 a3 k, LeO (count_Accrue.f k a0 a1 a2 a3) (count_Accrue.f (k + 1) a0 a1 a2 a3) := by
 intro a0 a1 a2 a3 k
 have ih0 := count_Accrue.mono_l k
 unfold count_Accrue.f
 repeat' first
   | (with_reducible exact ih0 _ _ _ _ _)
   | (with_reducible exact LeO.refl _)
   | (with_reducible exact LeO.none _)
   | (with_reducible refine LeO.ite ?_ ?_)
   | (with_reducible refine LeO.bind ?_ (fun _ => ?_))
   | exact ih0 _ _ _ _ _
   | exact LeO.none _
   | refine LeO.ite ?_ ?_
   | refine LeO.bind ?_ (fun _ => ?_)
set_option maxHeartbeats 8000000 in
set_option maxRecDepth 100000 in
theorem count_Accrue.calls (k : Nat) (a0 : Int) (a1 : Int) (a2 : Int) (a3 : Bool) (r1 : Int) (r2 : Option Int) (w : World) (h : count_Accrue.f k a0 a1 a2 a3 = some (r1, r2)) :
  Calls Try.prog 12 #[.int .i64 a0, .int .i64 a1, .int .i64 a2, .bool a3] w fun e w' => e = .returned (.tuple #[.int .i64 r1, errW r2]) ∧ Drawn0 w w' := by
 have hu26 := Try.underlying26
 have hu30 := Try.underlying30
 have H : (if a0 < 0 then (count_Accrue.j0 k a0 a1 a2 a3 true) else (if a0 > 10000000000000 then (count_Accrue.j0 k a0 a1 a2 a3 true) else (if a1 < 0 then (count_Accrue.j0 k a0 a1 a2 a3 true) else (if a1 > 300000 then (count_Accrue.j0 k a0 a1 a2 a3 true) else (if a2 < 0 then (count_Accrue.j0 k a0 a1 a2 a3 true) else (count_Accrue.j0 k a0 a1 a2 a3 (decide (a2 > 40000)))))))) = some (r1, r2) := h
 clear h
 have HC5 := ka H
 clear H
 go_enter Try.func12, Try.ntmps12
 go_upto_region 1 with (fail)
 go_cut [32] (fun v32 wc => ∃ (kq : Nat) (x32_4 : Bool), v32 = .bool x32_4 ∧ Aside0 (count_Accrue.j0 kq a0 a1 a2 a3 x32_4 = some (r1, r2)) ∧ Aside0 (kq ≤ k) ∧ Drawn0 w wc)
 case first =>
  have H := HC5.out
  clear HC5
  by_cases c6 : a0 < 0
  ·rw [if_pos c6] at H
   have c6b0 : decide (a0 < 0) = true := decide_eq_true c6
   clear c6
   (first | rw [c6b0] | (simp only [i64_w, i32_w]; rw [c6b0]) | skip)
   have H' := ka H
   clear H
   go_wp2
   go_meet
   case rel => exact ⟨_, (true), (by first | rfl | (simp; done) | (simp [*]; done)), H', ⟨by first | omega | exact Nat.le_refl _⟩, by repeat (first | exact Drawn0.refl _ | apply Drawn0.step)⟩
  ·rw [if_neg c6] at H
   have c6b0 : decide (a0 < 0) = false := decide_eq_false c6
   clear c6
   (first | rw [c6b0] | (simp only [i64_w, i32_w]; rw [c6b0]) | skip)
   by_cases c7 : a0 > 10000000000000
   ·rw [if_pos c7] at H
    have c7b0 : decide (10000000000000 < a0) = true := decide_eq_true c7
    clear c7
    have H' := ka H
    clear H
    go_wp2
    go_meet
    case rel => exact ⟨_, (true), (by first | rfl | (simp; done) | (simp [*]; done)), H', ⟨by first | omega | exact Nat.le_refl _⟩, by repeat (first | exact Drawn0.refl _ | apply Drawn0.step)⟩
   ·rw [if_neg c7] at H
    have c7b0 : decide (10000000000000 < a0) = false := decide_eq_false c7
    clear c7
    by_cases c8 : a1 < 0
    ·rw [if_pos c8] at H
     have c8b0 : decide (a1 < 0) = true := decide_eq_true c8
     clear c8
     have H' := ka H
     clear H
     go_wp2
     go_meet
     case rel => exact ⟨_, (true), (by first | rfl | (simp; done) | (simp [*]; done)), H', ⟨by first | omega | exact Nat.le_refl _⟩, by repeat (first | exact Drawn0.refl _ | apply Drawn0.step)⟩
    ·rw [if_neg c8] at H
     have c8b0 : decide (a1 < 0) = false := decide_eq_false c8
     clear c8
     by_cases c9 : a1 > 300000
     ·rw [if_pos c9] at H
      have c9b0 : decide (300000 < a1) = true := decide_eq_true c9
      clear c9
      have H' := ka H
      clear H
      go_wp2
      go_meet
      case rel => exact ⟨_, (true), (by first | rfl | (simp; done) | (simp [*]; done)), H', ⟨by first | omega | exact Nat.le_refl _⟩, by repeat (first | exact Drawn0.refl _ | apply Drawn0.step)⟩
     ·rw [if_neg c9] at H
      have c9b0 : decide (300000 < a1) = false := decide_eq_false c9
      clear c9
      by_cases c10 : a2 < 0
      ·rw [if_pos c10] at H
       have c10b0 : decide (a2 < 0) = true := decide_eq_true c10
       clear c10
       have H' := ka H
       clear H
       go_wp2
       go_meet
       case rel => exact ⟨_, (true), (by first | rfl | (simp; done) | (simp [*]; done)), H', ⟨by first | omega | exact Nat.le_refl _⟩, by repeat (first | exact Drawn0.refl _ | apply Drawn0.step)⟩
      ·rw [if_neg c10] at H
       have c10b0 : decide (a2 < 0) = false := decide_eq_false c10
       clear c10
       have H' := ka H
       clear H
       go_wp2
       go_meet
       case rel => exact ⟨_, (decide (a2 > 40000)), (by first | rfl | (simp; done) | (simp [*]; done)), H', ⟨by first | omega | exact Nat.le_refl _⟩, by repeat (first | exact Drawn0.refl _ | apply Drawn0.step)⟩
 case rest =>
  clear HC5
  try clear c1
  try clear p2
  try clear c6
  try clear c6b0
  try clear c7
  try clear c7b0
  try clear c8
  try clear c8b0
  try clear c9
  try clear c9b0
  try clear c10
  try clear c10b0
  obtain ⟨kq, x32_4, rfl, HA, HJ4, ⟨mc4, rfl⟩⟩ := hcut
  cases kq with
  | zero => exact absurd HA.out (by simp [count_Accrue.j0])
  | succ kj4 =>
   have H := HA.out
   clear HA
   simp only [count_Accrue.j0] at H
   by_cases c11 : x32_4 = true
   ·subst c11
    have H1 : (some (0, some 1)) = some (r1, r2) := by rw [if_pos rfl] at H; exact H
    clear H
    have H := H1
    clear H1
    simp only [Option.some.injEq, Prod.mk.injEq] at H
    obtain ⟨rfl, rfl⟩ := H
    go_wp2
    go_ret2
    exact ⟨by first | rfl | (simp; done) | (simp [*]; done), by repeat (first | exact Drawn0.refl _ | apply Drawn0.step)⟩
   ·replace c11 := Bool.eq_false_iff.mpr c11
    subst c11
    have H1 : (if a3 = true then ((cents_MulDiv_s.f a0 (wrap64 (a1 * a2)) (360 * 1000000) 4).bind fun bt434 => (some (bt434.1, bt434.2))) else ((cents_MulDiv_s.f a0 (wrap64 (a1 * a2)) (365 * 1000000) 4).bind fun bt436 => (some (bt436.1, bt436.2)))) = some (r1, r2) := by rw [if_neg (show ¬ (false = true) by decide)] at H; exact H
    clear H
    have H := H1
    clear H1
    by_cases c12 : a3 = true
    ·subst c12
     have H1 : ((cents_MulDiv_s.f a0 (wrap64 (a1 * a2)) (360 * 1000000) 4).bind fun bt434 => (some (bt434.1, bt434.2))) = some (r1, r2) := by rw [if_pos rfl] at H; exact H
     clear H
     have H := H1
     clear H1
     replace H := Option.bind_eq_some_iff.mp H
     obtain ⟨⟨t434, t435⟩, A130, H⟩ := H
     replace H : (some (t434, t435)) = some (r1, r2) := H
     have A13 := ka A130
     clear A130
     simp only [Option.some.injEq, Prod.mk.injEq] at H
     obtain ⟨rfl, rfl⟩ := H
     go_wp2_with (first | ((with_reducible refine gate_callee (f := 23) rfl ?_); refine kg (some 41) rfl rfl Try.func23 (by kernel_rfl) rfl #[.int .i64 a0, .int .i64 (wrap64 (a1 * a2)), .int .i64 (360 * 1000000), .int .i64 4] rfl ?_; (with_reducible refine (cents_MulDiv_s.calls a0 (wrap64 (a1 * a2)) (360 * 1000000) 4 t434 t435 _ A13.out).mono ?_); rintro e w' ⟨rfl, ⟨nd, rfl⟩⟩; refine ⟨_, rfl, ?_⟩; (try simp only [errW_none, errW_some])))
     go_ret2
     exact ⟨by first | rfl | (simp; done) | (simp [*]; done), by repeat (first | exact Drawn0.refl _ | apply Drawn0.step)⟩
    ·replace c12 := Bool.eq_false_iff.mpr c12
     subst c12
     have H1 : ((cents_MulDiv_s.f a0 (wrap64 (a1 * a2)) (365 * 1000000) 4).bind fun bt436 => (some (bt436.1, bt436.2))) = some (r1, r2) := by rw [if_neg (show ¬ (false = true) by decide)] at H; exact H
     clear H
     have H := H1
     clear H1
     replace H := Option.bind_eq_some_iff.mp H
     obtain ⟨⟨t436, t437⟩, A140, H⟩ := H
     replace H : (some (t436, t437)) = some (r1, r2) := H
     have A14 := ka A140
     clear A140
     simp only [Option.some.injEq, Prod.mk.injEq] at H
     obtain ⟨rfl, rfl⟩ := H
     go_wp2_with (first | ((with_reducible refine gate_callee (f := 23) rfl ?_); refine kg (some 41) rfl rfl Try.func23 (by kernel_rfl) rfl #[.int .i64 a0, .int .i64 (wrap64 (a1 * a2)), .int .i64 (365 * 1000000), .int .i64 4] rfl ?_; (with_reducible refine (cents_MulDiv_s.calls a0 (wrap64 (a1 * a2)) (365 * 1000000) 4 t436 t437 _ A14.out).mono ?_); rintro e w' ⟨rfl, ⟨nd, rfl⟩⟩; refine ⟨_, rfl, ?_⟩; (try simp only [errW_none, errW_some])))
     go_ret2
     exact ⟨by first | rfl | (simp; done) | (simp [*]; done), by repeat (first | exact Drawn0.refl _ | apply Drawn0.step)⟩

end Go.Proofs.Ytonjhfneeejdaaa.P
