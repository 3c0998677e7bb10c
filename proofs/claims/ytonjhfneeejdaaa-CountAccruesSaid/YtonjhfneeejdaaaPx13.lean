-- Written by a program of this session out of the translation of the seat: Lean functions and the proofs that the Go functions come to them.
import Derived.Test.YtonjhfneeejdaaaPx0
import Derived.Test.YtonjhfneeejdaaaPx4
import Derived.Test.YtonjhfneeejdaaaPx5
import Derived.Test.YtonjhfneeejdaaaPx7
import Derived.Test.YtonjhfneeejdaaaPx9
import Derived.Test.YtonjhfneeejdaaaPx11
import Derived.Test.YtonjhfneeejdaaaPx12
namespace Go.Proofs.Ytonjhfneeejdaaa.P
open Go.RowKit Go.Proofs.YtonjhfneeejdaaaW.PrintWords Go.Proofs.YtonjhfneeejdaaaW.PrintLast Go.Proofs.YtonjhfneeejdaaaW.PrintMore
attribute [local go_sem] max2_int min2_int max_two min_two max_three min_three max_four min_four   -- for this text's walks alone
set_option linter.unusedVariables false
set_option linter.unusedSimpArgs false

/-! ### trivetref01_Quotient: function 16, its laws -/
theorem Qu.num_len (z : Int) : ((U.num z).1.length : Int) = 0 ↔ z = 0 := by
 have h := U.dig_nil_iff (U.abs_nonneg z)
 have e : M.abs z = 0 ↔ z = 0 := by unfold M.abs; split <;> omega
 rw [← e, ← h]
 show ((U.dig (M.abs z)).length : Int) = 0 ↔ _
 rw [← List.length_eq_zero_iff]
 omega
theorem Qu.num_low (z : Int) (h : z ≠ 0) : rd (U.num z).1 0 = M.abs z % 65536 := by
 have e : M.abs z / 65536 ^ 0 = M.abs z := by simp
 have := Qu.dig_get 0 (M.abs z) (U.abs_nonneg z)
 rw [e] at this
 exact this
theorem Qu.rest {x c : Int} : x + -(x / c * c) = x % c := by
 rw [Int.emod_def, Int.mul_comm c]; omega
theorem Qu.quo_pos {x c mode : Int} (hc : 0 < c) : M.quo x c mode = if x % c = 0 ∨ mode = 1 then x / c else if mode = 2 then x / c + 1 else if 2 * (x % c) < c then x / c else if 2 * (x % c) > c then x / c + 1 else if (mode = 4 ∧ (x / c) % 2 = 0) ∨ (mode = 3 ∧ x < 0) then x / c else x / c + 1 := by
 unfold M.quo
 simp only [if_neg (show ¬ c < 0 by omega)]
theorem Qu.quo_neg {x c mode : Int} (hc : c < 0) : M.quo x c mode = M.quo (-x) (-c) mode := by
 unfold M.quo
 simp only [if_pos hc, if_neg (show ¬ -c < 0 by omega)]
theorem trivetref01_Quotient.tie (k : Nat) (mode x c : Int) (hc : 0 < c) (hm : mode ≠ 1) (hm2 : mode ≠ 2) (hr : x % c ≠ 0) (h1 : ¬ 2 * (x % c) < c) (h2 : ¬ 2 * (x % c) > c) :
  (if ((U.num (x / c)).1.length : Int) = 0 then (if mode = 4 then (trivetref01_Quotient.j2 (k + 1) true (U.num (x / c)).1 (U.num (x / c)).2 (U.num (x / c + 1)).1 (U.num (x / c + 1)).2) else (if mode = 3 then (trivetref01_Quotient.j2 (k + 1) (U.num x).2 (U.num (x / c)).1 (U.num (x / c)).2 (U.num (x / c + 1)).1 (U.num (x / c + 1)).2) else (trivetref01_Quotient.j2 (k + 1) false (U.num (x / c)).1 (U.num (x / c)).2 (U.num (x / c + 1)).1 (U.num (x / c + 1)).2))) else (if 0 < ((U.num (x / c)).1.length : Int) then (if mode = 4 then (if (Int.tmod (rd (U.num (x / c)).1 0) 2) = 0 then (trivetref01_Quotient.j3 (k + 1) true (U.num (x / c)).1 (U.num (x / c)).2 (U.num (x / c + 1)).1 (U.num (x / c + 1)).2) else (if mode = 3 then (trivetref01_Quotient.j3 (k + 1) (U.num x).2 (U.num (x / c)).1 (U.num (x / c)).2 (U.num (x / c + 1)).1 (U.num (x / c + 1)).2) else (trivetref01_Quotient.j3 (k + 1) false (U.num (x / c)).1 (U.num (x / c)).2 (U.num (x / c + 1)).1 (U.num (x / c + 1)).2))) else (if mode = 3 then (trivetref01_Quotient.j3 (k + 1) (U.num x).2 (U.num (x / c)).1 (U.num (x / c)).2 (U.num (x / c + 1)).1 (U.num (x / c + 1)).2) else (trivetref01_Quotient.j3 (k + 1) false (U.num (x / c)).1 (U.num (x / c)).2 (U.num (x / c + 1)).1 (U.num (x / c + 1)).2))) else (none))) = some (U.num (M.quo x c mode)) := by
 have hs : (U.num x).2 = decide (x < 0) := rfl
 have hl := Qu.num_len (x / c)
 have hq := Qu.quo_pos (x := x) (mode := mode) hc
 rw [if_neg (show ¬ (x % c = 0 ∨ mode = 1) by omega), if_neg hm2, if_neg h1, if_neg h2] at hq
 rw [hq, hs]
 simp only [trivetref01_Quotient.j2, trivetref01_Quotient.j3]
 by_cases h0 : x / c = 0
 ·rw [if_pos (hl.mpr h0)]
  rw [h0]
  by_cases m4 : mode = 4
  ·rw [if_pos m4, if_pos (by decide), if_pos (.inl ⟨m4, by decide⟩)]
  ·rw [if_neg m4]
   by_cases m3 : mode = 3
   ·rw [if_pos m3]
    by_cases hx : x < 0
    ·rw [if_pos (decide_eq_true hx), if_pos (.inr ⟨m3, hx⟩)]
    ·rw [if_neg (by simpa using hx), if_neg (by omega)]
   ·rw [if_neg m3, if_neg (by decide), if_neg (by omega)]
 ·have hpos : 0 < ((U.num (x / c)).1.length : Int) := by
   have : ¬ ((U.num (x / c)).1.length : Int) = 0 := fun h => h0 (hl.mp h)
   omega
  rw [if_neg (fun h => h0 (hl.mp h)), if_pos hpos]
  have hev : (Int.tmod (rd (U.num (x / c)).1 0) 2) = 0 ↔ (x / c) % 2 = 0 := by
   rw [Qu.num_low _ h0]
   have a0 := U.abs_nonneg (x / c)
   rw [M.tmodu (by omega)]
   unfold M.abs
   split <;> omega
  by_cases m4 : mode = 4
  ·rw [if_pos m4]
   by_cases he : (x / c) % 2 = 0
   ·rw [if_pos (hev.mpr he), if_pos (by decide), if_pos (.inl ⟨m4, he⟩)]
   ·rw [if_neg (fun h => he (hev.mp h)), if_neg (show ¬ mode = 3 by omega), if_neg (by decide), if_neg (by omega)]
  ·rw [if_neg m4]
   by_cases m3 : mode = 3
   ·rw [if_pos m3]
    by_cases hx : x < 0
    ·rw [if_pos (decide_eq_true hx), if_pos (.inr ⟨m3, hx⟩)]
    ·rw [if_neg (by simpa using hx), if_neg (by omega)]
   ·rw [if_neg m3, if_neg (by decide), if_neg (by omega)]
theorem trivetref01_Quotient.later (k : Nat) (mode x c : Int) (hx : M.abs x < 65536 ^ 15) (hc : 0 < c) (hc2 : c < 65536 ^ 15) (hk : 400 ≤ k) (hm : mode ≠ 1) (hr : x % c ≠ 0) :
  trivetref01_Quotient.j1 (k + 2) mode false (U.num x).1 (U.num x).2 (U.num c).1 (U.num c).2 (U.num (x / c)).1 (U.num (x / c)).2 (U.num (x % c)).1 (U.num (x % c)).2 = some (U.num (M.quo x c mode)) := by
 have p16 : (65536 : Int) ^ 15 * 4 < 65536 ^ 32 := by decide
 have p32 : (65536 : Int) ^ 32 * 4 < 65536 ^ 64 := by decide
 have hr0 := Int.emod_nonneg x (show c ≠ 0 by omega)
 have hr1 := Int.emod_lt_of_pos x hc
 have hab := Qu.abs_div (x := x) hc
 have ar := Qu.abs_pos hr0
 have ac := Qu.abs_pos (Int.le_of_lt hc)
 have a1 : M.abs 1 = 1 := rfl
 have hq := Qu.quo_pos (x := x) (mode := mode) hc
 rw [if_neg (show ¬ (x % c = 0 ∨ mode = 1) by omega)] at hq
 rw [show k + 2 = (k + 1) + 1 by omega]
 simp only [trivetref01_Quotient.j1]
 rw [if_neg (by decide), trivetref01_Of.num (k + 1) 1 (by decide) (by omega), Option.bind_some, trivetref01_Add.num (k + 1) (x / c) 1 (by omega) (by omega) (by omega), Option.bind_some]
 by_cases m2 : mode = 2
 ·rw [if_pos m2] at hq ⊢
  rw [hq]
 ·rw [if_neg m2] at hq ⊢
  have arr : M.abs (x % c + x % c) = x % c + x % c := Qu.abs_pos (by omega)
  rw [trivetref01_Add.num (k + 1) (x % c) (x % c) (by omega) (by omega) (by omega), Option.bind_some, trivetref01_Cmp.num (k + 1) (x % c + x % c) c (by omega) (by omega) (by omega), Option.bind_some]
  by_cases h1 : 2 * (x % c) < c
  ·rw [if_pos h1] at hq
   rw [if_neg (show ¬ x % c + x % c = c by omega), if_pos (show x % c + x % c < c by omega), if_pos (by decide), hq]
  ·rw [if_neg h1] at hq
   by_cases h2 : 2 * (x % c) > c
   ·rw [if_pos h2] at hq
    rw [if_neg (show ¬ x % c + x % c = c by omega), if_neg (show ¬ x % c + x % c < c by omega), if_neg (by decide), if_pos (by decide), hq]
   ·rw [if_pos (show x % c + x % c = c by omega), if_neg (by decide), if_neg (by decide)]
    exact trivetref01_Quotient.tie k mode x c hc hm m2 hr h1 h2
theorem trivetref01_Quotient.pos (k : Nat) (mode x c : Int) (hx : M.abs x < 65536 ^ 15) (hc : 0 < c) (hc2 : c < 65536 ^ 15) (hk : 7500 ≤ k) :
  trivetref01_Quotient.j0 k mode (U.num x).1 (U.num x).2 (U.num c).1 (U.num c).2 = some (U.num (M.quo x c mode)) := by
 have p16 : (65536 : Int) ^ 15 * 4 < 65536 ^ 16 := by decide
 have p20 : (65536 : Int) ^ 16 * 4 < 65536 ^ 32 := by decide
 have p32 : (65536 : Int) ^ 32 * 4 < 65536 ^ 64 := by decide
 have hr0 := Int.emod_nonneg x (show c ≠ 0 by omega)
 have hr1 := Int.emod_lt_of_pos x hc
 have hab := Qu.abs_div (x := x) hc
 have ac := Qu.abs_pos (Int.le_of_lt hc)
 have hrest := Qu.rest (x := x) (c := c)
 have hp : M.abs (x / c * c) < 65536 ^ 64 := by
  have : x / c * c = x - x % c := by omega
  rw [this]
  unfold M.abs at hx ⊢
  split at hx <;> split <;> omega
 have hpn : M.abs (-(x / c * c)) < 65536 ^ 64 := by
  unfold M.abs at hp ⊢
  split at hp <;> split <;> omega
 obtain ⟨j, rfl⟩ : ∃ j, k = (j + 2) + 1 := ⟨k - 3, by omega⟩
 simp only [trivetref01_Quotient.j0]
 rw [trivetref01_floor.num (j + 2) x c (by omega) hc (by omega) (by omega), Option.bind_some, trivetref01_Mul.num (j + 2) (x / c) c (by omega) (by omega) (by omega), Option.bind_some, trivetref01_Neg.num (j + 2) (x / c * c) hp (by omega), Option.bind_some, trivetref01_Add.num (j + 2) x (-(x / c * c)) (by omega) hpn (by omega), Option.bind_some, hrest]
 have hl := Qu.num_len (x % c)
 have hq := Qu.quo_pos (x := x) (mode := mode) hc
 by_cases h0 : x % c = 0
 ·rw [if_pos (.inl h0)] at hq
  rw [if_pos (hl.mpr h0), hq]
  simp only [trivetref01_Quotient.j1]
  rw [if_pos trivial]
 ·rw [if_neg (fun h => h0 (hl.mp h))]
  by_cases m1 : mode = 1
  ·rw [if_pos (.inr m1)] at hq
   rw [hq, show (mode == 1) = true from beq_iff_eq.mpr m1]
   simp only [trivetref01_Quotient.j1]
   rw [if_pos trivial]
  ·rw [show (mode == 1) = false from beq_eq_false_iff_ne.mpr m1]
   exact trivetref01_Quotient.later j mode x c hx hc hc2 (by omega) m1 h0
theorem trivetref01_Quotient.num (k : Nat) (x c mode : Int) (hx : M.abs x < 65536 ^ 15) (hc : c ≠ 0) (hc2 : M.abs c < 65536 ^ 15) (hk : 7500 ≤ k) :
  trivetref01_Quotient.f k (U.num x).1 (U.num x).2 (U.num c).1 (U.num c).2 mode = some (U.num (M.quo x c mode)) := by
 have p32 : (65536 : Int) ^ 15 * 4 < 65536 ^ 64 := by decide
 have hs : (U.num c).2 = decide (c < 0) := rfl
 unfold trivetref01_Quotient.f
 by_cases h : c < 0
 ·have e : M.abs c = -c := by unfold M.abs; rw [if_pos h]
  have ex : M.abs (-x) = M.abs x := by unfold M.abs; split <;> split <;> omega
  rw [if_pos (by rw [hs]; exact decide_eq_true h), trivetref01_Neg.num k x (by omega) (by omega), Option.bind_some, trivetref01_Neg.num k c (by omega) (by omega), Option.bind_some, Qu.quo_neg h]
  exact trivetref01_Quotient.pos k mode (-x) (-c) (by omega) (by omega) (by omega) hk
 ·have e : M.abs c = c := Qu.abs_pos (by omega)
  rw [if_neg (by rw [hs]; simpa using h)]
  exact trivetref01_Quotient.pos k mode x c hx (by omega) (by omega) hk

/-! ### trivetlaw05_CountAccrues: function 4 -/
mutual
def trivetlaw05_CountAccrues.j0 : Nat → Int → Int → Int → Bool → Bool → Int → Option Int → Bool → Option (Bool)
 | 0, _, _, _, _, _, _, _, _ => none
 | k + 1, x0, x1, x2, x3, x9, x10, x11, x46 => if x46 = true then (if x9 = true then (if x11.isNone = true then (none) else (if (x11.getD 0) = 1 then (some (x10 == 0)) else (none))) else (none)) else (if x3 = true then (trivetlaw05_CountAccrues.j1 k x0 x1 x2 x9 x10 x11 360000000) else (trivetlaw05_CountAccrues.j1 k x0 x1 x2 x9 x10 x11 365000000))
def trivetlaw05_CountAccrues.j1 : Nat → Int → Int → Int → Bool → Int → Option Int → Int → Option (Bool)
 | 0, _, _, _, _, _, _, _ => none
 | k + 1, x0, x1, x2, x9, x10, x11, x12 => (trivetref01_Of.f k x0).bind fun bt648 => ((trivetref01_Of.f k (wrap64 (x1 * x2))).bind fun bt652 => ((trivetref01_Mul.f k bt648.1 bt648.2 bt652.1 bt652.2).bind fun bt656 => ((trivetref01_Of.f k x12).bind fun bt661 => ((trivetref01_Quotient.f k bt656.1 bt656.2 bt661.1 bt661.2 4).bind fun bt665 => ((trivetref01_To.f k bt665.1 bt665.2).bind fun bt669 => (if x9 = true then (if bt669.2 = true then (if x11.isNone = true then (some (x10 == bt669.1)) else (none)) else (none)) else (none)))))))
end
def trivetlaw05_CountAccrues.f (k : Nat) (a0 : Int) (a1 : Int) (a2 : Int) (a3 : Bool) : Option (Bool) := (trivetlaw05_up_s.f).bind fun t644 => ((count_Accrue_s.f a0 a1 a2 a3).bind fun bt645 => (if a0 < 0 then (trivetlaw05_CountAccrues.j0 k a0 a1 a2 a3 t644 bt645.1 bt645.2 true) else (if a0 > 10000000000000 then (trivetlaw05_CountAccrues.j0 k a0 a1 a2 a3 t644 bt645.1 bt645.2 true) else (if a1 < 0 then (trivetlaw05_CountAccrues.j0 k a0 a1 a2 a3 t644 bt645.1 bt645.2 true) else (if a1 > 300000 then (trivetlaw05_CountAccrues.j0 k a0 a1 a2 a3 t644 bt645.1 bt645.2 true) else (if a2 < 0 then (trivetlaw05_CountAccrues.j0 k a0 a1 a2 a3 t644 bt645.1 bt645.2 true) else (trivetlaw05_CountAccrues.j0 k a0 a1 a2 a3 t644 bt645.1 bt645.2 (decide (a2 > 40000)))))))))
theorem trivetlaw05_CountAccrues.mono_l : ∀ k, (∀ y0 y1 y2 y3 y4 y5 y6 y7, LeO (trivetlaw05_CountAccrues.j0 k y0 y1 y2 y3 y4 y5 y6 y7) (trivetlaw05_CountAccrues.j0 (k + 1) y0 y1 y2 y3 y4 y5 y6 y7)) ∧ (∀ y0 y1 y2 y3 y4 y5 y6, LeO (trivetlaw05_CountAccrues.j1 k y0 y1 y2 y3 y4 y5 y6) (trivetlaw05_CountAccrues.j1 (k + 1) y0 y1 y2 y3 y4 y5 y6))
 | 0 => ⟨fun _ _ _ _ _ _ _ _ r h => by simp [trivetlaw05_CountAccrues.j0] at h, fun _ _ _ _ _ _ _ r h => by simp [trivetlaw05_CountAccrues.j1] at h⟩
 | k + 1 => by
  obtain ⟨ih0, ih1⟩ := trivetlaw05_CountAccrues.mono_l k
  refine ⟨?_, ?_⟩
  ·intro y0 y1 y2 y3 y4 y5 y6 y7
   unfold trivetlaw05_CountAccrues.j0
   repeat' first
   | (with_reducible exact ih0 _ _ _ _ _ _ _ _)
   | (with_reducible exact ih1 _ _ _ _ _ _ _)
   | (with_reducible exact trivetref01_Mul.mono _ _ _ _ _)
   | (with_reducible exact trivetref01_Of.mono _ _)
   | (with_reducible exact trivetref01_Quotient.mono _ _ _ _ _ _)
   | (with_reducible exact trivetref01_To.mono _ _ _)
   | (with_reducible exact LeO.refl _)
   | (with_reducible exact LeO.none _)
   | (with_reducible refine LeO.ite ?_ ?_)
   | (with_reducible refine LeO.bind ?_ (fun _ => ?_))
   | exact ih0 _ _ _ _ _ _ _ _
   | exact ih1 _ _ _ _ _ _ _
   | exact trivetref01_Mul.mono _ _ _ _ _
   | exact trivetref01_Of.mono _ _
   | exact trivetref01_Quotient.mono _ _ _ _ _ _
   | exact trivetref01_To.mono _ _ _
   | exact LeO.none _
   | refine LeO.ite ?_ ?_
   | refine LeO.bind ?_ (fun _ => ?_)
  ·intro y0 y1 y2 y3 y4 y5 y6
   unfold trivetlaw05_CountAccrues.j1
   repeat' first
   | (with_reducible exact ih0 _ _ _ _ _ _ _ _)
   | (with_reducible exact ih1 _ _ _ _ _ _ _)
   | (with_reducible exact trivetref01_Mul.mono _ _ _ _ _)
   | (with_reducible exact trivetref01_Of.mono _ _)
   | (with_reducible exact trivetref01_Quotient.mono _ _ _ _ _ _)
   | (with_reducible exact trivetref01_To.mono _ _ _)
   | (with_reducible exact LeO.refl _)
   | (with_reducible exact LeO.none _)
   | (with_reducible refine LeO.ite ?_ ?_)
   | (with_reducible refine LeO.bind ?_ (fun _ => ?_))
   | exact ih0 _ _ _ _ _ _ _ _
   | exact ih1 _ _ _ _ _ _ _
   | exact trivetref01_Mul.mono _ _ _ _ _
   | exact trivetref01_Of.mono _ _
   | exact trivetref01_Quotient.mono _ _ _ _ _ _
   | exact trivetref01_To.mono _ _ _
   | exact LeO.none _
   | refine LeO.ite ?_ ?_
   | refine LeO.bind ?_ (fun _ => ?_)
theorem trivetlaw05_CountAccrues.mono : ∀ a0 a1 a2 a3 k, LeO (trivetlaw05_CountAccrues.f k a0 a1 a2 a3) (trivetlaw05_CountAccrues.f (k + 1) a0 a1 a2 a3) := by
 intro a0 a1 a2 a3 k
 obtain ⟨ih0, ih1⟩ := trivetlaw05_CountAccrues.mono_l k
 unfold trivetlaw05_CountAccrues.f
 repeat' first
   | (with_reducible exact ih0 _ _ _ _ _ _ _ _)
   | (with_reducible exact ih1 _ _ _ _ _ _ _)
   | (with_reducible exact trivetref01_Mul.mono _ _ _ _ _)
   | (with_reducible exact trivetref01_Of.mono _ _)
   | (with_reducible exact trivetref01_Quotient.mono _ _ _ _ _ _)
   | (with_reducible exact trivetref01_To.mono _ _ _)
   | (with_reducible exact LeO.refl _)
   | (with_reducible exact LeO.none _)
   | (with_reducible refine LeO.ite ?_ ?_)
   | (with_reducible refine LeO.bind ?_ (fun _ => ?_))
   | exact ih0 _ _ _ _ _ _ _ _
   | exact ih1 _ _ _ _ _ _ _
   | exact trivetref01_Mul.mono _ _ _ _ _
   | exact trivetref01_Of.mono _ _
   | exact trivetref01_Quotient.mono _ _ _ _ _ _
   | exact trivetref01_To.mono _ _ _
   | exact LeO.none _
   | refine LeO.ite ?_ ?_
   | refine LeO.bind ?_ (fun _ => ?_)
def trivetlaw05_CountAccrues.T9 : Bool × List (List Nat × List Nat) := (true, [([], []), ([], []), ([1], [1]), ([0, 2, 2], [0, 2]), ([3, 3], [3]), ([4], [4]), ([5], [5]), ([5], [5]), ([6, 4, 0, 1, 2, 3, 4, 5, 6], [6]), ([7, 8, 0, 1, 2, 3, 4, 5, 6, 7, 8], [7])])
def trivetlaw05_CountAccrues.B9 : List Nat := [0, 0, 2, 7, 15, 31, 63, 63, 127, 511]
theorem trivetlaw05_CountAccrues.tab9 : rtab .any (opsOf Try.f4 9) = trivetlaw05_CountAccrues.T9 := by kernel_rfl
theorem trivetlaw05_CountAccrues.bits9 : waitsOk trivetlaw05_CountAccrues.T9.2 trivetlaw05_CountAccrues.B9 = true := by kernel_rfl
set_option maxHeartbeats 8000000 in
set_option maxRecDepth 100000 in
theorem trivetlaw05_CountAccrues.calls (k : Nat) (a0 : Int) (a1 : Int) (a2 : Int) (a3 : Bool) (r : Bool) (w : World) (h : trivetlaw05_CountAccrues.f k a0 a1 a2 a3 = some r) :
  Calls Try.prog 4 #[.int .i64 a0, .int .i64 a1, .int .i64 a2, .bool a3] w fun e w' => e = .returned (.bool r) ∧ Below w.heap.size w w' := by
 have hu37 := Try.underlying37
 have hu26 := Try.underlying26
 have hu30 := Try.underlying30
 have HB := ka (Below.refl w.heap.size w)
 have H : ((trivetlaw05_up_s.f).bind fun t644 => ((count_Accrue_s.f a0 a1 a2 a3).bind fun bt645 => (if a0 < 0 then (trivetlaw05_CountAccrues.j0 k a0 a1 a2 a3 t644 bt645.1 bt645.2 true) else (if a0 > 10000000000000 then (trivetlaw05_CountAccrues.j0 k a0 a1 a2 a3 t644 bt645.1 bt645.2 true) else (if a1 < 0 then (trivetlaw05_CountAccrues.j0 k a0 a1 a2 a3 t644 bt645.1 bt645.2 true) else (if a1 > 300000 then (trivetlaw05_CountAccrues.j0 k a0 a1 a2 a3 t644 bt645.1 bt645.2 true) else (if a2 < 0 then (trivetlaw05_CountAccrues.j0 k a0 a1 a2 a3 t644 bt645.1 bt645.2 true) else (trivetlaw05_CountAccrues.j0 k a0 a1 a2 a3 t644 bt645.1 bt645.2 (decide (a2 > 40000)))))))))) = some r := h
 clear h
 replace H := Option.bind_eq_some_iff.mp H
 obtain ⟨t644, A50, H⟩ := H
 replace H : ((count_Accrue_s.f a0 a1 a2 a3).bind fun bt645 => (if a0 < 0 then (trivetlaw05_CountAccrues.j0 k a0 a1 a2 a3 t644 bt645.1 bt645.2 true) else (if a0 > 10000000000000 then (trivetlaw05_CountAccrues.j0 k a0 a1 a2 a3 t644 bt645.1 bt645.2 true) else (if a1 < 0 then (trivetlaw05_CountAccrues.j0 k a0 a1 a2 a3 t644 bt645.1 bt645.2 true) else (if a1 > 300000 then (trivetlaw05_CountAccrues.j0 k a0 a1 a2 a3 t644 bt645.1 bt645.2 true) else (if a2 < 0 then (trivetlaw05_CountAccrues.j0 k a0 a1 a2 a3 t644 bt645.1 bt645.2 true) else (trivetlaw05_CountAccrues.j0 k a0 a1 a2 a3 t644 bt645.1 bt645.2 (decide (a2 > 40000))))))))) = some r := H
 have A5 := ka A50
 clear A50
 replace H := Option.bind_eq_some_iff.mp H
 obtain ⟨⟨t645, t646⟩, A60, H⟩ := H
 replace H : (if a0 < 0 then (trivetlaw05_CountAccrues.j0 k a0 a1 a2 a3 t644 t645 t646 true) else (if a0 > 10000000000000 then (trivetlaw05_CountAccrues.j0 k a0 a1 a2 a3 t644 t645 t646 true) else (if a1 < 0 then (trivetlaw05_CountAccrues.j0 k a0 a1 a2 a3 t644 t645 t646 true) else (if a1 > 300000 then (trivetlaw05_CountAccrues.j0 k a0 a1 a2 a3 t644 t645 t646 true) else (if a2 < 0 then (trivetlaw05_CountAccrues.j0 k a0 a1 a2 a3 t644 t645 t646 true) else (trivetlaw05_CountAccrues.j0 k a0 a1 a2 a3 t644 t645 t646 (decide (a2 > 40000)))))))) = some r := H
 have A6 := ka A60
 clear A60
 have HC7 := ka H
 clear H
 go_enter Try.func4, Try.ntmps4
 go_upto_region 3 with (first | ((with_reducible refine gate_callee (f := 7) rfl ?_); refine kg (some 16) rfl rfl Try.func7 (by kernel_rfl) rfl #[] rfl ?_; (with_reducible refine (trivetlaw05_up_s.calls  t644 _ A5.out).mono ?_); rintro e w8 ⟨rfl, hb⟩; refine ⟨_, rfl, ?_⟩; replace HB := ka (below_step (kw HB.out) hb); (try clear hb); (try clear hb2); (try clear hk); (try clear hi)) | ((with_reducible refine gate_callee (f := 12) rfl ?_); refine kg (some 22) rfl rfl Try.func12 (by kernel_rfl) rfl #[.int .i64 a0, .int .i64 a1, .int .i64 a2, .bool a3] rfl ?_; (with_reducible refine (count_Accrue_s.calls a0 a1 a2 a3 t645 t646 _ A6.out).mono ?_); rintro e w' ⟨rfl, ⟨nd, rfl⟩⟩; refine ⟨_, rfl, ?_⟩; (try simp only [errW_none, errW_some])))
 (try simp only [Act.put, List.setIfInBounds_toArray, List.set_cons_zero, List.set_cons_succ])
 go_cut [46] (fun v46 wc => ∃ (kq : Nat) (x46_6 : Bool), v46 = .bool x46_6 ∧ Aside0 (trivetlaw05_CountAccrues.j0 kq a0 a1 a2 a3 t644 t645 t646 x46_6 = some r) ∧ Aside0 (kq ≤ k) ∧ Aside0 (Below w.heap.size w wc))
 case first =>
  have H := HC7.out
  clear HC7
  by_cases c9 : a0 < 0
  ·rw [if_pos c9] at H
   have c9b0 : decide (a0 < 0) = true := decide_eq_true c9
   clear c9
   (first | rw [c9b0] | (simp only [i64_w, i32_w]; rw [c9b0]) | skip)
   have H' := ka H
   clear H
   go_wp2
   go_meet
   case rel => exact ⟨_, (true), (by first | rfl | (simp; done) | (simp [*]; done)), H', ⟨by first | omega | exact Nat.le_refl _⟩, ⟨by repeat (first | (with_reducible first | exact HB.out | apply kc1 | apply kc2 | apply kc3) | exact HB.out)⟩⟩
  ·rw [if_neg c9] at H
   have c9b0 : decide (a0 < 0) = false := decide_eq_false c9
   clear c9
   (first | rw [c9b0] | (simp only [i64_w, i32_w]; rw [c9b0]) | skip)
   by_cases c10 : a0 > 10000000000000
   ·rw [if_pos c10] at H
    have c10b0 : decide (10000000000000 < a0) = true := decide_eq_true c10
    clear c10
    have H' := ka H
    clear H
    go_wp2
    go_meet
    case rel => exact ⟨_, (true), (by first | rfl | (simp; done) | (simp [*]; done)), H', ⟨by first | omega | exact Nat.le_refl _⟩, ⟨by repeat (first | (with_reducible first | exact HB.out | apply kc1 | apply kc2 | apply kc3) | exact HB.out)⟩⟩
   ·rw [if_neg c10] at H
    have c10b0 : decide (10000000000000 < a0) = false := decide_eq_false c10
    clear c10
    by_cases c11 : a1 < 0
    ·rw [if_pos c11] at H
     have c11b0 : decide (a1 < 0) = true := decide_eq_true c11
     clear c11
     have H' := ka H
     clear H
     go_wp2
     go_meet
     case rel => exact ⟨_, (true), (by first | rfl | (simp; done) | (simp [*]; done)), H', ⟨by first | omega | exact Nat.le_refl _⟩, ⟨by repeat (first | (with_reducible first | exact HB.out | apply kc1 | apply kc2 | apply kc3) | exact HB.out)⟩⟩
    ·rw [if_neg c11] at H
     have c11b0 : decide (a1 < 0) = false := decide_eq_false c11
     clear c11
     by_cases c12 : a1 > 300000
     ·rw [if_pos c12] at H
      have c12b0 : decide (300000 < a1) = true := decide_eq_true c12
      clear c12
      have H' := ka H
      clear H
      go_wp2
      go_meet
      case rel => exact ⟨_, (true), (by first | rfl | (simp; done) | (simp [*]; done)), H', ⟨by first | omega | exact Nat.le_refl _⟩, ⟨by repeat (first | (with_reducible first | exact HB.out | apply kc1 | apply kc2 | apply kc3) | exact HB.out)⟩⟩
     ·rw [if_neg c12] at H
      have c12b0 : decide (300000 < a1) = false := decide_eq_false c12
      clear c12
      by_cases c13 : a2 < 0
      ·rw [if_pos c13] at H
       have c13b0 : decide (a2 < 0) = true := decide_eq_true c13
       clear c13
       have H' := ka H
       clear H
       go_wp2
       go_meet
       case rel => exact ⟨_, (true), (by first | rfl | (simp; done) | (simp [*]; done)), H', ⟨by first | omega | exact Nat.le_refl _⟩, ⟨by repeat (first | (with_reducible first | exact HB.out | apply kc1 | apply kc2 | apply kc3) | exact HB.out)⟩⟩
      ·rw [if_neg c13] at H
       have c13b0 : decide (a2 < 0) = false := decide_eq_false c13
       clear c13
       have H' := ka H
       clear H
       go_wp2
       go_meet
       case rel => exact ⟨_, (decide (a2 > 40000)), (by first | rfl | (simp; done) | (simp [*]; done)), H', ⟨by first | omega | exact Nat.le_refl _⟩, ⟨by repeat (first | (with_reducible first | exact HB.out | apply kc1 | apply kc2 | apply kc3) | exact HB.out)⟩⟩
 case rest =>
  clear HC7
  try clear c1
  try clear p2
  try clear c4
  try clear c7
  try clear c9
  try clear c9b0
  try clear c10
  try clear c10b0
  try clear c11
  try clear c11b0
  try clear c12
  try clear c12b0
  try clear c13
  try clear c13b0
  obtain ⟨kq, x46_6, rfl, HA, HJ6, HB⟩ := hcut
  cases kq with
  | zero => exact absurd HA.out (by simp [trivetlaw05_CountAccrues.j0])
  | succ kj6 =>
   have H := HA.out
   clear HA
   simp only [trivetlaw05_CountAccrues.j0] at H
   by_cases c14 : x46_6 = true
   ·subst c14
    have H1 : (if t644 = true then (if t646.isNone = true then (none) else (if (t646.getD 0) = 1 then (some (t645 == 0)) else (none))) else (none)) = some r := by rw [if_pos rfl] at H; exact H
    clear H
    have H := H1
    clear H1
    by_cases c15 : t644 = true
    ·subst c15
     have H1 : (if t646.isNone = true then (none) else (if (t646.getD 0) = 1 then (some (t645 == 0)) else (none))) = some r := by rw [if_pos rfl] at H; exact H
     clear H
     have H := H1
     clear H1
     rcases t646 with _ | q647
     ·have H1 : (none) = some r := by rw [if_pos (show (none : Option Int).isNone = true by rfl)] at H; exact H
      clear H
      have H := H1
      clear H1
      try simp only [errW_none, errW_some]
      exact absurd H (by simp)
     ·have H1 : (if q647 = 1 then (some (t645 == 0)) else (none)) = some r := by rw [if_neg (show ¬ (some q647).isNone = true by simp)] at H; exact H
      clear H
      have H := H1
      clear H1
      try simp only [errW_none, errW_some]
      by_cases c16 : q647 = 1
      ·rw [if_pos c16] at H
       have c16b0 : (q647 == 1) = true := beq_iff_eq.mpr c16
       have c16b1 : (q647 != 1) = false := bne_eq_false_iff_eq.mpr c16
       clear c16
       obtain rfl := Option.some.inj H
       go_wp2
       go_ret
       exact ⟨by first | rfl | (simp [errW_none, errW_some] <;> rfl) | (simp [*, errW_none, errW_some] <;> rfl), by repeat (first | (with_reducible first | exact HB.out | apply kc1 | apply kc2 | apply kc3) | exact HB.out)⟩
      ·rw [if_neg c16] at H
       exact absurd H (by simp)
    ·replace c15 := Bool.eq_false_iff.mpr c15
     subst c15
     have H1 : (none) = some r := by rw [if_neg (show ¬ (false = true) by decide)] at H; exact H
     clear H
     have H := H1
     clear H1
     exact absurd H (by simp)
   ·replace c14 := Bool.eq_false_iff.mpr c14
    subst c14
    have H1 : (if a3 = true then (trivetlaw05_CountAccrues.j1 kj6 a0 a1 a2 t644 t645 t646 360000000) else (trivetlaw05_CountAccrues.j1 kj6 a0 a1 a2 t644 t645 t646 365000000)) = some r := by rw [if_neg (show ¬ (false = true) by decide)] at H; exact H
    clear H
    have H := H1
    clear H1
    have HC17 := ka H
    clear H
    go_upto_if 57 with (fail)
    go_cut [12] (fun v12 wc => ∃ (kq : Nat) (x12_16 : Int), v12 = .int .i64 x12_16 ∧ Aside0 (trivetlaw05_CountAccrues.j1 kq a0 a1 a2 t644 t645 t646 x12_16 = some r) ∧ Aside0 (kq ≤ kj6) ∧ Aside0 (Below w.heap.size w wc))
    case first =>
     have H := HC17.out
     clear HC17
     by_cases c18 : a3 = true
     ·subst c18
      have H1 : (trivetlaw05_CountAccrues.j1 kj6 a0 a1 a2 t644 t645 t646 360000000) = some r := by rw [if_pos rfl] at H; exact H
      clear H
      have H := H1
      clear H1
      have H' := ka H
      clear H
      go_wp2
      go_meet
      case rel => exact ⟨_, (360000000), (by first | rfl | (simp; done) | (simp [*]; done)), H', ⟨by have := HJ6.out; first | omega | exact Nat.le_refl _⟩, ⟨by repeat (first | (with_reducible first | exact HB.out | apply kc1 | apply kc2 | apply kc3) | exact HB.out)⟩⟩
     ·replace c18 := Bool.eq_false_iff.mpr c18
      subst c18
      have H1 : (trivetlaw05_CountAccrues.j1 kj6 a0 a1 a2 t644 t645 t646 365000000) = some r := by rw [if_neg (show ¬ (false = true) by decide)] at H; exact H
      clear H
      have H := H1
      clear H1
      have H' := ka H
      clear H
      go_wp2
      go_meet
      case rel => exact ⟨_, (365000000), (by first | rfl | (simp; done) | (simp [*]; done)), H', ⟨by have := HJ6.out; first | omega | exact Nat.le_refl _⟩, ⟨by repeat (first | (with_reducible first | exact HB.out | apply kc1 | apply kc2 | apply kc3) | exact HB.out)⟩⟩
    case rest =>
     clear HC17
     try clear c1
     try clear p2
     try clear c4
     try clear q6
     try clear c7
     try clear c9
     try clear c9b0
     try clear c10
     try clear c10b0
     try clear c11
     try clear c11b0
     try clear c12
     try clear c12b0
     try clear c13
     try clear c13b0
     try clear c14
     try clear c15
     try clear c16
     try clear c16b0
     try clear c16b1
     try clear c18
     try clear p2
     try clear q647
     obtain ⟨kq, x12_16, rfl, HA, HJ16, HB⟩ := hcut
     cases kq with
     | zero => exact absurd HA.out (by simp [trivetlaw05_CountAccrues.j1])
     | succ kj16 =>
      have H := HA.out
      clear HA
      simp only [trivetlaw05_CountAccrues.j1] at H
      replace H := Option.bind_eq_some_iff.mp H
      obtain ⟨⟨t648, t651⟩, A190, H⟩ := H
      replace H : ((trivetref01_Of.f kj16 (wrap64 (a1 * a2))).bind fun bt652 => ((trivetref01_Mul.f kj16 t648 t651 bt652.1 bt652.2).bind fun bt656 => ((trivetref01_Of.f kj16 x12_16).bind fun bt661 => ((trivetref01_Quotient.f kj16 bt656.1 bt656.2 bt661.1 bt661.2 4).bind fun bt665 => ((trivetref01_To.f kj16 bt665.1 bt665.2).bind fun bt669 => (if t644 = true then (if bt669.2 = true then (if t646.isNone = true then (some (t645 == bt669.1)) else (none)) else (none)) else (none))))))) = some r := H
      have A19 := ka A190
      clear A190
      replace H := Option.bind_eq_some_iff.mp H
      obtain ⟨⟨t652, t655⟩, A200, H⟩ := H
      replace H : ((trivetref01_Mul.f kj16 t648 t651 t652 t655).bind fun bt656 => ((trivetref01_Of.f kj16 x12_16).bind fun bt661 => ((trivetref01_Quotient.f kj16 bt656.1 bt656.2 bt661.1 bt661.2 4).bind fun bt665 => ((trivetref01_To.f kj16 bt665.1 bt665.2).bind fun bt669 => (if t644 = true then (if bt669.2 = true then (if t646.isNone = true then (some (t645 == bt669.1)) else (none)) else (none)) else (none)))))) = some r := H
      have A20 := ka A200
      clear A200
      replace H := Option.bind_eq_some_iff.mp H
      obtain ⟨⟨t656, t659⟩, A210, H⟩ := H
      replace H : ((trivetref01_Of.f kj16 x12_16).bind fun bt661 => ((trivetref01_Quotient.f kj16 t656 t659 bt661.1 bt661.2 4).bind fun bt665 => ((trivetref01_To.f kj16 bt665.1 bt665.2).bind fun bt669 => (if t644 = true then (if bt669.2 = true then (if t646.isNone = true then (some (t645 == bt669.1)) else (none)) else (none)) else (none))))) = some r := H
      have A21 := ka A210
      clear A210
      replace H := Option.bind_eq_some_iff.mp H
      obtain ⟨⟨t661, t664⟩, A220, H⟩ := H
      replace H : ((trivetref01_Quotient.f kj16 t656 t659 t661 t664 4).bind fun bt665 => ((trivetref01_To.f kj16 bt665.1 bt665.2).bind fun bt669 => (if t644 = true then (if bt669.2 = true then (if t646.isNone = true then (some (t645 == bt669.1)) else (none)) else (none)) else (none)))) = some r := H
      have A22 := ka A220
      clear A220
      replace H := Option.bind_eq_some_iff.mp H
      obtain ⟨⟨t665, t668⟩, A230, H⟩ := H
      replace H : ((trivetref01_To.f kj16 t665 t668).bind fun bt669 => (if t644 = true then (if bt669.2 = true then (if t646.isNone = true then (some (t645 == bt669.1)) else (none)) else (none)) else (none))) = some r := H
      have A23 := ka A230
      clear A230
      replace H := Option.bind_eq_some_iff.mp H
      obtain ⟨⟨t669, t670⟩, A240, H⟩ := H
      replace H : (if t644 = true then (if t670 = true then (if t646.isNone = true then (some (t645 == t669)) else (none)) else (none)) else (none)) = some r := H
      have A24 := ka A240
      clear A240
      by_cases c25 : t644 = true
      ·subst c25
       have H1 : (if t670 = true then (if t646.isNone = true then (some (t645 == t669)) else (none)) else (none)) = some r := by rw [if_pos rfl] at H; exact H
       clear H
       have H := H1
       clear H1
       by_cases c26 : t670 = true
       ·subst c26
        have H1 : (if t646.isNone = true then (some (t645 == t669)) else (none)) = some r := by rw [if_pos rfl] at H; exact H
        clear H
        have H := H1
        clear H1
        rcases t646 with _ | q671
        ·have H1 : (some (t645 == t669)) = some r := by rw [if_pos (show (none : Option Int).isNone = true by rfl)] at H; exact H
         clear H
         have H := H1
         clear H1
         try simp only [errW_none, errW_some]
         obtain rfl := Option.some.inj H
         try go_wp2_with (first | ((with_reducible refine gate_callee (f := 14) rfl ?_); refine kg (some 59) rfl rfl Try.func14 (by kernel_rfl) rfl #[.int .i64 a0] rfl ?_; (with_reducible refine (trivetref01_Of.calls kj16 a0 t648 t651 _ A19.out).mono ?_); rintro e w27 ⟨v649, rfl, ho0, hb⟩; refine ⟨_, rfl, ?_⟩; have HO650 := ka (Kd.V_lower (Kd.V_mono (ok' := fun k_ => True) ho0 (fun k_ hk_ => trivial)) (below_size (kw HB.out))); replace HB := ka (below_step (kw HB.out) hb); (try clear hb); (try clear hb2); (try clear hk); (try clear hi); (try clear ho0)) | ((with_reducible refine gate_callee (f := 14) rfl ?_); refine kg (some 63) rfl rfl Try.func14 (by kernel_rfl) rfl #[.int .i64 (wrap64 (a1 * a2))] rfl ?_; (with_reducible refine (trivetref01_Of.calls kj16 (wrap64 (a1 * a2)) t652 t655 _ A20.out).mono ?_); rintro e w28 ⟨v653, rfl, ho0, hb⟩; refine ⟨_, rfl, ?_⟩; replace HO650 := kvb HO650 hb; have HO654 := ka (Kd.V_lower (Kd.V_mono (ok' := fun k_ => True) ho0 (fun k_ hk_ => trivial)) (below_size (kw HB.out))); replace HB := ka (below_step (kw HB.out) hb); (try clear hb); (try clear hb2); (try clear hk); (try clear hi); (try clear ho0); obtain ⟨Ao29, co29, eo29⟩ := Kd.V_slice HO650.out; subst eo29; obtain ⟨Ao30, co30, eo30⟩ := Kd.V_slice HO654.out; subst eo30) | ((with_reducible refine gate_callee (f := 13) rfl ?_); refine kg (some 64) rfl rfl Try.func13 (by kernel_rfl) rfl #[.agg #[.slice Ao29 t648.length co29, .bool t651], .agg #[.slice Ao30 t652.length co30, .bool t655]] rfl ?_; (with_reducible refine (trivetref01_Mul.calls kj16 _ _ t648 t651 _ _ t652 t655 t656 t659 _ ?side1 ?side2 ?side3 ?side4 A21.out).mono ?_); (case side1 => repeat (first | exact (Kd.V_reads' HO650.out).2.2 | (with_reducible refine Kd.C_alloc ?_ _) | (with_reducible refine Kd.C_drewN ?_ _) | (with_reducible refine Kd.C_drew ?_))); (case side2 => exact (Kd.V_reads' HO650.out).2.1); (case side3 => repeat (first | exact (Kd.V_reads' HO654.out).2.2 | (with_reducible refine Kd.C_alloc ?_ _) | (with_reducible refine Kd.C_drewN ?_ _) | (with_reducible refine Kd.C_drew ?_))); (case side4 => exact (Kd.V_reads' HO654.out).2.1); rintro e w31 ⟨v657, rfl, ho0, hb⟩; refine ⟨_, rfl, ?_⟩; replace HO650 := kvb HO650 hb; replace HO654 := kvb HO654 hb; have HO658 := ka (Kd.V_lower (Kd.V_mono (ok' := fun k_ => True) ho0 (fun k_ hk_ => trivial)) (below_size (kw HB.out))); replace HB := ka (below_step (kw HB.out) hb); (try clear hb); (try clear hb2); (try clear hk); (try clear hi); (try clear ho0)) | ((with_reducible refine gate_dst (N := 13) rfl ?_); refine kx (N := 13) (cs := #[.slice none 0 0, .bool false]) (t := 37) ?_; intro gb660 hg w32 hbox hb; have n0_ := ka (Kd.V_below (Kd.V_elderB (kv HO650.out) gb660 (Nat.le_of_eq hg.symm)) hb); have n1_ := ka (Kd.V_below (Kd.V_elderB (kv HO654.out) gb660 (Nat.le_of_eq hg.symm)) hb); have n2_ := ka (Kd.V_below (Kd.V_elderB (kv HO658.out) gb660 (Nat.le_of_eq hg.symm)) hb); have n3_ := ka (below_step (kw HB.out) hb); have n4_ := ka (hbox); have n5_ := ka ((by rw [hg]; exact (below_size (kw HB.out)) : w.heap.size ≤ gb660)); have n6_ := n5_; clear HO650; clear HO654; clear HO658; clear HB; have HO650 := n0_; have HO654 := n1_; have HO658 := n2_; have HB := n3_; have BK660 := n4_; have GW660 := n5_; have GE660 := n6_; clear n0_ n1_ n2_ n3_ n4_ n5_ n6_; clear hb hbox hg; obtain ⟨Ao33, co33, eo33⟩ := Kd.V_slice HO658.out; subst eo33; have hcz34 := blkAll2 BK660.out))
         have n0_ : Aside0 (Kd.V (Kd.int .u64) 53 ((w32.setCell ⟨gb660, 0, none⟩ (.slice Ao33 t656.length co33)).setCell ⟨gb660, 1, none⟩ (.bool t659)) w.heap.size (fun k_ => k_ ≠ gb660) (.slice Ao29 t648.length co29) t648) := ⟨kv (Kd.V_mono (Kd.V_far (p := ⟨gb660, 1, none⟩) (Kd.V_far (p := ⟨gb660, 0, none⟩) (Kd.V_mono HO650.out (fun k_ hk => (⟨hk, hk.2⟩ : _ ∧ k_ ≠ gb660))) (fun _ hk => hk.2) (.slice Ao33 t656.length co33)) (fun _ hk => hk.2) (.bool t659)) (fun _ hk => hk.1.2))⟩
         have n1_ : Aside0 (Kd.V (Kd.int .u64) 53 ((w32.setCell ⟨gb660, 0, none⟩ (.slice Ao33 t656.length co33)).setCell ⟨gb660, 1, none⟩ (.bool t659)) w.heap.size (fun k_ => k_ ≠ gb660) (.slice Ao30 t652.length co30) t652) := ⟨kv (Kd.V_mono (Kd.V_far (p := ⟨gb660, 1, none⟩) (Kd.V_far (p := ⟨gb660, 0, none⟩) (Kd.V_mono HO654.out (fun k_ hk => (⟨hk, hk.2⟩ : _ ∧ k_ ≠ gb660))) (fun _ hk => hk.2) (.slice Ao33 t656.length co33)) (fun _ hk => hk.2) (.bool t659)) (fun _ hk => hk.1.2))⟩
         have n2_ : Aside0 (Kd.V (Kd.int .u64) 53 ((w32.setCell ⟨gb660, 0, none⟩ (.slice Ao33 t656.length co33)).setCell ⟨gb660, 1, none⟩ (.bool t659)) w.heap.size (fun k_ => k_ ≠ gb660) (.slice Ao33 t656.length co33) t656) := ⟨kv (Kd.V_mono (Kd.V_far (p := ⟨gb660, 1, none⟩) (Kd.V_far (p := ⟨gb660, 0, none⟩) (Kd.V_mono HO658.out (fun k_ hk => (⟨hk, hk.2⟩ : _ ∧ k_ ≠ gb660))) (fun _ hk => hk.2) (.slice Ao33 t656.length co33)) (fun _ hk => hk.2) (.bool t659)) (fun _ hk => hk.1.2))⟩
         have n3_ : Aside0 (((w32.setCell ⟨gb660, 0, none⟩ (.slice Ao33 t656.length co33)).setCell ⟨gb660, 1, none⟩ (.bool t659)).heap[gb660]? = some (.cells #[.slice Ao33 t656.length co33, .bool t659] 37 (0, 0))) := ⟨by (with_reducible repeat (first | apply kb1 | apply kb2 | apply kb3 | apply blkPut2_1 | apply blkPut2_0)); exact BK660.out⟩
         have n4_ : Aside0 (Below w.heap.size w ((w32.setCell ⟨gb660, 0, none⟩ (.slice Ao33 t656.length co33)).setCell ⟨gb660, 1, none⟩ (.bool t659))) := ⟨by repeat (first | (with_reducible first | exact HB.out | apply kc1 | apply kc2 | apply kc3 | refine kc4 ?_ GE660.out) | exact HB.out)⟩
         (try clear HO650)
         (try clear HO654)
         (try clear HO658)
         (try clear BK660)
         (try clear HB)
         generalize ((w32.setCell ⟨gb660, 0, none⟩ (.slice Ao33 t656.length co33)).setCell ⟨gb660, 1, none⟩ (.bool t659)) = w35 at n0_ n1_ n2_ n3_ n4_ ⊢
         have HO650 := n0_
         have HO654 := n1_
         have HO658 := n2_
         have BK660 := n3_
         have HB := n4_
         clear n0_ n1_ n2_ n3_ n4_
         replace HO650 := ka (Kd.V_drew HO650.out)
         replace HO654 := ka (Kd.V_drew HO654.out)
         replace HO658 := ka (Kd.V_drew HO658.out)
         replace BK660 := ka (blk_drew BK660.out)
         replace HB := ka (below_drew1 HB.out)
         refine start_ (n := 10) (S := fun w' => w'.cell? ⟨gb660, 0, none⟩ = some (.slice Ao33 t656.length co33) ∧ w'.cell? ⟨gb660, 1, none⟩ = some (.bool t659)) (ds := []) #[false, false, false, false, false, false, false, false, false, false] (by kernel_rfl) rfl rfl ⟨(blk_cell BK660.out 0).trans rfl, (blk_cell BK660.out 1).trans rfl⟩ (fun hHeld => ?_); refine with_tabW trivetlaw05_CountAccrues.tab9 trivetlaw05_CountAccrues.bits9 (fun HT_ HW_ => ?_)
         generalize w35.drew = w36 at HO650 HO654 HO658 BK660 HB hHeld ⊢
         refine pure_ (i := 1) (N := some 67) (v := ?_) (a' := ?_) #[false, true, false, false, false, false, false, false, false, false] rfl rfl (any_of HT_.out (by kernel_rfl)) (fun _ _ _ h => h) (Or.inl ⟨by rfl, ?_⟩) ?_ ?_
         rotate_left
         ·intro w'
          go_simp
          with_reducible rfl
         rotate_left
         ·simp only [Act.put, List.setIfInBounds_toArray, List.set_cons_zero, List.set_cons_succ, i64_w, i32_w]
          rfl
         refine take_ (i := 0) (N := some 66) (v := ?_) (a' := ?_) #[true, true, false, false, false, false, false, false, false, false] rfl rfl (take_ofW HT_.out HW_.out (by kernel_rfl)) (fun _ _ _ h => h) (Or.inl ⟨by rfl, ?_⟩) hHeld ?_ ?_
         rotate_left
         ·rintro w' ⟨s0, s1⟩
          go_simp
          with_reducible rfl
         rotate_left
         ·simp only [Act.put, List.setIfInBounds_toArray, List.set_cons_zero, List.set_cons_succ, i64_w, i32_w]
          rfl
         refine one_ (i := 2) (N := some 68) #[true, true, true, false, false, false, false, false, false, false] rfl rfl (one_of HT_.out (by kernel_rfl)) (by decide) (fun K hK => ?_)
         refine goes_ Try.func14 (by kernel_rfl) rfl #[.int .i64 x12_16] (by rfl) rfl rfl (by (try simp only [List.map_toArray, List.map_cons, List.map_nil]); first | done | rfl | (simp only [List.length_drop, List.length_take]; rfl)) ?_
         with_reducible refine (trivetref01_Of.calls kj16 x12_16 t661 t664 _ A22.out).mono ?_
         rintro e w37 ⟨v662, rfl, ho0, hb⟩
         refine ⟨_, rfl, ?_⟩
         replace HO650 := kvb HO650 hb
         replace HO654 := kvb HO654 hb
         replace HO658 := kvb HO658 hb
         have HO663 := ka (Kd.V_lower (Kd.V_mono (ok' := fun k_ => k_ ≠ gb660) ho0 (fun k_ hk_ => (kf BK660 hk_))) (below_size (kw HB.out)))
         replace BK660 := kbb BK660 hb
         replace HB := ka (below_step (kw HB.out) hb)
         (try clear hb)
         (try clear hb2)
         (try clear hk)
         (try clear hi)
         (try clear ho0)
         obtain ⟨Ao38, co38, eo38⟩ := Kd.V_slice HO663.out
         (first | subst eo38 | (injection eo38 with f1_ f2_ f3_; have f4_ := f1_.symm; have f5_ := f3_.symm; clear f1_ f2_ f3_; subst f4_; subst f5_))
         refine hK.out _ _ ⟨(blk_cell BK660.out 0).trans rfl, (blk_cell BK660.out 1).trans rfl⟩ (fun hHeld => ?_)
         clear hK K
         refine norm_ (a' := ?_) ?_ ?_
         rotate_left
         ·show Act.put _ (some 68) _ = _
          simp only [Act.put, List.setIfInBounds_toArray, List.set_cons_zero, List.set_cons_succ, i64_w, i32_w]
          rfl
         refine one_ (i := 3) (N := some 69) #[true, true, true, true, false, false, false, false, false, false] rfl rfl (one_of HT_.out (by kernel_rfl)) (by decide) (fun K hK => ?_)
         refine goes_ Try.func16 (by kernel_rfl) rfl #[.agg #[.slice Ao33 t656.length co33, .bool t659], .agg #[.slice Ao38 t661.length co38, .bool t664], .int .i64 4] (by rfl) rfl rfl (by (try simp only [List.map_toArray, List.map_cons, List.map_nil]); first | done | rfl | (simp only [List.length_drop, List.length_take]; rfl)) ?_
         with_reducible refine (trivetref01_Quotient.calls kj16 (fun k_ => k_ ≠ gb660) _ _ t656 t659 (fun k_ => k_ ≠ gb660) _ _ t661 t664 4 t665 t668 _ ?side1 ?side2 A23.out).mono ?_
         (case side1 => exact HO658.out)
         (case side2 => exact HO663.out)
         rintro e w39 ⟨v666, rfl, ho0, hb⟩
         refine ⟨_, rfl, ?_⟩
         replace HO650 := kvb HO650 hb
         replace HO654 := kvb HO654 hb
         replace HO658 := kvb HO658 hb
         replace HO663 := kvb HO663 hb
         have HO667 := ka (Kd.V_lower (Kd.V_mono (ok' := fun k_ => k_ ≠ gb660) ho0 (fun k_ hk_ => Or.elim hk_ (fun hs_ => Or.elim hs_ (fun hs_ => hs_) (fun hs_ => hs_)) (fun hn_ => (kf BK660 hn_)))) (below_size (kw HB.out)))
         replace BK660 := kbb BK660 hb
         replace HB := ka (below_step (kw HB.out) hb)
         (try clear hb)
         (try clear hb2)
         (try clear hk)
         (try clear hi)
         (try clear ho0)
         obtain ⟨Ao40, co40, eo40⟩ := Kd.V_slice HO667.out
         (first | subst eo40 | (injection eo40 with f1_ f2_ f3_; have f4_ := f1_.symm; have f5_ := f3_.symm; clear f1_ f2_ f3_; subst f4_; subst f5_))
         refine hK.out _ _ ⟨(blk_cell BK660.out 0).trans rfl, (blk_cell BK660.out 1).trans rfl⟩ (fun hHeld => ?_)
         clear hK K
         refine norm_ (a' := ?_) ?_ ?_
         rotate_left
         ·show Act.put _ (some 69) _ = _
          simp only [Act.put, List.setIfInBounds_toArray, List.set_cons_zero, List.set_cons_succ, i64_w, i32_w]
          rfl
         refine one_ (i := 4) (N := some 70) #[true, true, true, true, true, false, false, false, false, false] rfl rfl (one_of HT_.out (by kernel_rfl)) (by decide) (fun K hK => ?_)
         refine goes_ Try.func15 (by kernel_rfl) rfl #[.agg #[.slice Ao40 t665.length co40, .bool t668]] (by rfl) rfl rfl (by (try simp only [List.map_toArray, List.map_cons, List.map_nil]); first | done | rfl | (simp only [List.length_drop, List.length_take]; rfl)) ?_
         with_reducible refine (trivetref01_To.calls kj16 _ _ t665 t668 t669 true _ ?side1 ?side2 A24.out).mono ?_
         (case side1 => repeat (first | exact (Kd.V_reads' HO667.out).2.2 | (with_reducible refine Kd.C_alloc ?_ _) | (with_reducible refine Kd.C_drewN ?_ _) | (with_reducible refine Kd.C_drew ?_)))
         (case side2 => exact (Kd.V_reads' HO667.out).2.1)
         rintro e w41 ⟨rfl, hb⟩
         refine ⟨_, rfl, ?_⟩
         replace HO650 := kvb HO650 hb
         replace HO654 := kvb HO654 hb
         replace HO658 := kvb HO658 hb
         replace HO663 := kvb HO663 hb
         replace HO667 := kvb HO667 hb
         replace BK660 := kbb BK660 hb
         replace HB := ka (below_step (kw HB.out) hb)
         (try clear hb)
         (try clear hb2)
         (try clear hk)
         (try clear hi)
         refine hK.out _ _ ⟨(blk_cell BK660.out 0).trans rfl, (blk_cell BK660.out 1).trans rfl⟩ (fun hHeld => ?_)
         clear hK K
         refine norm_ (a' := ?_) ?_ ?_
         rotate_left
         ·show Act.put _ (some 70) _ = _
          simp only [Act.put, List.setIfInBounds_toArray, List.set_cons_zero, List.set_cons_succ, i64_w, i32_w]
          rfl
         refine pure_ (i := 5) (N := some 65) (v := ?_) (a' := ?_) #[true, true, true, true, true, true, false, false, false, false] rfl rfl (any_of HT_.out (by kernel_rfl)) (fun _ _ _ h => h) (Or.inl ⟨by rfl, ?_⟩) ?_ ?_
         rotate_left
         ·intro w'
          go_simp
          with_reducible rfl
         rotate_left
         ·simp only [Act.put, List.setIfInBounds_toArray, List.set_cons_zero, List.set_cons_succ, i64_w, i32_w]
          rfl
         refine pure_ (i := 6) (N := some 71) (v := ?_) (a' := ?_) #[true, true, true, true, true, true, true, false, false, false] rfl rfl (any_of HT_.out (by kernel_rfl)) (fun _ _ _ h => h) (Or.inl ⟨by rfl, ?_⟩) ?_ ?_
         rotate_left
         ·intro w'
          go_simp
          with_reducible rfl
         rotate_left
         ·simp only [Act.put, List.setIfInBounds_toArray, List.set_cons_zero, List.set_cons_succ, i64_w, i32_w]
          rfl
         refine pure_ (i := 7) (N := some 72) (v := ?_) (a' := ?_) #[true, true, true, true, true, true, true, true, false, false] rfl rfl (any_of HT_.out (by kernel_rfl)) (fun _ _ _ h => h) (Or.inl ⟨by rfl, ?_⟩) ?_ ?_
         rotate_left
         ·intro w'
          go_simp
          with_reducible rfl
         rotate_left
         ·simp only [Act.put, List.setIfInBounds_toArray, List.set_cons_zero, List.set_cons_succ, i64_w, i32_w]
          rfl
         refine pure_ (i := 8) (N := some 14) (v := ?_) (a' := ?_) #[true, true, true, true, true, true, true, true, true, false] rfl rfl (any_of HT_.out (by kernel_rfl)) (fun _ _ _ h => h) (Or.inl ⟨by rfl, ?_⟩) ?_ ?_
         rotate_left
         ·intro w'
          go_simp
          with_reducible rfl
         rotate_left
         ·simp only [Act.put, List.setIfInBounds_toArray, List.set_cons_zero, List.set_cons_succ, i64_w, i32_w]
          rfl
         refine pure_ (i := 9) (N := some 15) (v := ?_) (a' := ?_) #[true, true, true, true, true, true, true, true, true, true] rfl rfl (any_of HT_.out (by kernel_rfl)) (fun _ _ _ h => h) (Or.inl ⟨by rfl, ?_⟩) ?_ ?_
         rotate_left
         ·intro w'
          go_simp
          with_reducible rfl
         rotate_left
         ·simp only [Act.put, List.setIfInBounds_toArray, List.set_cons_zero, List.set_cons_succ, i64_w, i32_w]
          rfl
         refine done_ (done_of HT_.out (by kernel_rfl)) ?_
         try go_wp2
         go_ret
         exact ⟨by first | rfl | (simp [errW_none, errW_some] <;> rfl) | (simp [*, errW_none, errW_some] <;> rfl), by repeat (first | (with_reducible first | exact HB.out | apply kc1 | apply kc2 | apply kc3 | refine kc4 ?_ GE660.out) | exact HB.out)⟩
        ·have H1 : (none) = some r := by rw [if_neg (show ¬ (some q671).isNone = true by simp)] at H; exact H
         clear H
         have H := H1
         clear H1
         try simp only [errW_none, errW_some]
         exact absurd H (by simp)
       ·replace c26 := Bool.eq_false_iff.mpr c26
        subst c26
        have H1 : (none) = some r := by rw [if_neg (show ¬ (false = true) by decide)] at H; exact H
        clear H
        have H := H1
        clear H1
        exact absurd H (by simp)
      ·replace c25 := Bool.eq_false_iff.mpr c25
       subst c25
       have H1 : (none) = some r := by rw [if_neg (show ¬ (false = true) by decide)] at H; exact H
       clear H
       have H := H1
       clear H1
       exact absurd H (by simp)

/-- THE ONE PURE STATEMENT of trivetlaw05_CountAccrues: yours. -/
def trivetlaw05_CountAccrues.Pure : Prop := ∀ (a0 : Int) (a1 : Int) (a2 : Int) (a3 : Bool), (Lit.int .i64 a0).wf = true → (Lit.int .i64 a1).wf = true → (Lit.int .i64 a2).wf = true → ∃ k, trivetlaw05_CountAccrues.f k a0 a1 a2 a3 = some true
theorem trivetlaw05_CountAccrues.walk (P : trivetlaw05_CountAccrues.Pure) (a0 : Int) (a1 : Int) (a2 : Int) (a3 : Bool) (w : World) (w0 : (Lit.int .i64 a0).wf = true) (w1 : (Lit.int .i64 a1).wf = true) (w2 : (Lit.int .i64 a2).wf = true) :
  Calls Try.prog 4 #[.int .i64 a0, .int .i64 a1, .int .i64 a2, .bool a3] w fun e w' => e = .returned (.bool true) ∧ Below w.heap.size w w' := by
 obtain ⟨k, h⟩ := P a0 a1 a2 a3 w0 w1 w2
 refine (trivetlaw05_CountAccrues.calls k a0 a1 a2 a3 true w h).mono ?_
 rintro e w' ⟨rfl, hd⟩
 exact ⟨rfl, hd⟩

end Go.Proofs.Ytonjhfneeejdaaa.P
