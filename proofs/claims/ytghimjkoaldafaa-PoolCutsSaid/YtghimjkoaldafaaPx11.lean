-- Written by a program of this session out of the translation of the seat: Lean functions and the proofs that the Go functions come to them.
import Derived.Test.YtghimjkoaldafaaPx0
import Derived.Test.YtghimjkoaldafaaPx9
import Derived.Test.YtghimjkoaldafaaPx10
namespace Go.Proofs.Ytghimjkoaldafaa.P
open Go.RowKit Go.Proofs.YtghimjkoaldafaaW.PrintWords Go.Proofs.YtghimjkoaldafaaW.PrintLast Go.Proofs.YtghimjkoaldafaaW.PrintMore
attribute [local go_sem] max2_int min2_int max_two min_two max_three min_three max_four min_four   -- for this text's walks alone
set_option linter.unusedVariables false
set_option linter.unusedSimpArgs false
theorem trivetref01_Cmp.num (k : Nat) (x y : Int) (hx : M.abs x < 65536 ^ 32) (hy : M.abs y < 65536 ^ 32) (hk : 300 ≤ k) : trivetref01_Cmp.f k (U.num x).1 (U.num x).2 (U.num y).1 (U.num y).2 = some (if x = y then 0 else if x < y then -1 else 1) := by
 have e1 : (65536 : Int) ^ 32 * 2 < 65536 ^ 64 := by decide
 have x0 := U.abs_nonneg x
 have y0 := U.abs_nonneg y
 have hn : M.abs (-y) < 65536 ^ 64 := by unfold M.abs at *; split <;> split at hy <;> omega
 have hs : M.abs (x - y) < 65536 ^ 64 := by unfold M.abs at *; split <;> split at hx <;> split at hy <;> omega
 unfold trivetref01_Cmp.f
 rw [trivetref01_Neg.num k y (by omega) hk, Option.bind_some, trivetref01_Add.num k x (-y) (by omega) hn hk, Option.bind_some, show x + -y = x - y by omega]
 have hd := U.dig_nil_iff (U.abs_nonneg (x - y))
 by_cases c : x = y
 ·subst c
  rw [if_pos rfl]
  simp [U.num, M.abs, U.dig_zero]
 ·have hne : U.dig (M.abs (x - y)) ≠ [] := by
   intro h
   have := hd.mp h
   unfold M.abs at this
   split at this <;> omega
  have hlen : ¬ ((U.num (x - y)).1.length : Int) = 0 := by
   simp only [U.num]
   intro h
   exact hne (List.length_eq_zero_iff.mp (by omega))
  rw [if_neg hlen, if_neg c]
  by_cases c2 : x < y
  ·rw [if_pos (show (U.num (x - y)).2 = true from decide_eq_true (by omega)), if_pos c2]
  ·rw [if_neg (show ¬ (U.num (x - y)).2 = true by simp [U.num]; omega), if_neg c2]
end Go.Proofs.Ytghimjkoaldafaa.P
