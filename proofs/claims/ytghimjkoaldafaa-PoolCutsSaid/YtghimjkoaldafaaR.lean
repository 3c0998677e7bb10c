-- Written by a program of this session out of the translation of the seat: Lean functions and the proofs that the Go functions come to them.
import Derived.Test.YtghimjkoaldafaaM
/-! Interest of months, and level payments: plain arithmetic. -/
namespace Go.Proofs.Ytghimjkoaldafaa.P.M
open Go Go.RowKit Go.Proofs.YtghimjkoaldafaaW.PrintWords Go.Proofs.YtghimjkoaldafaaW.PrintLast Go.Proofs.YtghimjkoaldafaaW.PrintMore
set_option linter.unusedVariables false
set_option linter.unusedSimpArgs false
def may (b r : Int) : Prop := 0 ≤ b ∧ b ≤ 10000000000000 ∧ 0 ≤ r ∧ r ≤ 300000
instance (b r : Int) : Decidable (may b r) := inferInstanceAs (Decidable (_ ∧ _))
/-- a month's interest -/
def month (b r : Int) : Int := quo (b * r) 12000000 4
theorem quo4 (n c : Int) (hc : 0 < c) : quo n c 4 = n / c + (if 2 * (n % c) > c ∨ 2 * (n % c) = c ∧ (n / c) % 2 = 1 then 1 else 0) := by
  have r0 := Int.emod_nonneg n (show c ≠ 0 by omega)
  unfold quo
  simp only [if_neg (show ¬ c < 0 by omega)]
  generalize n % c = r at *
  generalize n / c = q at *
  by_cases hr : r = 0
  · rw [if_pos (.inl hr), if_neg (by omega)]; omega
  · rw [if_neg (show ¬ (r = 0 ∨ (4 : Int) = 1) by omega), if_neg (show ¬ (4 : Int) = 2 by decide)]
    by_cases h1 : 2 * r < c
    · rw [if_pos h1, if_neg (by omega)]; omega
    · rw [if_neg h1]
      by_cases h2 : 2 * r > c
      · rw [if_pos h2, if_pos (.inl h2)]
      · rw [if_neg h2]
        by_cases h3 : q % 2 = 0
        · rw [if_pos (.inl ⟨trivial, h3⟩), if_neg (by omega)]; omega
        · rw [if_neg (show ¬ (True ∧ q % 2 = 0 ∨ (4 : Int) = 3 ∧ n < 0) by omega), if_pos (by omega)]
theorem quo4_nonneg {n c : Int} (hc : 0 < c) (h : 0 ≤ n) : 0 ≤ quo n c 4 := by
  rw [quo4 n c hc]
  have := Int.ediv_nonneg h (show 0 ≤ c by omega)
  split <;> omega
theorem prod_bd {b r : Int} (h : may b r) : 0 ≤ b * r ∧ b * r ≤ b * 300000 ∧ b * r ≤ 3000000000000000000 := by
  obtain ⟨h0, h1, h2, h3⟩ := h
  have a := Int.mul_nonneg h0 h2
  have b' := Int.mul_le_mul_of_nonneg_left h3 h0
  omega
theorem month_nonneg {b r : Int} (h : may b r) : 0 ≤ month b r := quo4_nonneg (by decide) (prod_bd h).1
theorem month_le {b r : Int} (h : may b r) : month b r ≤ b := by
  have hp := prod_bd h
  unfold month
  rw [quo4 _ _ (by decide)]
  have := h.1
  split <;> omega
/-- the next balance -/
def next (b r p : Int) : Int := if p < b + month b r then b + month b r - p else 0
/-- what is left behind so many months; none: a balance is too great -/
def left : Nat → Int → Int → Int → Option Int
  | 0, b, _, _ => some b
  | n + 1, b, r, p => if next b r p > 10000000000000 then none else left n (next b r p) r p
/-- how a month's interest is shared: net, fee, guaranty -/
def stripOk (b r f g : Int) : Prop := may b r ∧ 0 ≤ f ∧ 0 ≤ g ∧ f + g ≤ r
instance (b r f g : Int) : Decidable (stripOk b r f g) := inferInstanceAs (Decidable (_ ∧ _))
def least (a b : Int) : Int := if a ≤ b then a else b
def fee (b r f : Int) : Int := least (month b f) (month b r)
def guar (b r f g : Int) : Int := least (month b g) (month b r - fee b r f)
def net (b r f g : Int) : Int := month b r - fee b r f - guar b r f g
theorem strip_bd {b r f g : Int} (h : stripOk b r f g) : 0 ≤ fee b r f ∧ 0 ≤ guar b r f g ∧ 0 ≤ net b r f g ∧ net b r f g + fee b r f + guar b r f g = month b r ∧ month b r ≤ b ∧ b ≤ 10000000000000 := by
  have h1 := month_nonneg (b := b) (r := f) ⟨h.1.1, h.1.2.1, h.2.1, by have := h.1.2.2.2; have := h.2.2.1; have := h.2.2.2; omega⟩
  have h2 := month_nonneg (b := b) (r := g) ⟨h.1.1, h.1.2.1, h.2.2.1, by have := h.1.2.2.2; have := h.2.1; have := h.2.2.2; omega⟩
  have h3 := month_nonneg h.1
  have h4 := month_le h.1
  have h5 := h.1.2.1
  have hf : 0 ≤ fee b r f ∧ fee b r f ≤ month b r := by unfold fee least; split <;> omega
  have hg : 0 ≤ guar b r f g ∧ guar b r f g ≤ month b r - fee b r f := by unfold guar least; split <;> omega
  unfold net
  omega
/-- how what was collected is shared -/
def cutOk (i f g a : Int) : Prop := 0 ≤ i ∧ i ≤ a ∧ 0 ≤ f ∧ 0 ≤ g ∧ f + g ≤ a ∧ a ≤ 10000000000000
instance (i f g a : Int) : Decidable (cutOk i f g a) := inferInstanceAs (Decidable (_ ∧ _))
theorem quo_down {n c : Int} (hc : 0 < c) : quo n c 1 = n / c := by
  unfold quo
  simp only [if_neg (show ¬ c < 0 by omega)]
  rw [if_pos (.inr trivial)]
/-- a share of what was collected: no more than of all, none below 0 -/
theorem cut_part {i f a : Int} (hi : 0 ≤ i) (ha : i ≤ a) (hf : 0 ≤ f) (h0 : 0 < a) : 0 ≤ f * i / a ∧ f * i / a ≤ f := by
  have h1 := Int.mul_nonneg hf hi
  have h2 := Int.mul_le_mul_of_nonneg_left ha hf
  refine ⟨Int.ediv_nonneg h1 (by omega), ?_⟩
  have := Int.ediv_le_ediv h0 h2
  rw [Int.mul_ediv_cancel f (by omega)] at this
  exact this
/-- the interest of days -/
def accrOk (b r d : Int) : Prop := may b r ∧ 0 ≤ d ∧ d ≤ 40000
instance (b r d : Int) : Decidable (accrOk b r d) := inferInstanceAs (Decidable (_ ∧ _))
end Go.Proofs.Ytghimjkoaldafaa.P.M
