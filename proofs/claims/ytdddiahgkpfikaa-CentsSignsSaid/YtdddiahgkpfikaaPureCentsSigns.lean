/- The Go law CentsSigns answers true at all numbers: with both signs of product and divisor turned the rounded quotient, or the error, is the same. Conditions: none beyond the given statement's own. -/
import Derived.Test.YtdddiahgkpfikaaPx8
namespace Go.Proofs.Ytdddiahgkpfikaa.Pure
open Go.RowKit Go.Proofs.Ytdddiahgkpfikaa.P Go.Proofs.YtdddiahgkpfikaaW.PrintWords Go.Proofs.YtdddiahgkpfikaaW.PrintLast
set_option linter.unusedVariables false
set_option linter.unusedSimpArgs false
theorem quo_signs (n c m : Int) (hc : c ≠ 0) : M.quo (-n) (-c) m = M.quo n c m := by
  unfold M.quo
  rcases Int.lt_trichotomy c 0 with h | h | h
  · simp only [if_pos h, if_neg (show ¬ -c < 0 by omega)]
  · exact absurd h hc
  · simp only [if_neg (show ¬ c < 0 by omega), if_pos (show -c < 0 by omega), Int.neg_neg]
theorem CentsSigns : trivetlaw01_CentsSigns.Pure := by
  intro a b c m ha hb hc hm
  have ha := M.in_of_wf ha
  have hb := M.in_of_wf hb
  have hc := M.in_of_wf hc
  refine ⟨1, ?_⟩
  unfold trivetlaw01_CentsSigns.f trivetlaw01_up_s.f
  simp only [Option.bind_some]
  by_cases h1 : b = -9223372036854775808
  · rw [if_pos h1]; simp [trivetlaw01_CentsSigns.j0]
  rw [if_neg h1]
  by_cases h2 : c = -9223372036854775808
  · simp [trivetlaw01_CentsSigns.j0, h2]
  have h2' : (c == -9223372036854775808) = false := by simpa using h2
  rw [h2']
  simp only [trivetlaw01_CentsSigns.j0]
  rw [if_neg (by decide)]
  have wb : wrap64 (-b) = -b := by unfold M.In at hb; unfold wrap64; omega
  have wc : wrap64 (-c) = -c := by unfold M.In at hc; unfold wrap64; omega
  have hb' : M.In (-b) := by unfold M.In at *; omega
  have hc' : M.In (-c) := by unfold M.In at *; omega
  have e : cents_MulDiv_s.f a (-b) (-c) m = cents_MulDiv_s.f a b c m := by
    rw [cents_MulDiv_s.at_ ha hb' hc', cents_MulDiv_s.at_ ha hb hc]
    by_cases h0 : c = 0
    · rw [if_pos (.inl (by omega)), if_pos (.inl h0)]
    · rw [Int.mul_neg, quo_signs _ _ _ h0]
      have : (-c = 0) = (c = 0) := by apply propext; omega
      simp only [this]
  rw [wb, wc, e, cents_MulDiv_s.at_ ha hb hc]
  generalize (if c = 0 ∨ m < 1 ∨ m > 4 then ((0 : Int), some 1) else M.told (M.quo (a * b) c m)) = r
  obtain ⟨v, e⟩ := r
  cases e <;> simp

end Go.Proofs.Ytdddiahgkpfikaa.Pure
