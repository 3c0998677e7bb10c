/- The Go law CentsWhole answers true at all numbers: a times b by b is a, however it is rounded; where b is 0, or the way of rounding is none, it is an error. Conditions: none beyond the given statement's own. -/
import Derived.Test.YtdddiahgkpfikaaPx8
namespace Go.Proofs.Ytdddiahgkpfikaa.Pure
open Go.RowKit Go.Proofs.Ytdddiahgkpfikaa.P Go.Proofs.YtdddiahgkpfikaaW.PrintWords Go.Proofs.YtdddiahgkpfikaaW.PrintLast
set_option linter.unusedVariables false
set_option linter.unusedSimpArgs false
theorem quo_whole (a b m : Int) (hb : b ≠ 0) : M.quo (a * b) b m = a := by
  unfold M.quo
  by_cases h : b < 0
  · simp only [if_pos h]
    have : -(a * b) = a * -b := by rw [Int.mul_neg]
    rw [this, Int.mul_emod_left, if_pos (.inl rfl)]
    exact Int.mul_ediv_cancel a (by omega)
  · simp only [if_neg h]
    rw [Int.mul_emod_left, if_pos (.inl rfl)]
    exact Int.mul_ediv_cancel a (by omega)
theorem CentsWhole : trivetlaw01_CentsWhole.Pure := by
  intro a b m ha hb hm
  have ha := M.in_of_wf ha
  have hb := M.in_of_wf hb
  unfold trivetlaw01_CentsWhole.f trivetlaw01_up_s.f
  rw [cents_MulDiv_s.at_ ha hb hb]
  simp only [Option.bind_some]
  by_cases h0 : b = 0
  · simp [h0]
  · rw [quo_whole a b m h0, M.told_in ha]
    by_cases h1 : m < 1
    · simp [h0, h1]
    · by_cases h4 : m > 4 <;> simp [h0, h1, h4]

end Go.Proofs.Ytdddiahgkpfikaa.Pure
