/- The Go law RateHolds answers true at all numbers: who pays the interest alone owes what he owed; who pays all, nothing. Conditions: none beyond the given statement's own. -/
import Derived.Test.YtfkokgnfciifgaaPx7
namespace Go.Proofs.Ytfkokgnfciifgaa.Pure
open Go.RowKit Go.Proofs.Ytfkokgnfciifgaa.P Go.Proofs.YtfkokgnfciifgaaW.PrintWords Go.Proofs.YtfkokgnfciifgaaW.PrintLast
set_option linter.unusedVariables false
set_option linter.unusedSimpArgs false
theorem RateHolds : trivetlaw02_RateHolds.Pure := by
  intro b r m hb hr hm
  refine ⟨1, ?_⟩
  unfold trivetlaw02_RateHolds.f trivetlaw02_up_s.f rate_Month_s.f
  simp only [Option.bind_some]
  have out : ∀ i, trivetlaw02_RateHolds.j0 1 b r m true i true = some true := fun i => by simp [trivetlaw02_RateHolds.j0]
  by_cases h : M.may b r
  · simp only [h, if_true, Option.isNone_none]
    by_cases h1 : m < 0
    · rw [if_pos h1]; exact out _
    rw [if_neg h1]
    by_cases h2 : m > 10000000000000
    · rw [decide_eq_true h2]; exact out _
    rw [decide_eq_false h2]
    simp only [trivetlaw02_RateHolds.j0]
    have h0 := M.month_nonneg h
    have hl := M.month_le h
    have hb0 := h.1
    have hb1 := h.2.1
    rw [if_neg (by decide), M.w64_id (n := b + M.month b r) (by omega) (by omega), M.w64_id (n := b + M.month b r + m) (by omega) (by omega)]
    have e1 : M.next b r (M.month b r) = b := by unfold M.next; split <;> omega
    have e2 : M.next b r (b + M.month b r + m) = 0 := by unfold M.next; split <;> omega
    rw [rate_Next_s.yes ⟨h, h0⟩ (by omega), rate_Next_s.yes ⟨h, by omega⟩ (by omega), e1, e2]
    simp
  · simp only [h, if_false]
    exact out 0

end Go.Proofs.Ytfkokgnfciifgaa.Pure
