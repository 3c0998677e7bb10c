/- The Go law RateMonths answers true at all numbers: a month's interest and the next balance are what the document defines, or the error that it names. Conditions: none beyond the given statement's own. -/
import Derived.Test.YtfkokgnfciifgaaPx5
namespace Go.Proofs.Ytfkokgnfciifgaa.Pure
open Go.RowKit Go.Proofs.Ytfkokgnfciifgaa.P Go.Proofs.YtfkokgnfciifgaaW.PrintWords Go.Proofs.YtfkokgnfciifgaaW.PrintLast
set_option linter.unusedVariables false
set_option linter.unusedSimpArgs false
theorem RateMonths : trivetlaw02_RateMonths.Pure := by
  intro b r p hb hr hp
  refine ⟨1, ?_⟩
  unfold trivetlaw02_RateMonths.f trivetlaw02_up_s.f rate_Month_s.f rate_Next_s.f trivetref02_May_s.f
  simp only [Option.bind_some]
  by_cases h : M.may b r
  · have hm : trivetref02_Month_s.f b r = some (M.month b r) := by unfold trivetref02_Month_s.f; rw [if_pos h]
    simp only [h, decide_true, if_true, true_and, Option.isNone_none, hm, Option.bind_some, bne_self_eq_false]
    simp only [trivetlaw02_RateMonths.j0]
    rw [if_neg (by decide)]
    by_cases hp : p < 0
    · simp [hp, show ¬ 0 ≤ p by omega]
    · have hn : trivetref02_Next_s.f b r p = some (if M.next b r p > 10000000000000 then (0, false) else (M.next b r p, true)) := by unfold trivetref02_Next_s.f; rw [if_pos ⟨h, by omega⟩]
      rw [if_neg hp, hn, Option.bind_some]
      simp only [show 0 ≤ p by omega, if_true]
      by_cases ho : M.next b r p > 10000000000000
      · simp [ho]
      · simp [ho]
  · simp [h]

end Go.Proofs.Ytfkokgnfciifgaa.Pure
