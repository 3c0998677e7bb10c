/- The Go law RateLeft answers true at all numbers: what is left behind any months is what the document defines, or the error that it names. Conditions: none beyond the given statement's own. -/
import Derived.Test.YtfkokgnfciifgaaPx5
namespace Go.Proofs.Ytfkokgnfciifgaa.Pure
open Go.RowKit Go.Proofs.Ytfkokgnfciifgaa.P Go.Proofs.YtfkokgnfciifgaaW.PrintWords Go.Proofs.YtfkokgnfciifgaaW.PrintLast
set_option linter.unusedVariables false
set_option linter.unusedSimpArgs false
theorem RateLeft : trivetlaw02_RateLeft.Pure := by
  intro b r p m hb hr hp hm
  refine ⟨1, ?_⟩
  unfold trivetlaw02_RateLeft.f trivetlaw02_up_s.f trivetref02_May_s.f
  simp only [Option.bind_some]
  have key : trivetlaw02_RateLeft.j0 1 b r p m true 0 (some 1) true = some true := by simp [trivetlaw02_RateLeft.j0]
  by_cases h1 : M.may b r
  · simp only [decide_eq_true h1, if_true]
    by_cases h2 : p < 0
    · rw [rate_Left_s.no (fun h => by omega), Option.bind_some, if_pos h2]; exact key
    · simp only [if_neg h2]
      by_cases h3 : m < 0
      · rw [rate_Left_s.no (fun h => by omega), Option.bind_some, if_pos h3]; exact key
      · simp only [if_neg h3]
        by_cases h4 : m > 480
        · rw [rate_Left_s.no (fun h => by omega), Option.bind_some, decide_eq_true h4]; exact key
        · rw [rate_Left_s.yes ⟨h1, by omega, by omega, by omega⟩, decide_eq_false h4]
          simp only [trivetlaw02_RateLeft.j0, Option.bind_some]
          rw [if_neg (by decide), trivetref02_Left_s.yes ⟨h1, by omega, by omega, by omega⟩, Option.bind_some]
          cases M.left m.toNat b r p <;> simp [M.tell3, M.tellB]
  · rw [rate_Left_s.no (fun h => h1 h.1), Option.bind_some, if_neg (by simpa using h1)]; exact key

end Go.Proofs.Ytfkokgnfciifgaa.Pure
