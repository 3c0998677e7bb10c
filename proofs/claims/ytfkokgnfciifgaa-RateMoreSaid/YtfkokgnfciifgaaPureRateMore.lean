/- The Go law RateMore answers true at all numbers: a month's interest of more is no less; with a greater payment no more is left. Conditions: none beyond the given statement's own. -/
import Derived.Test.YtfkokgnfciifgaaPx6
namespace Go.Proofs.Ytfkokgnfciifgaa.Pure
open Go.RowKit Go.Proofs.Ytfkokgnfciifgaa.P Go.Proofs.YtfkokgnfciifgaaW.PrintWords Go.Proofs.YtfkokgnfciifgaaW.PrintLast
set_option linter.unusedVariables false
set_option linter.unusedSimpArgs false
theorem RateMore : trivetlaw02_RateMore.Pure := by
  intro a b r p q m ha hb hr hp hq hm
  refine ⟨2, ?_⟩
  have key : trivetlaw02_RateMore.j0 2 a r p q m true false = some true := by
    simp only [trivetlaw02_RateMore.j0]
    rw [if_neg (by decide)]
    by_cases h1 : p < 0
    · rw [if_pos h1]; simp [trivetlaw02_RateMore.j1]
    rw [if_neg h1]
    by_cases h2 : q < p
    · rw [decide_eq_true h2]; simp [trivetlaw02_RateMore.j1]
    rw [decide_eq_false h2]
    simp only [trivetlaw02_RateMore.j1]
    rw [if_neg (by decide)]
    by_cases h : M.may a r ∧ 0 ≤ m ∧ m ≤ 480
    · rw [rate_Left_s.yes ⟨h.1, by omega, h.2⟩, rate_Left_s.yes ⟨h.1, by omega, h.2⟩]
      simp only [Option.bind_some]
      cases e : M.left m.toNat a r p with
      | none => simp [M.tell3]
      | some v =>
        obtain ⟨u, hu, hle⟩ := M.left_mono m.toNat (Int.le_refl a) h.1.2.2.1 (show p ≤ q by omega) e
        rw [hu]
        simp [M.tell3, hle]
    · rw [rate_Left_s.no (fun hh => h ⟨hh.1, hh.2.2⟩), rate_Left_s.no (fun hh => h ⟨hh.1, hh.2.2⟩)]
      simp
  unfold trivetlaw02_RateMore.f trivetlaw02_up_s.f rate_Month_s.f
  simp only [Option.bind_some]
  by_cases h1 : M.may a r
  · by_cases h2 : M.may b r
    · simp only [h1, h2, if_true, Option.isNone_none]
      by_cases h3 : a ≤ b
      · rw [if_pos h3, decide_eq_false (by have := M.month_mono h3 h1.2.2.1; omega)]
        exact key
      · rw [if_neg h3]; exact key
    · simpa [h1, h2] using key
  · simpa [h1] using key

end Go.Proofs.Ytfkokgnfciifgaa.Pure
