/- The Go law CalendarMonths answers true at all items and days: what is to be paid in the twelve months from any day on is what the document's answer tells, month by month; or something is amiss. Conditions: none beyond the given statement's own. -/
import Derived.Test.YtmkfbaoglmmhjaaPx7
namespace Go.Proofs.Ytmkfbaoglmmhjaa.Pure
open Go.RowKit Go.Proofs.Ytmkfbaoglmmhjaa.P Go.Proofs.YtmkfbaoglmmhjaaW.PrintWords Go.Proofs.YtmkfbaoglmmhjaaW.PrintLast
set_option linter.unusedVariables false
set_option linter.unusedSimpArgs false
theorem CalendarMonths : trivetlaw14_CalendarMonths.Pure := by
  intro l a _ _ _ ha
  have ha := M.in_of_wf ha
  obtain ⟨K, hK⟩ : ∃ K, K = 1000 := ⟨_, rfl⟩
  refine ⟨K + 2, ?_⟩
  unfold trivetlaw14_CalendarMonths.f
  rw [trivetlaw14_up.num (K + 2) (by omega), Option.bind_some]
  by_cases h0 : (l.length : Int) > 100
  · rw [if_pos h0]
  rw [if_neg h0, calendar_Months.num (K + 2) l a ha (by omega), Option.bind_some]
  have hno : trivetlaw14_CalendarMonths.j1 (K + 1) l a true [] (some 1) true = some true := by
    simp only [trivetlaw14_CalendarMonths.j1]
    rfl
  unfold trivetref04_Of_s.f
  rw [if_pos ha, Option.bind_some, trivetref14_May.num (K + 2) l (by omega), Option.bind_some]
  by_cases h1 : -25567 ≤ a ∧ a ≤ 84005
  · have hdate := (M.dateOf h1.1 h1.2).1
    have hin := M.date_in hdate
    have hmon : trivetref04_Months_s.f (M.yr a) (M.mo a) (M.dy a) 12 = _ := if_pos ⟨hin.1, hin.2.1, hin.2.2.1, hin.2.2.2.1, hin.2.2.2.2.1, hin.2.2.2.2.2.1⟩
    rw [if_pos h1]
    simp only [if_true]
    rw [hmon, Option.bind_some]
    by_cases h4 : M.inYears (M.mt (M.yr a) (M.mo a) + 12)
    · rw [if_pos (show -3600 ≤ (12 : Int) ∧ (12 : Int) ≤ 3600 ∧ M.inYears (M.mt (M.yr a) (M.mo a) + 12) from ⟨by decide, by decide, h4⟩)]
      by_cases h3 : calendar_Check.may l
      · rw [decide_eq_true h3]
        simp only [trivetlaw14_CalendarMonths.j0, if_true]
        by_cases h2 : M.dy a = 1
        · have hask : Cal.ask l a := ⟨h1, h2, h3, h4⟩
          rw [show (M.dy a != 1) = false by simp [h2], if_pos hask]
          simp only [trivetlaw14_CalendarMonths.j1]
          rw [if_neg (by decide), if_pos trivial, if_pos (by rfl), trivetref14_Months.num K l a h1 h3 (by omega), Option.bind_some, trivetlaw14_Same.any K _ (by simp [Cal.mon]) (by simp [Cal.mon]; omega), Option.bind_some]
        · rw [show (M.dy a != 1) = true by simp [h2], if_neg (show ¬ Cal.ask l a from fun h => h2 h.2.1)]
          exact hno
      · rw [decide_eq_false h3, if_neg (show ¬ Cal.ask l a from fun h => h3 h.2.2.1)]
        simp only [trivetlaw14_CalendarMonths.j0]
        exact hno
    · rw [if_neg (show ¬ (-3600 ≤ (12 : Int) ∧ (12 : Int) ≤ 3600 ∧ M.inYears (M.mt (M.yr a) (M.mo a) + 12)) from fun h => h4 h.2.2), if_neg (show ¬ Cal.ask l a from fun h => h4 h.2.2.2)]
      cases decide (calendar_Check.may l) <;> exact hno
  · rw [if_neg h1, if_neg (show ¬ Cal.ask l a from fun h => h1 h.1)]
    cases decide (calendar_Check.may l) <;> exact hno

end Go.Proofs.Ytmkfbaoglmmhjaa.Pure
