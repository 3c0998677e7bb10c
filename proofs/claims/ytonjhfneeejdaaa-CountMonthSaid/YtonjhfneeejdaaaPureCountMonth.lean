/- The Go law CountMonth answers true at all numbers: 30 days by months are the month's interest of layer 2; of no days it is nothing; of more days it is no less. Conditions: none beyond the given statement's own. -/
import Derived.Test.YtonjhfneeejdaaaPx12
namespace Go.Proofs.Ytonjhfneeejdaaa.Pure
open Go.RowKit Go.Proofs.Ytonjhfneeejdaaa.P Go.Proofs.YtonjhfneeejdaaaW.PrintWords Go.Proofs.YtonjhfneeejdaaaW.PrintLast
set_option linter.unusedVariables false
set_option linter.unusedSimpArgs false
theorem CountMonth : trivetlaw05_CountMonth.Pure := by
  intro b r d e mo _ _ _ _
  refine ⟨1, ?_⟩
  have key : trivetlaw05_CountMonth.j0 1 b r d e mo true false = some true := by
    simp only [trivetlaw05_CountMonth.j0]
    rw [if_neg (by decide)]
    by_cases h1 : M.accrOk b r d
    · rw [count_Accrue_s.yes h1, Option.bind_some]
      by_cases h2 : M.accrOk b r e
      · have h3 : M.accrOk b r 0 := ⟨h1.1, by decide, by decide⟩
        rw [count_Accrue_s.yes h2, count_Accrue_s.yes h3, M.accr_zero]
        simp only [Option.bind_some, Option.isNone_none, if_true]
        by_cases h4 : d > e
        · rw [if_pos h4]
        · rw [if_neg h4, decide_eq_true (M.accr_mono mo h1 (by omega))]
      · rw [count_Accrue_s.no h2]
        cases hz : count_Accrue_s.f b r 0 mo with
        | none => unfold count_Accrue_s.f at hz; cases hz
        | some v => simp
    · rw [count_Accrue_s.no h1]
      cases hz : count_Accrue_s.f b r 0 mo with
      | none => unfold count_Accrue_s.f at hz; cases hz
      | some v =>
        cases hy : count_Accrue_s.f b r e mo with
        | none => unfold count_Accrue_s.f at hy; cases hy
        | some u => simp
  unfold trivetlaw05_CountMonth.f trivetlaw05_up_s.f
  simp only [Option.bind_some]
  by_cases h : M.may b r
  · rw [rate_Month_s.yes h, count_Accrue_s.yes (d := 30) ⟨h, by decide, by decide⟩, M.accr_month]
    simpa using key
  · rw [rate_Month_s.no h, count_Accrue_s.no (fun hh => h hh.1)]
    simpa using key

end Go.Proofs.Ytonjhfneeejdaaa.Pure
