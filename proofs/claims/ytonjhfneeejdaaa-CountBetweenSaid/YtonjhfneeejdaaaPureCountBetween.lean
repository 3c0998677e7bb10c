/- The Go law CountBetween answers true at all dates and numbers that are none: how many days lie between two dates, by months and by days, or that one is none. Conditions: none beyond the given statement's own. -/
import Derived.Test.YtonjhfneeejdaaaPx6
namespace Go.Proofs.Ytonjhfneeejdaaa.Pure
open Go.RowKit Go.Proofs.Ytonjhfneeejdaaa.P Go.Proofs.YtonjhfneeejdaaaW.PrintWords Go.Proofs.YtonjhfneeejdaaaW.PrintLast
set_option linter.unusedVariables false
set_option linter.unusedSimpArgs false
theorem thirty_is (y m d : Int) (h : M.date y m d) : trivetlaw05_thirty.f y m d = some (360 * y + 30 * m + M.cut d 30) := by
  have a := M.date_in h
  unfold trivetlaw05_thirty.f
  by_cases h1 : d = 31
  · rw [if_pos h1, M.w64_id (n := 360 * y) (by omega) (by omega), M.w64_id (n := 30 * m) (by omega) (by omega), M.w64_id (n := 360 * y + 30 * m) (by omega) (by omega), M.w64_id (by omega) (by omega)]
    unfold M.cut
    rw [if_neg (by omega)]
  · rw [if_neg h1, M.w64_id (n := 360 * y) (by omega) (by omega), M.w64_id (n := 30 * m) (by omega) (by omega), M.w64_id (n := 360 * y + 30 * m) (by omega) (by omega), M.w64_id (by omega) (by omega)]
    unfold M.cut
    rw [if_pos (by omega)]
theorem CountBetween : trivetlaw05_CountBetween.Pure := by
  intro y m d y' m' d' _ _ _ _ _ _
  refine ⟨1, ?_⟩
  unfold trivetlaw05_CountBetween.f trivetlaw05_up_s.f trivetref04_May_s.f
  simp only [Option.bind_some]
  by_cases h : M.date y m d
  · by_cases h' : M.date y' m' d'
    · rw [count_Between_s.yes h h', count_Between_s.yes h h']
      have c := M.civ_bd h
      have c' := M.civ_bd h'
      have a := M.date_in h
      have a' := M.date_in h'
      have k1 : M.cut d 30 ≤ 31 ∧ 0 ≤ M.cut d 30 := by unfold M.cut; split <;> omega
      have k2 : M.cut d' 30 ≤ 31 ∧ 0 ≤ M.cut d' 30 := by unfold M.cut; split <;> omega
      simp only [Option.bind_some, h, h', decide_true, if_true, Bool.not_true]
      simp only [trivetlaw05_CountBetween.j0]
      rw [trivetref04_Number_s.yes h, trivetref04_Number_s.yes h', thirty_is _ _ _ h, thirty_is _ _ _ h']
      simp only [Option.bind_some, Option.isNone_none, if_true, Bool.false_eq_true, if_false]
      rw [M.w64_id (n := M.civ y' m' d' - M.civ y m d) (by omega) (by omega), if_pos rfl, M.w64_id (by omega) (by omega)]
      simp
      omega
    · rw [count_Between_s.no (fun hh => h' hh.2), count_Between_s.no (fun hh => h' hh.2)]
      simp [h, h', trivetlaw05_CountBetween.j0]
  · rw [count_Between_s.no (fun hh => h hh.1), count_Between_s.no (fun hh => h hh.1)]
    simp [h, trivetlaw05_CountBetween.j0]

end Go.Proofs.Ytonjhfneeejdaaa.Pure
