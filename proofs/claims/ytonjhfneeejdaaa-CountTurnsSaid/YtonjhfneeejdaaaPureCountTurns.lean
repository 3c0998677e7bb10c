/- The Go law CountTurns answers true at all dates and numbers that are none: from a to b and back is 0; what lies between goes together; by months the same day of the next month is 30 days behind, of days up to the 28th. Conditions: none beyond the given statement's own. -/
import Derived.Test.YtonjhfneeejdaaaPx13
namespace Go.Proofs.Ytonjhfneeejdaaa.Pure
open Go.RowKit Go.Proofs.Ytonjhfneeejdaaa.P Go.Proofs.YtonjhfneeejdaaaW.PrintWords Go.Proofs.YtonjhfneeejdaaaW.PrintLast
set_option linter.unusedVariables false
set_option linter.unusedSimpArgs false
theorem turns_rest (y m d : Int) (h : M.date y m d) : trivetlaw05_CountTurns.j1 1 true false y m d = some true := by
  have a := M.date_in h
  simp only [trivetlaw05_CountTurns.j1]
  rw [if_neg (by decide)]
  by_cases hn : -3600 ≤ (1 : Int) ∧ (1 : Int) ≤ 3600 ∧ M.inYears (M.mt y m + 1)
  · rw [date_Months_s.yes h hn, Option.bind_some]
    simp only [Option.isNone_none, if_true]
    by_cases h28 : d > 28
    · rw [if_pos h28]
    · rw [if_neg h28]
      have hl := M.len_pos hn.2.2
      have hcut : M.cut d (M.len (M.mt y m + 1)) = d := by unfold M.cut; rw [if_pos (by omega)]
      rw [hcut]
      have hd : M.date ((M.mt y m + 1) / 12) ((M.mt y m + 1) % 12 + 1) d := by
        unfold M.len at hl
        exact ⟨by omega, by omega⟩
      rw [count_Between_s.yes h hd, Option.bind_some]
      simp only [if_true, Option.isNone_none]
      unfold M.mt
      simp
      omega
  · rw [date_Months_s.out h hn]
    rfl
theorem CountTurns : trivetlaw05_CountTurns.Pure := by
  intro y m d y' m' d' y2 m2 d2 b _ _ _ _ _ _ _ _ _
  refine ⟨2, ?_⟩
  unfold trivetlaw05_CountTurns.f trivetlaw05_up_s.f
  simp only [Option.bind_some]
  by_cases h : M.date y m d
  · by_cases h' : M.date y' m' d'
    · by_cases h2 : M.date y2 m2 d2
      · rw [count_Between_s.yes h h', count_Between_s.yes h' h2, count_Between_s.yes h h2, count_Between_s.yes h' h]
        have c := M.civ_bd h
        have c' := M.civ_bd h'
        have c2 := M.civ_bd h2
        have a := M.date_in h
        have a' := M.date_in h'
        have a2 := M.date_in h2
        have k1 : M.cut d 30 ≤ 31 ∧ 0 ≤ M.cut d 30 := by unfold M.cut; split <;> omega
        have k2 : M.cut d' 30 ≤ 31 ∧ 0 ≤ M.cut d' 30 := by unfold M.cut; split <;> omega
        have k3 : M.cut d2 30 ≤ 31 ∧ 0 ≤ M.cut d2 30 := by unfold M.cut; split <;> omega
        simp only [Option.bind_some, Option.isNone_none, if_true]
        simp only [trivetlaw05_CountTurns.j0]
        rw [if_neg (by decide)]
        cases b
        · simp only [Bool.false_eq_true, if_false]
          rw [M.w64_id (by omega) (by omega), if_pos (by omega), M.w64_id (by omega) (by omega), show M.civ y' m' d' - M.civ y m d + (M.civ y m d - M.civ y' m' d') = 0 by omega]
          exact turns_rest y m d h
        · simp only [if_true]
          rw [M.w64_id (by omega) (by omega), if_pos (by omega), M.w64_id (by omega) (by omega), show 360 * (y' - y) + 30 * (m' - m) + (M.cut d' 30 - M.cut d 30) + (360 * (y - y') + 30 * (m - m') + (M.cut d 30 - M.cut d' 30)) = 0 by omega]
          exact turns_rest y m d h
      · rw [count_Between_s.yes h h', count_Between_s.no (fun hh => h2 hh.2), count_Between_s.no (fun hh => h2 hh.2), count_Between_s.yes h' h]
        simp [trivetlaw05_CountTurns.j0]
    · rw [count_Between_s.no (fun hh => h' hh.2), count_Between_s.no (fun hh => h' hh.1), count_Between_s.no (b := b) (y := y') (fun hh => h' hh.1)]
      cases hz : count_Between_s.f y m d y2 m2 d2 b with
      | none => unfold count_Between_s.f at hz; cases hz
      | some v => simp [trivetlaw05_CountTurns.j0]
  · rw [count_Between_s.no (fun hh => h hh.1), count_Between_s.no (y := y) (fun hh => h hh.1), count_Between_s.no (y := y') (fun hh => h hh.2)]
    cases e : count_Between_s.f y' m' d' y2 m2 d2 b with
    | none => unfold count_Between_s.f at e; cases e
    | some v => simp [trivetlaw05_CountTurns.j0]

end Go.Proofs.Ytonjhfneeejdaaa.Pure
