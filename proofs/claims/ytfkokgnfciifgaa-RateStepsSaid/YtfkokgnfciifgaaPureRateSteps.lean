/- The Go law RateSteps answers true at all numbers: months one behind the other are all of them at once. Conditions: none beyond the given statement's own. -/
import Derived.Test.YtfkokgnfciifgaaPx7
namespace Go.Proofs.Ytfkokgnfciifgaa.Pure
open Go.RowKit Go.Proofs.Ytfkokgnfciifgaa.P Go.Proofs.YtfkokgnfciifgaaW.PrintWords Go.Proofs.YtfkokgnfciifgaaW.PrintLast
set_option linter.unusedVariables false
set_option linter.unusedSimpArgs false
theorem RateSteps : trivetlaw02_RateSteps.Pure := by
  intro b r p x y hb hr hp hx hy
  have hx := M.in_of_wf hx
  have hy := M.in_of_wf hy
  unfold M.In at hx hy
  refine ⟨1, ?_⟩
  unfold trivetlaw02_RateSteps.f trivetlaw02_up_s.f
  simp only [Option.bind_some]
  have out : trivetlaw02_RateSteps.j0 1 b r p x y true true = some true := by simp [trivetlaw02_RateSteps.j0]
  by_cases h1 : x < 0
  · rw [if_pos h1]; exact out
  rw [if_neg h1]
  by_cases h2 : x > 480
  · rw [if_pos h2]; exact out
  rw [if_neg h2]
  by_cases h3 : y < 0
  · rw [if_pos h3]; exact out
  rw [if_neg h3]
  by_cases h4 : wrap64 (x + y) > 480
  · rw [decide_eq_true h4]; exact out
  rw [decide_eq_false h4]
  simp only [trivetlaw02_RateSteps.j0]
  rw [if_neg (by decide)]
  have hw : wrap64 (x + y) = x + y ∨ wrap64 (x + y) < 0 ∧ 480 < y := by unfold wrap64 at *; omega
  by_cases h : M.may b r ∧ 0 ≤ p
  · rw [rate_Left_s.yes ⟨h.1, h.2, by omega, by omega⟩]
    rcases hw with hw | hw
    · rw [hw] at h4 ⊢
      rw [rate_Left_s.yes ⟨h.1, h.2, by omega, by omega⟩, show (x + y).toNat = x.toNat + y.toNat by omega, M.left_add]
      simp only [Option.bind_some]
      cases e : M.left x.toNat b r p with
      | none => simp [M.tell3]
      | some v =>
        have hv := M.left_bd _ h.1 e
        have e3 : M.tell3 (some v) = (v, none) := rfl
        simp only [Option.bind_some, e3, Option.isNone_none, if_true]
        rw [rate_Left_s.yes ⟨hv, h.2, by omega, by omega⟩]
        cases M.left y.toNat v r p <;> simp [M.tell3]
    · rw [rate_Left_s.no (m := wrap64 (x + y)) (fun hh => by omega)]
      simp only [Option.bind_some]
      cases e : M.left x.toNat b r p with
      | none => simp [M.tell3]
      | some v =>
        have e3 : M.tell3 (some v) = (v, none) := rfl
        simp only [e3, Option.isNone_none, if_true]
        rw [rate_Left_s.no (m := y) (fun hh => by omega)]
        simp
  · rw [rate_Left_s.no (fun hh => h ⟨hh.1, hh.2.1⟩), rate_Left_s.no (fun hh => h ⟨hh.1, hh.2.1⟩)]
    simp

end Go.Proofs.Ytfkokgnfciifgaa.Pure
