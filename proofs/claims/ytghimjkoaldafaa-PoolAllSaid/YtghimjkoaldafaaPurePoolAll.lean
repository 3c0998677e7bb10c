/- The Go law PoolAll answers true at all numbers: all that was due, collected, is fee and guaranty as they were, and the rest; nothing collected is nothing. Conditions: none beyond the given statement's own. -/
import Derived.Test.YtghimjkoaldafaaPx5
namespace Go.Proofs.Ytghimjkoaldafaa.Pure
open Go.RowKit Go.Proofs.Ytghimjkoaldafaa.P Go.Proofs.YtghimjkoaldafaaW.PrintWords Go.Proofs.YtghimjkoaldafaaW.PrintLast
set_option linter.unusedVariables false
set_option linter.unusedSimpArgs false
theorem PoolAll : trivetlaw18_PoolAll.Pure := by
  intro f g n hf hg hn
  refine ⟨1, ?_⟩
  unfold trivetlaw18_PoolAll.f trivetlaw18_up_s.f
  rw [Option.bind_some]
  have out : trivetlaw18_PoolAll.j0 1 f g n true true = some true := by simp [trivetlaw18_PoolAll.j0]
  by_cases h1 : f < 0
  · rw [if_pos h1]; exact out
  rw [if_neg h1]
  by_cases h2 : g < 0
  · rw [if_pos h2]; exact out
  rw [if_neg h2]
  by_cases h3 : n < 0
  · rw [if_pos h3]; exact out
  rw [if_neg h3]
  by_cases h4 : f > 1000000000000
  · rw [if_pos h4]; exact out
  rw [if_neg h4]
  by_cases h5 : g > 1000000000000
  · rw [if_pos h5]; exact out
  rw [if_neg h5]
  by_cases h6 : n > 1000000000000
  · rw [decide_eq_true h6]; exact out
  rw [decide_eq_false h6]
  have hin : ∀ z, 0 ≤ z → z ≤ 10000000000000 → M.In z := fun z _ _ => by unfold M.In; omega
  simp only [trivetlaw18_PoolAll.j0]
  rw [if_neg (by decide), M.w64_id (n := f + g) (by omega) (by omega), M.w64_id (n := f + g + n) (by omega) (by omega)]
  rw [pool_Cut_s.at_ (hin _ (by omega) (by omega)) (hin _ (by omega) (by omega)) (hin _ (by omega) (by omega)) (hin _ (by omega) (by omega)), if_pos ⟨by omega, by omega, by omega, by omega, by omega, by omega⟩, Option.bind_some]
  rw [pool_Cut_s.at_ (hin _ (by omega) (by omega)) (hin _ (by omega) (by omega)) (hin _ (by omega) (by omega)) (hin _ (by omega) (by omega)), if_pos ⟨by omega, by omega, by omega, by omega, by omega, by omega⟩, Option.bind_some]
  by_cases h0 : f + g + n = 0
  · obtain rfl : f = 0 := by omega
    obtain rfl : g = 0 := by omega
    obtain rfl : n = 0 := by omega
    simp
  · rw [if_neg h0, if_neg h0, M.cut_whole (by omega), M.cut_whole (by omega)]
    have : f + g + n - f - g = n := by omega
    simp [this]

end Go.Proofs.Ytghimjkoaldafaa.Pure
