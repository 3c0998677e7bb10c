/- The Go law RateLevel answers true at all numbers: the level payment is the least that leaves nothing; or what is amiss. Conditions: none beyond the given statement's own. -/
import Derived.Test.YtfkokgnfciifgaaPx6
namespace Go.Proofs.Ytfkokgnfciifgaa.Pure
open Go.RowKit Go.Proofs.Ytfkokgnfciifgaa.P Go.Proofs.YtfkokgnfciifgaaW.PrintWords Go.Proofs.YtfkokgnfciifgaaW.PrintLast
set_option linter.unusedVariables false
set_option linter.unusedSimpArgs false
theorem RateLevel : trivetlaw02_RateLevel.Pure := by
  intro b r m hb hr hm
  refine ⟨2, ?_⟩
  unfold trivetlaw02_RateLevel.f trivetlaw02_up_s.f rate_Level_s.f trivetref02_May_s.f
  simp only [Option.bind_some]
  by_cases h : M.may b r ∧ 1 ≤ m ∧ m ≤ 480
  · rw [if_pos (decide_eq_true h.1), if_neg (by omega), decide_eq_false (by omega), if_pos h]
    obtain ⟨n, hn⟩ : ∃ n, m.toNat = n + 1 := ⟨m.toNat - 1, by omega⟩
    obtain ⟨a1, a2, a3, a4⟩ := M.level_spec (n := n) h.1
    rw [← hn] at a1 a2 a3 a4
    generalize M.level m.toNat b r = l at *
    have hb1 := h.1.1
    have hb2 := h.1.2.1
    simp only [trivetlaw02_RateLevel.j0, Option.isNone_none, if_true]
    rw [if_neg (by decide), decide_eq_false (by omega)]
    simp only [trivetlaw02_RateLevel.j1]
    unfold trivetref02_Pays_s.f
    rw [if_neg (by decide), if_pos ⟨h.1, a1, by omega, by omega⟩, Option.bind_some, a3]
    by_cases h0 : l > 0
    · rw [if_pos h0, M.w64_id (by omega) (by omega), if_pos ⟨h.1, by omega, by omega, by omega⟩, Option.bind_some, a4 (l - 1) (by omega) (by omega)]
      rfl
    · rw [if_neg h0]
      rfl
  · rw [if_neg h]
    have key : trivetlaw02_RateLevel.j0 2 b r m true 0 (some 1) true = some true := by simp [trivetlaw02_RateLevel.j0]
    by_cases h1 : M.may b r
    · rw [if_pos (decide_eq_true h1)]
      by_cases h2 : m < 1
      · rw [if_pos h2]; exact key
      · rw [if_neg h2, decide_eq_true (show m > 480 from Int.not_le.mp fun hle => h ⟨h1, by omega, hle⟩)]; exact key
    · rw [if_neg (by simpa using h1)]; exact key

end Go.Proofs.Ytfkokgnfciifgaa.Pure
