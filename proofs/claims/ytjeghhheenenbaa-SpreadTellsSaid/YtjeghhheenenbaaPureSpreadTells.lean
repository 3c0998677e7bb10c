/- The Go law SpreadTells answers true at all analyses: what becomes of too much and too little is the document's answer, or it may not be. Conditions: none beyond the given statement's own. -/
import Derived.Test.YtjeghhheenenbaaPx9
namespace Go.Proofs.Ytjeghhheenenbaa.Pure
open Go.RowKit Go.Proofs.Ytjeghhheenenbaa.P Go.Proofs.YtjeghhheenenbaaW.PrintWords Go.Proofs.YtjeghhheenenbaaW.PrintLast
set_option linter.unusedVariables false
set_option linter.unusedSimpArgs false
theorem same16 (k : Nat) (a b c d : Int) (l : List Int) (hl : l.length ≤ 1000) (hk : 1001 ≤ k) : trivetlaw16_Same.f k a b c d l a b c d l = some true := by
  unfold trivetlaw16_Same.f
  rw [if_pos rfl, if_pos rfl, if_pos rfl, if_pos rfl, trivetlaw14_Same.num k l hl hk, Option.bind_some]
theorem SpreadTells : trivetlaw16_SpreadTells.Pure := by
  intro y p c s lo bal t cur _ _ _ _ _ _ _ _ _
  refine ⟨2100, ?_⟩
  unfold trivetlaw16_SpreadTells.f
  rw [trivetlaw16_up.num 2100 (by omega), Option.bind_some, spread_Of.num 2100 y p c s lo bal t cur (by omega), Option.bind_some, trivetref16_Of.num 2100 y p c s lo bal t cur (by omega), Option.bind_some]
  by_cases h : Spr.may p s t
  · simp only [if_pos h]
    rw [if_pos trivial, if_pos trivial, if_pos (by rfl), same16 _ _ _ _ _ _ (by rw [Spr.len]; omega) (by omega), Option.bind_some]
  · simp only [if_neg h]
    rw [if_neg (by decide), if_pos trivial, if_neg (by decide), if_pos (by rfl), same16 _ _ _ _ _ _ (by simp) (by omega), Option.bind_some]

end Go.Proofs.Ytjeghhheenenbaa.Pure
