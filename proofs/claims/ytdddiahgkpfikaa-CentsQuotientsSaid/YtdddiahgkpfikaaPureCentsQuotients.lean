/- The Go law CentsQuotients answers true at all numbers: the quotient of a product is what the long division of long numbers tells, rounded in any way, or has no room; where the divisor is 0, or the way of rounding is none, it is an error. Conditions: none beyond the given statement's own. -/
import Derived.Test.YtdddiahgkpfikaaPx12
namespace Go.Proofs.Ytdddiahgkpfikaa.Pure
open Go.RowKit Go.Proofs.Ytdddiahgkpfikaa.P Go.Proofs.YtdddiahgkpfikaaW.PrintWords Go.Proofs.YtdddiahgkpfikaaW.PrintLast
set_option linter.unusedVariables false
set_option linter.unusedSimpArgs false
theorem CentsQuotients : trivetlaw01_CentsQuotients.Pure := by
  intro a b c m ha hb hc hm
  have ha := M.in_of_wf ha
  have hb := M.in_of_wf hb
  have hc := M.in_of_wf hc
  obtain ⟨K, hK⟩ : ∃ K, K = 7500 := ⟨_, rfl⟩
  refine ⟨K + 1, ?_⟩
  unfold trivetlaw01_CentsQuotients.f trivetlaw01_up_s.f
  rw [cents_MulDiv_s.at_ ha hb hc]
  simp only [Option.bind_some, trivetlaw01_CentsQuotients.j0]
  by_cases h : c = 0 ∨ m < 1 ∨ m > 4
  · rw [if_pos h]
    by_cases h0 : c = 0
    · rw [if_pos h0]; rfl
    · rw [if_neg h0]
      by_cases h1 : m < 1
      · rw [if_pos h1]; rfl
      · rw [if_neg h1, show decide (m > 4) = true from decide_eq_true (by omega)]; rfl
  · have h0 : ¬ c = 0 := fun e => h (.inl e)
    have h1 : ¬ m < 1 := fun e => h (.inr (.inl e))
    have h4 : ¬ m > 4 := fun e => h (.inr (.inr e))
    rw [if_neg h, if_neg h0, if_neg h1, decide_eq_false h4, if_neg (by decide), trivetref01_MulDiv.num K a b c m ha hb hc h0 (by omega), Option.bind_some]
    by_cases g : M.In (M.quo (a * b) c m)
    · rw [if_pos g, M.told_in g, if_pos rfl, if_pos trivial]
      simp
    · rw [if_neg g, M.told_out g, if_neg (by decide), if_pos trivial]
      simp

end Go.Proofs.Ytdddiahgkpfikaa.Pure
