/- The Go law PmiValue answers true at all terms and values: of a home of more value an insurance ends no later. Conditions: none beyond the given statement's own. -/
import Derived.Test.YtinpdbimbnhpoaaPx14
namespace Go.Proofs.Ytinpdbimbnhpoaa.Pure
open Go.RowKit Go.Proofs.Ytinpdbimbnhpoaa.P Go.Proofs.YtinpdbimbnhpoaaW.PrintWords Go.Proofs.YtinpdbimbnhpoaaW.PrintLast
set_option linter.unusedVariables false
set_option linter.unusedSimpArgs false
theorem PmiValue : trivetlaw17_PmiValue.Pure := by
  intro b r m f e i w fe g v v' hb hr hm hf he hi hw hfe hg hv hv'
  have h : M.In r ∧ M.In f ∧ M.In fe := ⟨M.in_of_wf hr, M.in_of_wf hf, M.in_of_wf hfe⟩
  unfold trivetlaw17_PmiValue.f trivetlaw17_up_s.f
  rw [Option.bind_some]
  by_cases hok : M.valueOk v ∧ M.termsOk b r m f e i w fe g
  · rw [pmi_Ends_s.yes h hok, Option.bind_some]
    by_cases hok' : M.valueOk v' ∧ M.termsOk b r m f e i w fe g
    · rw [pmi_Ends_s.yes h hok', Option.bind_some, if_pos (show ((none : Option Int).isNone = true) from rfl), if_pos (show ((none : Option Int).isNone = true) from rfl)]
      by_cases c : v' < v
      · rw [if_pos c]
      · rw [if_neg c, if_pos rfl, if_pos (M.ends_mono (by omega)), if_pos (M.ends_mono (by omega))]
        simp
    · rw [pmi_Ends_s.no h hok', Option.bind_some, if_pos (show ((none : Option Int).isNone = true) from rfl)]
      rfl
  · rw [pmi_Ends_s.no h hok, Option.bind_some]
    by_cases hok' : M.valueOk v' ∧ M.termsOk b r m f e i w fe g
    · rw [pmi_Ends_s.yes h hok', Option.bind_some]
      rfl
    · rw [pmi_Ends_s.no h hok', Option.bind_some]
      rfl

end Go.Proofs.Ytinpdbimbnhpoaa.Pure
