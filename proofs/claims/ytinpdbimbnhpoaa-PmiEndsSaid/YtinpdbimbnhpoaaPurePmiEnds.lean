/- The Go law PmiEnds answers true at all terms and values: behind how many instalments an insurance ends, or that it may not be asked. Conditions: none beyond the given statement's own. -/
import Derived.Test.YtinpdbimbnhpoaaPx14
namespace Go.Proofs.Ytinpdbimbnhpoaa.Pure
open Go.RowKit Go.Proofs.Ytinpdbimbnhpoaa.P Go.Proofs.YtinpdbimbnhpoaaW.PrintWords Go.Proofs.YtinpdbimbnhpoaaW.PrintLast
set_option linter.unusedVariables false
set_option linter.unusedSimpArgs false
theorem PmiEnds : trivetlaw17_PmiEnds.Pure := by
  intro b r m f e i w fe g v hb hr hm hf he hi hw hfe hg hv
  have h : M.In r ∧ M.In f ∧ M.In fe := ⟨M.in_of_wf hr, M.in_of_wf hf, M.in_of_wf hfe⟩
  have h' : M.In f ∧ M.In fe ∧ M.In g := ⟨M.in_of_wf hf, M.in_of_wf hfe, M.in_of_wf hg⟩
  unfold trivetlaw17_PmiEnds.f trivetlaw17_up_s.f
  rw [Option.bind_some]
  by_cases hok : M.valueOk v ∧ M.termsOk b r m f e i w fe g
  · rw [pmi_Ends_s.yes h hok, Option.bind_some, trivetref17_Ends_s.yes h' hok, Option.bind_some]
    simp
  · rw [pmi_Ends_s.no h hok, Option.bind_some, trivetref17_Ends_s.no h' hok, Option.bind_some]
    simp

end Go.Proofs.Ytinpdbimbnhpoaa.Pure
