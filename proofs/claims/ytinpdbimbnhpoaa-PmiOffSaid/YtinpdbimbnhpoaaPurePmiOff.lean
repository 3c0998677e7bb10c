/- The Go law PmiOff answers true at all loans, values and days: whether an insurance is off, or that it may not be asked. Conditions: none beyond the given statement's own. -/
import Derived.Test.YtinpdbimbnhpoaaPx16
namespace Go.Proofs.Ytinpdbimbnhpoaa.Pure
open Go.RowKit Go.Proofs.Ytinpdbimbnhpoaa.P Go.Proofs.YtinpdbimbnhpoaaW.PrintWords Go.Proofs.YtinpdbimbnhpoaaW.PrintLast
set_option linter.unusedVariables false
set_option linter.unusedSimpArgs false
theorem PmiOff : trivetlaw17_PmiOff.Pure := by
  intro b r m f e i w fe g x9 x10 x11 x12 x13 x14 v a d hb hr hm hf he hi hw hfe hg h9 h10 h11 h12 h13 h14 hv hd
  have h : M.In r ∧ M.In f ∧ M.In fe := ⟨M.in_of_wf hr, M.in_of_wf hf, M.in_of_wf hfe⟩
  have h' : M.In f ∧ M.In fe ∧ M.In g := ⟨M.in_of_wf hf, M.in_of_wf hfe, M.in_of_wf hg⟩
  unfold trivetlaw17_PmiOff.f trivetlaw17_up_s.f
  rw [Option.bind_some]
  by_cases hok : M.valueOk v ∧ M.termsOk b r m f e i w fe g
  · rw [pmi_Off_s.yes h hok, Option.bind_some, trivetref17_Ends_s.yes h' hok, Option.bind_some, trivetref17_Off_s.yes ⟨h', hok⟩]
    simp
  · rw [pmi_Off_s.no h hok, Option.bind_some, trivetref17_Ends_s.no h' hok, Option.bind_some]
    simp

end Go.Proofs.Ytinpdbimbnhpoaa.Pure
