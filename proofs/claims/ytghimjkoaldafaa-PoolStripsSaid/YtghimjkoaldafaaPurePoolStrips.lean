/- The Go law PoolStrips answers true at all numbers: how a month's interest of any balance and rates is shared is what the document defines, or the error that it names. Conditions: none beyond the given statement's own. -/
import Derived.Test.YtghimjkoaldafaaPx4
namespace Go.Proofs.Ytghimjkoaldafaa.Pure
open Go.RowKit Go.Proofs.Ytghimjkoaldafaa.P Go.Proofs.YtghimjkoaldafaaW.PrintWords Go.Proofs.YtghimjkoaldafaaW.PrintLast
set_option linter.unusedVariables false
set_option linter.unusedSimpArgs false
theorem PoolStrips : trivetlaw18_PoolStrips.Pure := by
  intro b r f g hb hr hf hg
  have hr := M.in_of_wf hr
  have hf := M.in_of_wf hf
  have hg := M.in_of_wf hg
  by_cases h : M.stripOk b r f g
  · unfold trivetlaw18_PoolStrips.f trivetlaw18_up_s.f
    rw [pool_Strip_s.yes hr hf hg h, trivetref18_Strip_s.yes hr hf hg h]
    simp
  · unfold trivetlaw18_PoolStrips.f trivetlaw18_up_s.f
    rw [pool_Strip_s.no hr hf hg h, trivetref18_Strip_s.no hr hf hg h]
    simp

end Go.Proofs.Ytghimjkoaldafaa.Pure
