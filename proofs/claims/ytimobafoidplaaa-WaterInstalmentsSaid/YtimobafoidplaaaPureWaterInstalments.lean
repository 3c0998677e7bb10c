/- The Go law WaterInstalments answers true at all loans: what the next instalment comes to, or what is amiss. Conditions: none beyond the given statement's own. -/
import Derived.Test.YtimobafoidplaaaPx17
namespace Go.Proofs.Ytimobafoidplaaa.Pure
open Go.RowKit Go.Proofs.Ytimobafoidplaaa.P Go.Proofs.YtimobafoidplaaaW.PrintWords Go.Proofs.YtimobafoidplaaaW.PrintLast
set_option linter.unusedVariables false
set_option linter.unusedSimpArgs false
theorem WaterInstalments : trivetlaw13_WaterInstalments.Pure := by
  intro b r m f e i w fe g bal lvl du cnt sus late hb hr hm hf he hi hw hfe hg h9 h10 h11 h12 h13 h14
  unfold trivetlaw13_WaterInstalments.f trivetlaw13_up_s.f
  rw [Option.bind_some, water_Instalment_s.at_ ⟨M.in_of_wf hr, M.in_of_wf hf, M.in_of_wf hfe, M.in_of_wf h11⟩, Option.bind_some, trivetref13_May_s.at_ ⟨M.in_of_wf hf, M.in_of_wf hfe, M.in_of_wf hg, M.in_of_wf h11⟩, Option.bind_some]
  by_cases hL : M.loanOk b r m f e i w fe g bal lvl du cnt sus late
  · have ht := (M.terms_may hL.1).1
    have l0 := hL.2.2.2.1
    rw [if_pos hL, if_pos (decide_eq_true hL)]
    by_cases c : bal = 0
    · rw [if_pos c, if_pos c, if_pos rfl]
      rfl
    · rw [if_neg c, if_neg c, if_pos rfl, if_pos (show ((none : Option Int).isNone = true) from rfl), trivetref13_Next_s.yes ⟨⟨hL.2.2.1.1, hL.2.2.1.2, ht.2.2⟩, by omega, hL.2.2.2.2.1⟩, Option.bind_some]
      simp
  · rw [if_neg hL, if_neg (by simpa using hL), if_pos rfl]
    rfl

end Go.Proofs.Ytimobafoidplaaa.Pure
