/- The Go law WaterPayoff answers true at all loans and days: what pays all off is no less than what is owed, and a day later no less. Conditions: none beyond the given statement's own. -/
import Derived.Test.YtimobafoidplaaaPx14
namespace Go.Proofs.Ytimobafoidplaaa.Pure
open Go.RowKit Go.Proofs.Ytimobafoidplaaa.P Go.Proofs.YtimobafoidplaaaW.PrintWords Go.Proofs.YtimobafoidplaaaW.PrintLast
set_option linter.unusedVariables false
set_option linter.unusedSimpArgs false
theorem WaterPayoff_in (x : Int) : M.In (wrap64 x) := by unfold M.In wrap64; omega
theorem WaterPayoff : trivetlaw13_WaterPayoff.Pure := by
  intro b r m f e i w fe g bal lvl du cnt sus late day hb hr hm hf he hi hw hfe hg h9 h10 h11 h12 h13 h14 hd
  have h : M.In r ∧ M.In f ∧ M.In fe ∧ M.In du := ⟨M.in_of_wf hr, M.in_of_wf hf, M.in_of_wf hfe, M.in_of_wf h11⟩
  unfold trivetlaw13_WaterPayoff.f trivetlaw13_up_s.f
  rw [Option.bind_some, water_Payoff_s.at_ ⟨h, M.in_of_wf hd⟩, Option.bind_some, water_Payoff_s.at_ ⟨h, WaterPayoff_in _⟩, Option.bind_some]
  by_cases ha : M.askOk b r m f e i w fe g bal lvl du cnt sus late day 1
  case neg => rw [if_neg ha]; rfl
  rw [if_pos ha]
  by_cases c : bal = 0
  case pos => rw [if_pos c]; rfl
  have hL := ha.1
  have hbal := hL.2.2.1
  have b0 := hbal.1
  have b1 := hbal.2
  have hlate := hL.2.2.2.2.2.2.2.2
  have l0 := hlate.1
  have l1 := hlate.2
  have d0 := ha.2.1.1
  have d1 := ha.2.1.2
  have mo := M.month_nonneg (b := bal) (r := r) ⟨b0, b1, (M.terms_may hL.1).1.2.2⟩
  have mb := M.months_bd day 3600 du
  have pr : 0 ≤ M.months day 3600 du * M.month bal r := Int.mul_nonneg (by omega) mo
  rw [if_neg c, if_pos (show ((none : Option Int).isNone = true) from rfl), if_pos rfl, M.w64_id (n := bal + late) (by omega) (by omega), if_pos (show bal + late + M.months day 3600 du * M.month bal r ≥ bal + late by omega), M.w64_id (n := day + 1) (by omega) (by omega)]
  by_cases ha' : M.askOk b r m f e i w fe g bal lvl du cnt sus late (day + 1) 1
  · rw [if_pos ha', if_neg c, if_pos (show ((none : Option Int).isNone = true) from rfl)]
    have mm := M.months_mono (show day ≤ day + 1 by omega) 3600 du
    have := Int.mul_le_mul_of_nonneg_right mm mo
    rw [decide_eq_true (by simp only []; omega)]
  · rw [if_neg ha']
    rfl

end Go.Proofs.Ytimobafoidplaaa.Pure
