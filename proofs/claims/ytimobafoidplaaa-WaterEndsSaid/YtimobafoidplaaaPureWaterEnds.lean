/- The Go law WaterEnds answers true at all loans, days and amounts: what a part that is paid off leaves, and what pays all off, or what is amiss. Conditions: none beyond the given statement's own. -/
import Derived.Test.YtimobafoidplaaaPx19
namespace Go.Proofs.Ytimobafoidplaaa.Pure
open Go.RowKit Go.Proofs.Ytimobafoidplaaa.P Go.Proofs.YtimobafoidplaaaW.PrintWords Go.Proofs.YtimobafoidplaaaW.PrintLast
set_option linter.unusedVariables false
set_option linter.unusedSimpArgs false
theorem WaterEnds : trivetlaw13_WaterEnds.Pure := by
  intro b r m f e i w fe g bal lvl du cnt sus late day a hb hr hm hf he hi hw hfe hg h9 h10 h11 h12 h13 h14 hd hA
  have h : (M.In r ∧ M.In f ∧ M.In fe ∧ M.In du) ∧ M.In day := ⟨⟨M.in_of_wf hr, M.in_of_wf hf, M.in_of_wf hfe, M.in_of_wf h11⟩, M.in_of_wf hd⟩
  have h' : (M.In f ∧ M.In fe ∧ M.In g ∧ M.In du) ∧ M.In day := ⟨⟨M.in_of_wf hf, M.in_of_wf hfe, M.in_of_wf hg, M.in_of_wf h11⟩, M.in_of_wf hd⟩
  refine ⟨3, ?_⟩
  unfold trivetlaw13_WaterEnds.f trivetlaw13_up_s.f
  have hc := water_Curtail_s.at_ (b := b) (r := r) (m := m) (f := f) (e := e) (i := i) (w := w) (fe := fe) (g := g) (bal := bal) (lvl := lvl) (du := du) (cnt := cnt) (sus := sus) (late := late) (day := day) (a := a) h
  by_cases ha : M.askOk b r m f e i w fe g bal lvl du cnt sus late day 1
  case neg =>
    have hn : ¬ M.askOk b r m f e i w fe g bal lvl du cnt sus late day a := fun q => ha ⟨q.1, q.2.1, by omega, by omega⟩
    rw [if_neg hn] at hc
    rw [Option.bind_some, hc, Option.bind_some, water_Payoff_s.at_ h, Option.bind_some, trivetref13_Asked_s.at_ h', Option.bind_some, if_neg ha, if_neg (by simpa using ha), if_pos rfl, if_neg (by decide), if_pos (show _ from by decide), if_pos (show _ from by decide), if_neg (by decide), if_pos (show _ from by decide)]
    rfl
  obtain ⟨C, hC⟩ : ∃ C, water_Curtail_s.f b r m f e i w fe g bal lvl du cnt sus late day a = some C := ⟨_, hc⟩
  have key : trivetlaw13_WaterEnds.j0 3 day a true C.2.2.2.2.2.2.2.2.2.2.2.2.2.2.2 b r m f e i w fe g bal lvl du cnt sus late C.1 C.2.1 C.2.2.1 C.2.2.2.1 C.2.2.2.2.1 C.2.2.2.2.2.1 C.2.2.2.2.2.2.1 C.2.2.2.2.2.2.2.1 C.2.2.2.2.2.2.2.2.1 C.2.2.2.2.2.2.2.2.2.1 C.2.2.2.2.2.2.2.2.2.2.1 C.2.2.2.2.2.2.2.2.2.2.2.1 C.2.2.2.2.2.2.2.2.2.2.2.2.1 C.2.2.2.2.2.2.2.2.2.2.2.2.2.1 C.2.2.2.2.2.2.2.2.2.2.2.2.2.2.1 = some true := by
    rw [hC] at hc
    injection hc with hc
    by_cases c1 : a < 1
    · rw [if_neg (fun q => by have := q.2.2.1; omega)] at hc
      subst hc
      simp only [trivetlaw13_WaterEnds.j0]
      rw [if_pos c1]
      simp only [trivetlaw13_WaterEnds.j1]
      rw [if_pos trivial, if_pos trivial, if_neg (by decide), if_pos (show _ from by decide)]
      rfl
    by_cases c2 : a > 10000000000000
    · rw [if_neg (fun q => by have := q.2.2.2; omega)] at hc
      subst hc
      simp only [trivetlaw13_WaterEnds.j0]
      rw [if_neg c1, decide_eq_true c2]
      simp only [trivetlaw13_WaterEnds.j1]
      rw [if_pos trivial, if_pos trivial, if_neg (by decide), if_pos (show _ from by decide)]
      rfl
    rw [if_pos ⟨ha.1, ha.2.1, by omega, by omega⟩] at hc
    by_cases c3 : bal = 0 ∨ du ≤ day
    · rw [if_pos c3] at hc
      subst hc
      simp only [trivetlaw13_WaterEnds.j0]
      rw [if_neg c1, decide_eq_false c2]
      simp only [trivetlaw13_WaterEnds.j1]
      rw [if_neg (by decide)]
      by_cases c4 : bal = 0
      · rw [if_pos c4]
        simp only [trivetlaw13_WaterEnds.j2]
        rw [if_pos trivial, if_pos trivial, if_neg (by decide), if_pos (show _ from by decide)]
        rfl
      · rw [if_neg c4, decide_eq_true (c3.resolve_left c4)]
        simp only [trivetlaw13_WaterEnds.j2]
        rw [if_pos trivial, if_pos trivial, if_neg (by decide), if_pos (show _ from by decide)]
        rfl
    · rw [if_neg c3] at hc
      have b1 := ha.1.2.2.1.2
      by_cases c5 : a > bal
      · rw [if_pos c5] at hc
        subst hc
        simp only [trivetlaw13_WaterEnds.j0]
        rw [if_neg c1, decide_eq_false c2]
        simp only [trivetlaw13_WaterEnds.j1]
        rw [if_neg (by decide), if_neg (fun q => c3 (.inl q)), decide_eq_false (fun q => c3 (.inr q))]
        simp only [trivetlaw13_WaterEnds.j2]
        rw [if_neg (by decide), if_pos c5, if_pos trivial, if_neg (by decide), if_pos (show _ from by decide)]
        rfl
      · rw [if_neg c5] at hc
        subst hc
        simp only [trivetlaw13_WaterEnds.j0]
        rw [if_neg c1, decide_eq_false c2]
        simp only [trivetlaw13_WaterEnds.j1]
        rw [if_neg (by decide), if_neg (fun q => c3 (.inl q)), decide_eq_false (fun q => c3 (.inr q))]
        simp only [trivetlaw13_WaterEnds.j2]
        rw [if_neg (by decide), if_neg c5, if_pos trivial, if_pos (show _ from by decide), M.w64_id (n := bal - a) (by omega) (by omega)]
        simp
  rw [Option.bind_some, hC, Option.bind_some, water_Payoff_s.at_ h, Option.bind_some, trivetref13_Asked_s.at_ h', Option.bind_some, if_pos ha, if_pos (decide_eq_true ha)]
  by_cases c : bal = 0
  · rw [if_pos c, if_pos c, if_neg (by decide), if_pos (show _ from by decide), if_pos (show _ from by decide)]
    exact key
  · rw [if_neg c, if_neg c, if_pos (show ((none : Option Int).isNone = true) from rfl), trivetref13_Payoff_s.yes ha.1, Option.bind_some, if_pos rfl]
    exact key

end Go.Proofs.Ytimobafoidplaaa.Pure
