/- The Go law WaterPays answers true at all loans, days and amounts: what a payment comes to, or what is amiss. Conditions: none beyond the given statement's own. -/
import Derived.Test.YtimobafoidplaaaPx20
namespace Go.Proofs.Ytimobafoidplaaa.Pure
open Go.RowKit Go.Proofs.Ytimobafoidplaaa.P Go.Proofs.YtimobafoidplaaaW.PrintWords Go.Proofs.YtimobafoidplaaaW.PrintLast
set_option linter.unusedVariables false
set_option linter.unusedSimpArgs false
theorem WaterPays : trivetlaw13_WaterPays.Pure := by
  intro b r m f e i w fe g bal lvl du cnt sus late day a hb hr hm hf he hi hw hfe hg h9 h10 h11 h12 h13 h14 hd hA
  have h : (M.In r ∧ M.In f ∧ M.In fe ∧ M.In du) ∧ M.In day := ⟨⟨M.in_of_wf hr, M.in_of_wf hf, M.in_of_wf hfe, M.in_of_wf h11⟩, M.in_of_wf hd⟩
  have h' : (M.In f ∧ M.In fe ∧ M.In g ∧ M.In du) ∧ M.In day := ⟨⟨M.in_of_wf hf, M.in_of_wf hfe, M.in_of_wf hg, M.in_of_wf h11⟩, M.in_of_wf hd⟩
  refine ⟨1, ?_⟩
  unfold trivetlaw13_WaterPays.f trivetlaw13_up_s.f
  have hp := water_Pay_s.at_ (b := b) (r := r) (m := m) (f := f) (e := e) (i := i) (w := w) (fe := fe) (g := g) (bal := bal) (lvl := lvl) (du := du) (cnt := cnt) (sus := sus) (late := late) (day := day) (a := a) h
  rw [Option.bind_some]
  have ask := trivetref13_Asked_s.at_ (b := b) (r := r) (m := m) (f := f) (e := e) (i := i) (w := w) (fe := fe) (g := g) (bal := bal) (lvl := lvl) (du := du) (cnt := cnt) (sus := sus) (late := late) (day := day) (a := a) h'
  by_cases ha : M.askOk b r m f e i w fe g bal lvl du cnt sus late day a
  case neg =>
    rw [if_neg ha] at hp
    rw [decide_eq_false ha] at ask
    rw [hp, Option.bind_some, if_pos (show _ from by decide)]
    simp only [trivetlaw13_WaterPays.j0]
    rw [ask, Option.bind_some, if_neg (by decide), if_pos trivial, if_neg (by decide), if_pos (show _ from by decide)]
    rfl
  rw [if_pos ha] at hp
  rw [decide_eq_true ha] at ask
  have s0 := ha.1.2.2.2.2.2.2.2.1.1
  have s1 := ha.1.2.2.2.2.2.2.2.1.2
  have a0 := ha.2.2.1
  have a1 := ha.2.2.2
  by_cases c : sus + a > 10000000000000
  case pos =>
    rw [if_pos c] at hp
    rw [hp, Option.bind_some, if_pos (show _ from by decide)]
    simp only [trivetlaw13_WaterPays.j0]
    rw [ask, Option.bind_some, if_pos rfl, M.w64_id (n := sus + a) (by omega) (by omega), if_pos c, if_pos trivial, if_neg (by decide), if_pos (show _ from by decide)]
    rfl
  rw [if_neg c] at hp
  unfold water_Pay_s.out at hp
  have key : ∀ q : Bool, trivetlaw13_WaterPays.j0 1 day a true (none : Option Int) q b r m f e i w fe g bal lvl du cnt sus late b r m f e i w fe g (M.pay r lvl e day 480 ⟨bal, du, cnt, sus + a, 0, 0, 0, 0⟩).bal lvl (M.pay r lvl e day 480 ⟨bal, du, cnt, sus + a, 0, 0, 0, 0⟩).du (M.pay r lvl e day 480 ⟨bal, du, cnt, sus + a, 0, 0, 0, 0⟩).cnt ((M.pay r lvl e day 480 ⟨bal, du, cnt, sus + a, 0, 0, 0, 0⟩).sus - M.lateOf (M.pay r lvl e day 480 ⟨bal, du, cnt, sus + a, 0, 0, 0, 0⟩) late day) (late - M.lateOf (M.pay r lvl e day 480 ⟨bal, du, cnt, sus + a, 0, 0, 0, 0⟩) late day) (M.pay r lvl e day 480 ⟨bal, du, cnt, sus + a, 0, 0, 0, 0⟩).n (M.pay r lvl e day 480 ⟨bal, du, cnt, sus + a, 0, 0, 0, 0⟩).i (M.pay r lvl e day 480 ⟨bal, du, cnt, sus + a, 0, 0, 0, 0⟩).p (M.pay r lvl e day 480 ⟨bal, du, cnt, sus + a, 0, 0, 0, 0⟩).x (M.lateOf (M.pay r lvl e day 480 ⟨bal, du, cnt, sus + a, 0, 0, 0, 0⟩) late day) ((M.pay r lvl e day 480 ⟨bal, du, cnt, sus + a, 0, 0, 0, 0⟩).sus - M.lateOf (M.pay r lvl e day 480 ⟨bal, du, cnt, sus + a, 0, 0, 0, 0⟩) late day) = some true := by
    intro q
    simp only [trivetlaw13_WaterPays.j0]
    rw [ask, Option.bind_some, if_pos rfl, M.w64_id (n := sus + a) (by omega) (by omega), if_neg c, trivetref13_Pay_s.yes ⟨ha, by omega⟩, Option.bind_some, if_pos trivial, if_pos (show ((none : Option Int).isNone = true) from rfl)]
    simp [trivetref13_Pay_s.out]
  rw [hp, Option.bind_some]
  clear hp
  split
  · exact key _
  · exact key _

end Go.Proofs.Ytimobafoidplaaa.Pure
