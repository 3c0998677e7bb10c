/- The Go law WaterDone answers true at all loans, days and amounts: behind a payment nothing is due, or what is there is less than an instalment, or the count or the years ended it. Conditions: none beyond the given statement's own. -/
import Derived.Test.YtimobafoidplaaaPx14
namespace Go.Proofs.Ytimobafoidplaaa.Pure
open Go.RowKit Go.Proofs.Ytimobafoidplaaa.P Go.Proofs.YtimobafoidplaaaW.PrintWords Go.Proofs.YtimobafoidplaaaW.PrintLast
set_option linter.unusedVariables false
set_option linter.unusedSimpArgs false
theorem WaterDone : trivetlaw13_WaterDone.Pure := by
  intro b r m f e i w fe g bal lvl du cnt sus late day a hb hr hm hf he hi hw hfe hg h9 h10 h11 h12 h13 h14 hd hA
  have h : (M.In r ∧ M.In f ∧ M.In fe ∧ M.In du) ∧ M.In day := ⟨⟨M.in_of_wf hr, M.in_of_wf hf, M.in_of_wf hfe, M.in_of_wf h11⟩, M.in_of_wf hd⟩
  unfold trivetlaw13_WaterDone.f trivetlaw13_up_s.f
  have hp := water_Pay_s.at_ (b := b) (r := r) (m := m) (f := f) (e := e) (i := i) (w := w) (fe := fe) (g := g) (bal := bal) (lvl := lvl) (du := du) (cnt := cnt) (sus := sus) (late := late) (day := day) (a := a) h
  rw [Option.bind_some]
  by_cases ha : M.askOk b r m f e i w fe g bal lvl du cnt sus late day a
  case neg => rw [if_neg ha] at hp; rw [hp]; rfl
  rw [if_pos ha] at hp
  by_cases c : sus + a > 10000000000000
  case pos => rw [if_pos c] at hp; rw [hp]; rfl
  rw [if_neg c] at hp
  obtain ⟨t1, t2, t3, t4, t5, t6, t7, t8, t9⟩ := ha.1
  have mo := t1.2.1
  unfold M.moneyOk at mo
  have hr' := (M.terms_may t1).1.2.2
  have b0 := t3.1
  have b1 := t3.2
  have s0 := t8.1
  have s1 := t8.2
  have l0 := t9.1
  have l1 := t9.2
  have a0 := ha.2.2.1
  have ok0 : M.ok r ⟨bal, du, cnt, sus + a, 0, 0, 0, 0⟩ := ⟨⟨b0, b1, hr'⟩, t2, t6, t7, by simp only []; omega, by simp only []; omega⟩
  have e1 := M.pay_end (lvl := lvl) (e := e) (day := day) (by omega) 480 _ ok0 (by simp only []; omega)
  unfold water_Pay_s.out at hp
  rw [hp, Option.bind_some]
  clear hp
  generalize M.pay r lvl e day 480 ⟨bal, du, cnt, sus + a, 0, 0, 0, 0⟩ = z at *
  obtain ⟨⟨zm, zf, z3, z4, z5, z6⟩, nt⟩ := e1
  have z1 := zm.1
  have z2 := zm.2.1
  rw [if_pos (show ((none : Option Int).isNone = true) from rfl)]
  by_cases hc : M.cur z.bal z.du day
  · have hl : M.lateOf z late day = M.least late z.sus := if_pos hc
    have fin : (if true = true then (if late - M.lateOf z late day = 0 then some true else some (z.sus - M.lateOf z late day == 0)) else none) = some true := by
      rw [if_pos rfl, hl]
      unfold M.least
      by_cases q : late ≤ z.sus
      · rw [if_pos q, if_pos (by omega)]
      · rw [if_neg q, if_neg (by omega), Int.sub_self]
        rfl
    by_cases g1 : z.bal > 0
    · rw [if_pos g1, if_neg (show ¬ z.du ≤ day from fun q => hc.elim (fun q2 => by omega) (fun q2 => by omega))]
      exact fin
    · rw [if_neg g1]
      exact fin
  · have g0 : z.bal ≠ 0 := fun q => hc (.inl q)
    have g1 : z.bal > 0 := by omega
    have g2 : z.du ≤ day := by
      rcases Int.lt_or_le day z.du with q | q
      · exact absurd (.inr q) hc
      · exact q
    have e0 : M.lateOf z late day = 0 := if_neg hc
    have hL' : M.loanOk b r m f e i w fe g z.bal lvl z.du z.cnt (z.sus - 0) (late - 0) := ⟨t1, zf, ⟨z1, z2⟩, t4, t5, z3, z4, ⟨by omega, by omega⟩, by omega, by omega⟩
    have inD : M.In z.du := by
      have := zf.1
      have := zf.2.1
      unfold M.In
      omega
    have mo0 := M.month_nonneg zm
    have mo1 := M.month_le zm
    have pb := M.prin_bd (lvl := lvl) zm
    rw [if_pos g1, if_pos g2, e0, water_Instalment_s.at_ ⟨h.1.1, h.1.2.1, h.1.2.2.1, inD⟩, Option.bind_some, if_pos hL', if_neg g0, if_pos rfl, if_pos (show ((none : Option Int).isNone = true) from rfl)]
    simp only []
    rw [M.w64_id (n := M.month z.bal r + M.prin z.bal r lvl) (by omega) (by omega), M.w64_id (n := M.month z.bal r + M.prin z.bal r lvl + e) (by omega) (by omega)]
    by_cases q1 : z.sus - 0 < M.month z.bal r + M.prin z.bal r lvl + e
    · rw [if_pos q1]
    · rw [if_neg q1]
      by_cases q2 : z.cnt = 480
      · rw [if_pos q2]
      · rw [if_neg q2]
        have q3 : ¬ M.more z.du := fun q => nt ⟨g0, g2, by omega, q, by unfold M.all; omega⟩
        have := M.last_day zf q3
        exact congrArg some (decide_eq_true (by omega))

end Go.Proofs.Ytimobafoidplaaa.Pure
