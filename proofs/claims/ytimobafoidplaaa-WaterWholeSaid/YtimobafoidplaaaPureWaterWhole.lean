/- The Go law WaterWhole answers true at all loans, days and amounts: a payment loses nothing. Conditions: none beyond the given statement's own. -/
import Derived.Test.YtimobafoidplaaaPx13
namespace Go.Proofs.Ytimobafoidplaaa.Pure
open Go.RowKit Go.Proofs.Ytimobafoidplaaa.P Go.Proofs.YtimobafoidplaaaW.PrintWords Go.Proofs.YtimobafoidplaaaW.PrintLast
set_option linter.unusedVariables false
set_option linter.unusedSimpArgs false
theorem WaterWhole_grow {r lvl e day : Int} (he : 0 ≤ e) : ∀ (k : Nat) (s : M.St), M.ok r s → s.n ≤ (M.pay r lvl e day k s).n ∧ s.i ≤ (M.pay r lvl e day k s).i ∧ s.p ≤ (M.pay r lvl e day k s).p ∧ s.x ≤ (M.pay r lvl e day k s).x
  | 0, s, h => by simp [M.pay]
  | k + 1, s, h => by
    by_cases ht : M.takes r lvl e day s.bal s.du s.cnt s.sus
    · have ih := WaterWhole_grow (lvl := lvl) (day := day) he k (M.step r lvl e s) (M.step_ok he h ht)
      have mo := M.month_nonneg h.1
      have pb := (M.prin_bd (lvl := lvl) h.1).1
      rw [M.pay_succ k ht]
      simp only [M.step] at ih ⊢
      omega
    · rw [M.pay_stop ht]
      omega
theorem WaterWhole : trivetlaw13_WaterWhole.Pure := by
  intro b r m f e i w fe g bal lvl du cnt sus late day a hb hr hm hf he hi hw hfe hg h9 h10 h11 h12 h13 h14 hd hA
  have h : (M.In r ∧ M.In f ∧ M.In fe ∧ M.In du) ∧ M.In day := ⟨⟨M.in_of_wf hr, M.in_of_wf hf, M.in_of_wf hfe, M.in_of_wf h11⟩, M.in_of_wf hd⟩
  unfold trivetlaw13_WaterWhole.f trivetlaw13_up_s.f
  have hp := water_Pay_s.at_ (b := b) (r := r) (m := m) (f := f) (e := e) (i := i) (w := w) (fe := fe) (g := g) (bal := bal) (lvl := lvl) (du := du) (cnt := cnt) (sus := sus) (late := late) (day := day) (a := a) h
  rw [Option.bind_some]
  by_cases ha : M.askOk b r m f e i w fe g bal lvl du cnt sus late day a
  case neg => rw [if_neg ha] at hp; rw [hp]; rfl
  rw [if_pos ha] at hp
  by_cases c : sus + a > 10000000000000
  case pos => rw [if_pos c] at hp; rw [hp]; rfl
  rw [if_neg c] at hp
  obtain ⟨t1, t2, t3, t4, t5, t6, t7, t8, t9⟩ := ha.1
  have mo := t1.2.1
  unfold M.moneyOk at mo
  have hr' := (M.terms_may t1).1.2.2
  have b0 := t3.1
  have b1 := t3.2
  have s0 := t8.1
  have s1 := t8.2
  have l0 := t9.1
  have l1 := t9.2
  have a0 := ha.2.2.1
  have ok0 : M.ok r ⟨bal, du, cnt, sus + a, 0, 0, 0, 0⟩ := ⟨⟨b0, b1, hr'⟩, t2, t6, t7, by simp only []; omega, by simp only []; omega⟩
  have e1 := (M.pay_end (lvl := lvl) (e := e) (day := day) (by omega) 480 _ ok0 (by simp only []; omega)).1
  have e2 := M.pay_sum (r := r) (lvl := lvl) (e := e) (day := day) 480 ⟨bal, du, cnt, sus + a, 0, 0, 0, 0⟩
  have e3 := WaterWhole_grow (lvl := lvl) (e := e) (day := day) (by omega) 480 _ ok0
  unfold water_Pay_s.out at hp
  rw [hp, Option.bind_some]
  clear hp
  generalize M.pay r lvl e day 480 ⟨bal, du, cnt, sus + a, 0, 0, 0, 0⟩ = z at *
  simp only [] at e2 e3
  obtain ⟨⟨z1, z2, _⟩, _, z3, z4, z5, z6⟩ := e1
  have lb : 0 ≤ M.lateOf z late day ∧ M.lateOf z late day ≤ late ∧ M.lateOf z late day ≤ z.sus := by
    unfold M.lateOf M.least
    split
    · split <;> omega
    · omega
  generalize M.lateOf z late day = lt at *
  rw [if_pos (show ((none : Option Int).isNone = true) from rfl), if_pos rfl]
  simp only []
  rw [M.w64_id (n := z.i + z.p) (by omega) (by omega), M.w64_id (n := z.i + z.p + z.x) (by omega) (by omega), M.w64_id (n := z.i + z.p + z.x + lt) (by omega) (by omega), M.w64_id (n := z.i + z.p + z.x + lt + (z.sus - lt)) (by omega) (by omega), M.w64_id (n := sus + a) (by omega) (by omega), if_pos (show z.i + z.p + z.x + lt + (z.sus - lt) = sus + a by omega), if_pos trivial, M.w64_id (n := bal - z.p) (by omega) (by omega), if_pos (show z.bal = bal - z.p by omega), M.w64_id (n := late - lt) (by omega) (by omega), if_pos rfl, M.w64_id (n := cnt + z.n) (by omega) (by omega), if_pos (show z.cnt = cnt + z.n by omega), if_pos (show z.sus - lt ≥ 0 by omega), if_pos (show z.bal ≥ 0 by omega), if_pos (show late - lt ≥ 0 by omega)]
  simp

end Go.Proofs.Ytimobafoidplaaa.Pure
