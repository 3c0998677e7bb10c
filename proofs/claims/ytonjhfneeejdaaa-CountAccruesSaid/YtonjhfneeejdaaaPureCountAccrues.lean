/- The Go law CountAccrues answers true at all numbers: the interest of any days is what the long division of long numbers tells; where balance, rate or days lie outside their bounds it is an error. Conditions: none beyond the given statement's own. -/
import Derived.Test.YtonjhfneeejdaaaPx13
namespace Go.Proofs.Ytonjhfneeejdaaa.Pure
open Go.RowKit Go.Proofs.Ytonjhfneeejdaaa.P Go.Proofs.YtonjhfneeejdaaaW.PrintWords Go.Proofs.YtonjhfneeejdaaaW.PrintLast
set_option linter.unusedVariables false
set_option linter.unusedSimpArgs false
theorem accrues_told (k : Nat) (b r d y : Int) (hb : 0 ≤ b ∧ b ≤ 10000000000000) (hr : 0 ≤ r ∧ r ≤ 300000) (hd : 0 ≤ d ∧ d ≤ 40000) (hy : y = 360000000 ∨ y = 365000000) (hin : M.In (M.quo (b * (r * d)) y 4)) (hk : 7500 ≤ k) :
    trivetlaw05_CountAccrues.j1 (k + 1) b r d true (M.quo (b * (r * d)) y 4) none y = some true := by
  have p1 : (10000000000000 : Int) < 65536 ^ 15 := by decide
  have p2 : (200000000000000000000000 : Int) < 65536 ^ 15 := by decide
  have p15 : (65536 : Int) ^ 15 < 65536 ^ 32 := by decide
  have p20 : (65536 : Int) ^ 32 < 65536 ^ 64 := by decide
  have p3 : (9223372036854775808 : Int) < 65536 ^ 15 := by decide
  have h0 : 0 ≤ r * d := Int.mul_nonneg hr.1 hd.1
  have h1 : r * d ≤ 300000 * 40000 := Int.mul_le_mul hr.2 hd.2 hd.1 (by decide)
  have h2 : 0 ≤ b * (r * d) := Int.mul_nonneg hb.1 h0
  have h3 : b * (r * d) ≤ 10000000000000 * (300000 * 40000) := Int.mul_le_mul hb.2 h1 h0 (by decide)
  have ab := Qu.abs_pos hb.1
  have ap := Qu.abs_pos h0
  have aa := Qu.abs_pos h2
  have ay : M.abs y = y := Qu.abs_pos (by omega)
  simp only [trivetlaw05_CountAccrues.j1]
  rw [M.w64_id (n := r * d) (by omega) (by omega), trivetref01_Of.num k b (by unfold M.In; omega) (by omega), Option.bind_some, trivetref01_Of.num k (r * d) (by unfold M.In; omega) (by omega), Option.bind_some, trivetref01_Mul.num k b (r * d) (by omega) (by omega) (by omega), Option.bind_some, trivetref01_Of.num k y (by unfold M.In; omega) (by omega), Option.bind_some, trivetref01_Quotient.num k (b * (r * d)) y 4 (by omega) (by omega) (by omega) hk, Option.bind_some]
  generalize M.quo (b * (r * d)) y 4 = q at hin ⊢
  have hq : M.abs q < 65536 ^ 64 := by unfold M.In at hin; unfold M.abs; split <;> omega
  obtain ⟨v, t1, t2⟩ := trivetref01_To.num k q (by omega) hq
  rw [t1, Option.bind_some, if_pos trivial, if_pos (decide_eq_true hin), t2 hin]
  simp
theorem CountAccrues : trivetlaw05_CountAccrues.Pure := by
  intro b r d mo _ _ _
  obtain ⟨K, hK⟩ : ∃ K, K = 7500 := ⟨_, rfl⟩
  refine ⟨K + 2, ?_⟩
  unfold trivetlaw05_CountAccrues.f trivetlaw05_up_s.f
  rw [Option.bind_some]
  by_cases h : M.accrOk b r d
  · obtain ⟨⟨h1, h2, h3, h4⟩, h5, h6⟩ := h
    have h : M.accrOk b r d := ⟨⟨h1, h2, h3, h4⟩, h5, h6⟩
    have hb := M.accr_bd (mo := mo) h
    have hin : M.In (M.accr b r d mo) := by unfold M.In; omega
    rw [count_Accrue_s.yes h, Option.bind_some, if_neg (by omega), if_neg (by omega), if_neg (by omega), if_neg (by omega), if_neg (by omega), decide_eq_false (show ¬ d > 40000 by omega)]
    simp only [trivetlaw05_CountAccrues.j0]
    rw [if_neg (by decide)]
    unfold M.accr at hin ⊢
    cases mo
    · rw [if_neg (by decide)] at hin ⊢
      exact accrues_told K b r d _ ⟨h1, h2⟩ ⟨h3, h4⟩ ⟨h5, h6⟩ (.inr rfl) hin (by omega)
    · rw [if_pos rfl] at hin ⊢
      exact accrues_told K b r d _ ⟨h1, h2⟩ ⟨h3, h4⟩ ⟨h5, h6⟩ (.inl rfl) hin (by omega)
  · rw [count_Accrue_s.no h, Option.bind_some]
    have e : trivetlaw05_CountAccrues.j0 (K + 2) b r d mo true 0 (some 1) true = some true := rfl
    by_cases c1 : b < 0
    · rw [if_pos c1]; exact e
    rw [if_neg c1]
    by_cases c2 : b > 10000000000000
    · rw [if_pos c2]; exact e
    rw [if_neg c2]
    by_cases c3 : r < 0
    · rw [if_pos c3]; exact e
    rw [if_neg c3]
    by_cases c4 : r > 300000
    · rw [if_pos c4]; exact e
    rw [if_neg c4]
    by_cases c5 : d < 0
    · rw [if_pos c5]; exact e
    rw [if_neg c5]
    have c6 : d > 40000 := by
      rcases Int.lt_or_le 40000 d with g | g
      · exact g
      · exact absurd ⟨⟨by omega, by omega, by omega, by omega⟩, by omega, by omega⟩ h
    rw [decide_eq_true c6]; exact e

end Go.Proofs.Ytonjhfneeejdaaa.Pure
