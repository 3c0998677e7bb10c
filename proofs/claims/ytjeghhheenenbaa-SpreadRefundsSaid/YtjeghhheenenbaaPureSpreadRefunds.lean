/- The Go law SpreadRefunds answers true at all analyses: a surplus is refunded, or spread: never both. Conditions: none beyond the given statement's own. -/
import Derived.Test.YtjeghhheenenbaaPx13
namespace Go.Proofs.Ytjeghhheenenbaa.Pure
open Go.RowKit Go.Proofs.Ytjeghhheenenbaa.P Go.Proofs.YtjeghhheenenbaaW.PrintWords Go.Proofs.YtjeghhheenenbaaW.PrintLast
set_option linter.unusedVariables false
set_option linter.unusedSimpArgs false
theorem refunds_loop (p : Nat) : ∀ (K i : Nat) (acc more su sho de re : Int) (cur : Bool) (g : Nat → Int), 12 = i + p → p < K → -100000000000000000 + 1000000000000000 * (12 - (i : Int)) ≤ acc ∧ acc ≤ 100000000000000000 - 1000000000000000 * (12 - (i : Int)) →
    (∀ j, -100000000000000 ≤ g j ∧ g j ≤ 100000000000000) → 1 ≤ more ∧ more ≤ 1000000000000 → re = (if more ≥ 5000 ∧ cur = true then more else 0) → acc + Spr.sm g i p = re - more →
    trivetlaw16_SpreadRefunds.l0 K more cur true acc (i : Int) su sho de re (Spr.mk g) = some true := by
  induction p with
  | zero =>
    intro K i acc more su sho de re cur g hi hk ha hg hm hr hs
    obtain ⟨j, rfl⟩ : ∃ j, K = j + 1 := ⟨K - 1, by omega⟩
    simp only [trivetlaw16_SpreadRefunds.l0]
    have hs' : acc = re - more := by simpa [Spr.sm] using hs
    rw [if_neg (by omega), M.w64_id (n := -more) (by omega) (by omega)]
    by_cases c1 : cur = true
    · rw [if_pos c1]
      by_cases c2 : more ≥ 5000
      · rw [if_pos ⟨c2, c1⟩] at hr
        rw [if_pos c2, if_pos trivial, if_pos hr, show acc = 0 by omega]; rfl
      · rw [if_neg (fun h => c2 h.1)] at hr
        rw [if_neg c2, if_pos trivial, if_pos hr, show acc = -more by omega]; simp
    · rw [if_neg (fun h => c1 h.2)] at hr
      rw [if_neg c1, if_pos trivial, if_pos hr, show acc = -more by omega]; simp
  | succ p ih =>
    intro K i acc more su sho de re cur g hi hk ha hg hm hr hs
    obtain ⟨j, rfl⟩ : ∃ j, K = j + 1 := ⟨K - 1, by omega⟩
    have gi := hg i
    simp only [trivetlaw16_SpreadRefunds.l0]
    rw [if_pos (by omega), if_pos (by omega), if_pos (by rw [Spr.len]; omega), Spr.at_ g i (by omega), M.w64_id (n := acc + g i) (by omega) (by omega), M.w64_id (n := (i : Int) + 1) (by omega) (by omega), show (i : Int) + 1 = ((i + 1 : Nat) : Int) by omega]
    refine ih j (i + 1) (acc + g i) more su sho de re cur g (by omega) (by omega) (by omega) hg hm hr ?_
    simp only [Spr.sm] at hs
    omega
theorem SpreadRefunds : trivetlaw16_SpreadRefunds.Pure := by
  intro y p c s lo bal more cur _ _ _ _ _ _ _ _ _
  obtain ⟨K, hK⟩ : ∃ K, K = 2100 := ⟨_, rfl⟩
  refine ⟨K, ?_⟩
  have skip : ∀ b : Bool, b = true → trivetlaw16_SpreadRefunds.j0 K more cur true b y p c s lo bal = some true := by
    rintro b rfl
    obtain ⟨j, rfl⟩ : ∃ j, K = j + 1 := ⟨K - 1, by omega⟩
    simp [trivetlaw16_SpreadRefunds.j0]
  unfold trivetlaw16_SpreadRefunds.f
  rw [trivetlaw16_up.num K (by omega), Option.bind_some]
  by_cases c1 : p < 0
  · rw [if_pos c1, skip _ rfl]
  by_cases c2 : p > 10000000000000
  · rw [if_neg c1, if_pos c2, skip _ rfl]
  by_cases c3 : s < 0
  · rw [if_neg c1, if_neg c2, if_pos c3, skip _ rfl]
  by_cases c4 : s > 1000000000000
  · rw [if_neg c1, if_neg c2, if_neg c3, if_pos c4, skip _ rfl]
  by_cases c5 : more < 1
  · rw [if_neg c1, if_neg c2, if_neg c3, if_neg c4, if_pos c5, skip _ rfl]
  by_cases c6 : more > 1000000000000
  · rw [if_neg c1, if_neg c2, if_neg c3, if_neg c4, if_neg c5, skip _ (decide_eq_true c6)]
  rw [if_neg c1, if_neg c2, if_neg c3, if_neg c4, if_neg c5, decide_eq_false c6]
  have hsu : Spr.su s (s + more) = more := by unfold Spr.su; rw [if_pos (by omega)]; omega
  have hsho : Spr.sho s (s + more) = 0 := by unfold Spr.sho; rw [if_pos (by omega)]
  have hde : Spr.de s (s + more) = 0 := by unfold Spr.de; rw [if_pos (by omega)]
  have hm : Spr.may p s (s + more) := ⟨by omega, by omega, by omega, by omega, by omega, by omega⟩
  obtain ⟨j, rfl⟩ : ∃ j, K = j + 2 := ⟨K - 2, by omega⟩
  simp only [trivetlaw16_SpreadRefunds.j0]
  rw [if_neg (by decide), M.w64_id (n := s + more) (by omega) (by omega), spread_Of.num (j + 1) y p c s lo bal (s + more) cur (by omega), Option.bind_some]
  simp only [if_pos hm]
  rw [if_pos (by rfl), if_pos hsu, show ((((Spr.mk (Spr.mo p s (s + more) cur)).length : Nat) : Int) != 12) = false by rw [Spr.len]; rfl]
  simp only [trivetlaw16_SpreadRefunds.j1]
  rw [if_neg (by decide)]
  have e := Spr.mo_sum p s (s + more) cur
  rw [hsu, hsho, hde] at e
  refine refunds_loop 12 j 0 0 more _ _ _ _ cur _ (by omega) (by omega) (by omega) (Spr.mo_in cur hm) (by omega) (by unfold Spr.re; rw [hsu]) ?_
  rw [e]
  omega

end Go.Proofs.Ytjeghhheenenbaa.Pure
