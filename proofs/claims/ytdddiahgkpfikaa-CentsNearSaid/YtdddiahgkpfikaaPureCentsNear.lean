/- The Go law CentsNear answers true at all numbers: down is never above up, and at most 1 below; both others are one of them; by 1 it is the product. Conditions: none beyond the given statement's own. -/
import Derived.Test.YtdddiahgkpfikaaPx9
namespace Go.Proofs.Ytdddiahgkpfikaa.Pure
open Go.RowKit Go.Proofs.Ytdddiahgkpfikaa.P Go.Proofs.YtdddiahgkpfikaaW.PrintWords Go.Proofs.YtdddiahgkpfikaaW.PrintLast
set_option linter.unusedVariables false
set_option linter.unusedSimpArgs false
theorem quo_near (n c : Int) (hc : c ≠ 0) : M.quo n c 1 ≤ M.quo n c 2 ∧ (M.quo n c 1 = M.quo n c 2 ∨ M.quo n c 2 - M.quo n c 1 = 1) ∧
    (M.quo n c 3 = M.quo n c 1 ∨ M.quo n c 3 = M.quo n c 2) ∧ (M.quo n c 4 = M.quo n c 1 ∨ M.quo n c 4 = M.quo n c 2) := by
  unfold M.quo
  simp only []
  generalize (if c < 0 then -n else n) = n'
  generalize (if c < 0 then -c else c) = c'
  generalize n' % c' = r
  generalize n' / c' = q
  by_cases hr : r = 0
  · simp [hr]
  · simp [hr]
    refine ⟨by omega, by omega, ?_, ?_⟩
    all_goals (repeat' split)
    all_goals omega
theorem CentsNear : trivetlaw01_CentsNear.Pure := by
  intro a b c ha hb hc
  have ha := M.in_of_wf ha
  have hb := M.in_of_wf hb
  have hc := M.in_of_wf hc
  refine ⟨1, ?_⟩
  unfold trivetlaw01_CentsNear.f trivetlaw01_up_s.f
  rw [cents_MulDiv_s.at_ ha hb hc, cents_MulDiv_s.at_ ha hb hc, cents_MulDiv_s.at_ ha hb hc, cents_MulDiv_s.at_ ha hb hc, cents_MulDiv_s.at_ ha hb (by decide), cents_Mul_s.at_ ha hb]
  simp only [Option.bind_some]
  have h1 : M.quo (a * b) 1 3 = a * b := by simp [M.quo]
  rw [h1]
  by_cases h0 : c = 0
  · subst h0
    rcases Classical.em (M.In (a * b)) with h | h
    · simp [M.told_in h, trivetlaw01_CentsNear.j0]
    · simp [M.told_out h, trivetlaw01_CentsNear.j0]
  · have hq := quo_near (a * b) c h0
    have key : trivetlaw01_CentsNear.j0 1 true (M.told (M.quo (a * b) c 1)).1 (M.told (M.quo (a * b) c 1)).2 (M.told (M.quo (a * b) c 2)).1 (M.told (M.quo (a * b) c 2)).2 (M.told (M.quo (a * b) c 3)).1 (M.told (M.quo (a * b) c 3)).2 (M.told (M.quo (a * b) c 4)).1 (M.told (M.quo (a * b) c 4)).2 false = some true := by
      generalize M.quo (a * b) c 1 = d at *
      generalize M.quo (a * b) c 2 = u at *
      generalize M.quo (a * b) c 3 = n at *
      generalize M.quo (a * b) c 4 = v at *
      obtain ⟨g1, g2, g3, g4⟩ := hq
      simp only [trivetlaw01_CentsNear.j0]
      rw [if_neg (by decide)]
      rcases Classical.em (M.In d) with hd | hd
      · rcases Classical.em (M.In u) with hu | hu
        · have hn : M.In n := by rcases g3 with rfl | rfl <;> assumption
          have hv : M.In v := by rcases g4 with rfl | rfl <;> assumption
          rw [M.told_in hd, M.told_in hu, M.told_in hn, M.told_in hv]
          simp only [Option.isNone_none, if_true]
          rw [if_pos g1]
          have w : d ≠ u → wrap64 (u - d) = 1 := by
            intro h
            have : u - d = 1 := by omega
            rw [this]; unfold wrap64; omega
          by_cases e : d = u
          · subst e
            rw [if_pos rfl]
            have e3 : n = d := by omega
            have e4 : v = d := by omega
            simp [e3, e4]
          · rw [if_neg e, if_pos (w e)]
            rcases g3 with rfl | rfl <;> rcases g4 with rfl | rfl <;> simp
        · rw [M.told_in hd, M.told_out hu]
          simp
      · rw [M.told_out hd]
        simp
    have c1 : ∀ m : Int, 1 ≤ m → m ≤ 4 → (if c = 0 ∨ m < 1 ∨ m > 4 then ((0 : Int), some (1 : Int)) else M.told (M.quo (a * b) c m)) = M.told (M.quo (a * b) c m) := fun m h1 h2 => if_neg (by omega)
    rw [c1 1 (by decide) (by decide), c1 2 (by decide) (by decide), c1 3 (by decide) (by decide), c1 4 (by decide) (by decide), if_neg (show ¬ ((1 : Int) = 0 ∨ (3 : Int) < 1 ∨ (3 : Int) > 4) by decide)]
    rcases Classical.em (M.In (a * b)) with h | h
    · rw [M.told_in h]; simpa using key
    · rw [M.told_out h]; simpa using key

end Go.Proofs.Ytdddiahgkpfikaa.Pure
