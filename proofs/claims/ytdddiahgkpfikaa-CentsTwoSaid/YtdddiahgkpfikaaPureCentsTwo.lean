/- The Go law CentsTwo answers true at all numbers: sum, difference and product are what long numbers tell, or have no room. Conditions: none beyond the given statement's own. -/
import Derived.Test.YtdddiahgkpfikaaPx8
namespace Go.Proofs.Ytdddiahgkpfikaa.Pure
open Go.RowKit Go.Proofs.Ytdddiahgkpfikaa.P Go.Proofs.YtdddiahgkpfikaaW.PrintWords Go.Proofs.YtdddiahgkpfikaaW.PrintLast
set_option linter.unusedVariables false
set_option linter.unusedSimpArgs false
theorem CentsTwo : trivetlaw01_CentsTwo.Pure := by
  intro a b ha hb
  refine ⟨7000, ?_⟩
  have ha := M.in_of_wf ha
  have hb := M.in_of_wf hb
  have ba : M.abs a ≤ 9223372036854775808 := by unfold M.In at ha; unfold M.abs; split <;> omega
  have bb : M.abs b ≤ 9223372036854775808 := by unfold M.In at hb; unfold M.abs; split <;> omega
  have a0 := U.abs_nonneg a
  have b0 := U.abs_nonneg b
  have e64 : (2 : Int) ^ 200 ≤ 65536 ^ 64 := by decide
  have e32 : (2 : Int) ^ 200 ≤ 65536 ^ 32 := by decide
  have eN : (2 : Int) ^ 200 = 1606938044258990275541962092341162602522202993782792835301376 := by decide
  have bs : M.abs (a + b) < 65536 ^ 64 := by unfold M.abs M.In at *; repeat' split <;> omega
  have bd : M.abs (a + -b) < 65536 ^ 64 := by unfold M.abs M.In at *; repeat' split <;> omega
  have bn : M.abs (-b) < 65536 ^ 64 := by unfold M.abs M.In at *; repeat' split <;> omega
  have bm : M.abs (a * b) < 65536 ^ 64 := by
    have e : M.abs (a * b) = M.abs a * M.abs b := by
      unfold M.abs
      by_cases c : a < 0 <;> by_cases d : b < 0
      · have := Int.mul_pos_of_neg_of_neg c d
        simp [c, d, Int.neg_mul, Int.mul_neg]; omega
      · have := Int.mul_nonpos_of_nonpos_of_nonneg (Int.le_of_lt c) (show 0 ≤ b by omega)
        simp [c, d, Int.neg_mul]
        omega
      · have := Int.mul_nonpos_of_nonneg_of_nonpos (show 0 ≤ a by omega) (Int.le_of_lt d)
        simp [c, d, Int.mul_neg]
        omega
      · have := Int.mul_nonneg (show 0 ≤ a by omega) (show 0 ≤ b by omega)
        simp [c, d]
        omega
    have := Int.mul_le_mul ba bb b0 (by decide)
    omega
  have hsub : a - b = a + -b := by omega
  unfold trivetlaw01_CentsTwo.f trivetlaw01_up_s.f
  rw [Option.bind_some, trivetref01_Of.num _ a ha (by decide), Option.bind_some, trivetref01_Of.num _ b hb (by decide), Option.bind_some, cents_Add_s.at_ ha hb, Option.bind_some, cents_Sub_s.at_ ha hb, Option.bind_some, cents_Mul_s.at_ ha hb, Option.bind_some, if_pos rfl]
  rw [trivetref01_Add.num _ a b (by omega) (by omega) (by decide), Option.bind_some, trivetlaw01_told.num _ _ (by decide) bs, Option.bind_some, if_pos rfl]
  rw [trivetref01_Neg.num _ b (by omega) (by decide), Option.bind_some, trivetref01_Add.num _ a (-b) (by omega) bn (by decide), Option.bind_some, hsub, trivetlaw01_told.num _ _ (by decide) bd, Option.bind_some, if_pos rfl]
  rw [trivetref01_Mul.num _ a b (by omega) (by omega) (by decide), Option.bind_some, trivetlaw01_told.num _ _ (by decide) bm, Option.bind_some]

end Go.Proofs.Ytdddiahgkpfikaa.Pure
