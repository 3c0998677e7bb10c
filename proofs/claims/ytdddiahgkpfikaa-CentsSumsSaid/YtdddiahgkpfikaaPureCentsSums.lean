/- The Go law CentsSums answers true at all lists of numbers: their sum is what long numbers tell, or has no room. Conditions: none beyond the given statement's own. -/
import Derived.Test.YtdddiahgkpfikaaPx6
namespace Go.Proofs.Ytdddiahgkpfikaa.Pure
open Go.RowKit Go.Proofs.Ytdddiahgkpfikaa.P Go.Proofs.YtdddiahgkpfikaaW.PrintWords Go.Proofs.YtdddiahgkpfikaaW.PrintLast
set_option linter.unusedVariables false
set_option linter.unusedSimpArgs false
theorem sums_loop (n : Nat) : ∀ (k : Nat) (l : List Int) (i : Nat), (∀ x ∈ l, M.In x) → l.length = i + n → l.length ≤ 1000 → n + 2000 < k → trivetlaw01_CentsSums.l0 k l true i (U.num (l.take i).sum).1 (U.num (l.take i).sum).2 = some true := by
  have e64 : (2 : Int) ^ 200 ≤ 65536 ^ 64 := by decide
  have eN : (2 : Int) ^ 200 = 1606938044258990275541962092341162602522202993782792835301376 := by decide
  have small : ∀ (l : List Int) (i : Nat), (∀ x ∈ l, M.In x) → l.length ≤ 1000 → M.abs (l.take i).sum < 65536 ^ 64 := by
    intro l i hl hm
    have := U.sum_le (l.take i) (fun x hx => hl x (List.mem_of_mem_take hx))
    have hle : (l.take i).length ≤ l.length := by simp; omega
    unfold M.abs
    split <;> omega
  induction n with
  | zero =>
    intro k l i hl hn hm hk
    obtain ⟨j, rfl⟩ : ∃ j, k = j + 1 := ⟨k - 1, by omega⟩
    have hs := small l i hl hm
    simp only [trivetlaw01_CentsSums.l0]
    rw [if_neg (by omega), cents_Sum.num _ l hl (by omega) (by omega), Option.bind_some, if_pos trivial]
    rw [List.take_of_length_le (by omega)] at hs ⊢
    rw [trivetlaw01_told.num _ _ (by omega) hs, Option.bind_some]
  | succ n ih =>
    intro k l i hl hn hm hk
    obtain ⟨j, rfl⟩ : ∃ j, k = j + 1 := ⟨k - 1, by omega⟩
    have hs := small l i hl hm
    have hx : M.In (l.getD i 0) := by
      rw [List.getD_eq_getElem?_getD, List.getElem?_eq_getElem (by omega)]
      exact hl _ (List.getElem_mem _)
    have ht : (l.take (i + 1)).sum = (l.take i).sum + l.getD i 0 := by
      rw [List.take_add_one, List.getD_eq_getElem?_getD, List.getElem?_eq_getElem (by omega), U.sum_add]
      simp
    have hr : rd l (i : Int) = l.getD i 0 := rfl
    have ih' := ih j l (i + 1) hl (by omega) hm (by omega)
    have hy : M.abs (l.getD i 0) < 65536 ^ 64 := by unfold M.In at hx; unfold M.abs; split <;> omega
    simp only [trivetlaw01_CentsSums.l0]
    rw [if_pos (by omega), if_pos (by omega), hr, trivetref01_Of.num _ _ hx (by omega), Option.bind_some, trivetref01_Add.num _ _ _ hs hy (by omega), Option.bind_some, M.w64_id (n := (i : Int) + 1) (by omega) (by omega), ← ht]
    exact ih'
theorem CentsSums : trivetlaw01_CentsSums.Pure := by
  intro l h1 h2 h3
  have hl : ∀ x ∈ l, M.In x := fun x hx => M.in_of_wf (h3 x hx)
  refine ⟨4000, ?_⟩
  unfold trivetlaw01_CentsSums.f trivetlaw01_up_s.f
  rw [Option.bind_some]
  by_cases h : (l.length : Int) > 1000
  · rw [if_pos h]
  · rw [if_neg h]
    have := sums_loop l.length 4000 l 0 hl (by omega) (by omega) (by omega)
    have e : U.num (l.take 0).sum = ([], false) := by
      simp [U.num, M.abs, U.dig_zero]
    rw [e] at this
    exact this

end Go.Proofs.Ytdddiahgkpfikaa.Pure
