/- The Go law CentsStays answers true at all lists of numbers: the numbers that are handed in stay as they are. Conditions: none beyond the given statement's own. -/
import Derived.Test.YtdddiahgkpfikaaPx6
namespace Go.Proofs.Ytdddiahgkpfikaa.Pure
open Go.RowKit Go.Proofs.Ytdddiahgkpfikaa.P Go.Proofs.YtdddiahgkpfikaaW.PrintWords Go.Proofs.YtdddiahgkpfikaaW.PrintLast
set_option linter.unusedVariables false
set_option linter.unusedSimpArgs false
theorem stays_loop (n : Nat) : ∀ (k : Nat) (l : List Int) (i : Nat), l.length = i + n → l.length ≤ 1000 → n < k → trivetlaw01_CentsStays.l0 k l true l i = some true := by
  induction n with
  | zero =>
    intro k l i hl hm hk
    obtain ⟨j, rfl⟩ : ∃ j, k = j + 1 := ⟨k - 1, by omega⟩
    simp only [trivetlaw01_CentsStays.l0]
    rw [if_neg (by omega)]
  | succ n ih =>
    intro k l i hl hm hk
    obtain ⟨j, rfl⟩ : ∃ j, k = j + 1 := ⟨k - 1, by omega⟩
    simp only [trivetlaw01_CentsStays.l0]
    rw [if_pos (by omega), if_pos (by omega), if_pos (by omega), if_pos trivial, M.w64_id (n := (i : Int) + 1) (by omega) (by omega)]
    exact ih j l (i + 1) (by omega) hm (by omega)
theorem CentsStays : trivetlaw01_CentsStays.Pure := by
  intro l h1 h2 h3
  have hl : ∀ x ∈ l, M.In x := fun x hx => M.in_of_wf (h3 x hx)
  refine ⟨1100, ?_⟩
  unfold trivetlaw01_CentsStays.f trivetlaw01_up_s.f
  rw [Option.bind_some]
  by_cases h : (l.length : Int) > 1000
  · rw [if_pos h]
  · rw [if_neg h, Option.bind_some, if_pos (by simp; omega), Option.bind_some, List.nil_append, cents_Sum.num _ l hl (by omega) (by omega), Option.bind_some]
    exact stays_loop l.length 1100 l 0 (by omega) (by omega) (by omega)

end Go.Proofs.Ytdddiahgkpfikaa.Pure
