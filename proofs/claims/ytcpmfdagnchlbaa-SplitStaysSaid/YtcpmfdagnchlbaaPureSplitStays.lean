/- The Go law SplitStays answers true at all totals and weights: the weights that are handed in stay as they are, and what was told stays, whatever becomes of it. Conditions: none beyond the given statement's own. -/
import Derived.Test.YtcpmfdagnchlbaaPx4
namespace Go.Proofs.Ytcpmfdagnchlbaa.Pure
open Go.RowKit Go.Proofs.Ytcpmfdagnchlbaa.P Go.Proofs.YtcpmfdagnchlbaaW.PrintWords Go.Proofs.YtcpmfdagnchlbaaW.PrintLast
set_option linter.unusedVariables false
set_option linter.unusedSimpArgs false
theorem split_loop (n : Nat) : ∀ (k i : Nat) (a : Int) (l y : List Int), M.In a → (∀ w ∈ l, M.In w) → l.length ≤ 500 → y.length = i + n → y.length ≤ 500 → n + 3000 ≤ k →
    trivetlaw03_SplitStays.l0 k a l true l y (Shr.res a l).2 (Shr.res a l).1 i = some true := by
  induction n with
  | zero =>
    intro k i a l y ha hl hm hy hy2 hk
    obtain ⟨j, rfl⟩ : ∃ j, k = j + 1 := ⟨k - 1, by omega⟩
    have hlen : (Shr.res a l).1.length ≤ 500 := by rw [Shr.res_len]; split <;> omega
    simp only [trivetlaw03_SplitStays.l0]
    rw [if_neg (by omega), split_Shares.num j a l ha hl (by omega) (by omega), Option.bind_some, if_pos trivial, trivetlaw03_same.num j l (by omega) (by omega), Option.bind_some, if_pos rfl, trivetlaw03_same.num j _ (by omega) (by omega), Option.bind_some]
    by_cases h : (Shr.res a l).2.isNone = true
    · rw [if_pos h, if_pos h]
    · rw [if_neg h, if_neg h]
  | succ n ih =>
    intro k i a l y ha hl hm hy hy2 hk
    obtain ⟨j, rfl⟩ : ∃ j, k = j + 1 := ⟨k - 1, by omega⟩
    simp only [trivetlaw03_SplitStays.l0]
    rw [if_pos (by omega), if_pos (by omega), M.w64_id (n := (i : Int) + 1) (by omega) (by omega)]
    exact ih j (i + 1) a l _ ha hl hm (by rw [List.length_set]; omega) (by rw [List.length_set]; omega) (by omega)
theorem SplitStays : trivetlaw03_SplitStays.Pure := by
  intro a l h1 h2 h3 h4
  have ha := M.in_of_wf h1
  have hl : ∀ x ∈ l, M.In x := fun x hx => M.in_of_wf (h4 x hx)
  refine ⟨6000, ?_⟩
  unfold trivetlaw03_SplitStays.f
  rw [trivetlaw03_up.num _ (by omega), Option.bind_some]
  by_cases h : (l.length : Int) > 500
  · rw [if_pos h]
  · have hlen : (Shr.res a l).1.length ≤ 500 := by rw [Shr.res_len]; split <;> omega
    rw [if_neg h, Option.bind_some, if_pos (by simp; omega), Option.bind_some, List.nil_append, split_Shares.num _ a l ha hl (by omega) (by omega), Option.bind_some, Option.bind_some, if_pos (by simp; omega), List.nil_append]
    exact split_loop _ 6000 0 a l _ ha hl (by omega) (Nat.zero_add _).symm hlen (by omega)

end Go.Proofs.Ytcpmfdagnchlbaa.Pure
