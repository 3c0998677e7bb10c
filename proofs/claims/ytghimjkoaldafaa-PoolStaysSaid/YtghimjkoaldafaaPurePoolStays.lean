/- The Go law PoolStays answers true at all amounts and parts: the parts that are handed in stay as they are, and what was told stays, whatever becomes of it. Conditions: none beyond the given statement's own. -/
import Derived.Test.YtghimjkoaldafaaPx7
namespace Go.Proofs.Ytghimjkoaldafaa.Pure
open Go.RowKit Go.Proofs.Ytghimjkoaldafaa.P Go.Proofs.YtghimjkoaldafaaW.PrintWords Go.Proofs.YtghimjkoaldafaaW.PrintLast
set_option linter.unusedVariables false
set_option linter.unusedSimpArgs false
theorem part_num (k : Nat) (a : Int) (l : List Int) (ha : M.In a) (hl : ∀ w ∈ l, M.In w) (hm : l.length ≤ 100000) (hk : 2000 ≤ k) : pool_Part.f k a l = some (Shr.res a l) := by
  unfold pool_Part.f
  rw [split_Shares.num k a l ha hl hm hk, Option.bind_some]
theorem split_loop (n : Nat) : ∀ (k i : Nat) (a : Int) (l y : List Int), M.In a → (∀ w ∈ l, M.In w) → l.length ≤ 500 → y.length = i + n → y.length ≤ 500 → n + 3000 ≤ k →
    trivetlaw18_PoolStays.l0 k a l true l y (Shr.res a l).2 (Shr.res a l).1 i = some true := by
  induction n with
  | zero =>
    intro k i a l y ha hl hm hy hy2 hk
    obtain ⟨j, rfl⟩ : ∃ j, k = j + 1 := ⟨k - 1, by omega⟩
    have hlen : (Shr.res a l).1.length ≤ 500 := by rw [Shr.res_len]; split <;> omega
    simp only [trivetlaw18_PoolStays.l0]
    rw [if_neg (by omega), part_num j a l ha hl (by omega) (by omega), Option.bind_some, if_pos trivial, trivetlaw14_Same.num j l (by omega) (by omega), Option.bind_some, if_pos rfl, trivetlaw14_Same.num j _ (by omega) (by omega), Option.bind_some]
    by_cases h : (Shr.res a l).2.isNone = true
    · rw [if_pos h, if_pos h]
    · rw [if_neg h, if_neg h]
  | succ n ih =>
    intro k i a l y ha hl hm hy hy2 hk
    obtain ⟨j, rfl⟩ : ∃ j, k = j + 1 := ⟨k - 1, by omega⟩
    simp only [trivetlaw18_PoolStays.l0]
    rw [if_pos (by omega), if_pos (by omega), M.w64_id (n := (i : Int) + 1) (by omega) (by omega)]
    exact ih j (i + 1) a l _ ha hl hm (by rw [List.length_set]; omega) (by rw [List.length_set]; omega) (by omega)
theorem PoolStays : trivetlaw18_PoolStays.Pure := by
  intro a l h1 h2 h3 h4
  have ha := M.in_of_wf h1
  have hl : ∀ x ∈ l, M.In x := fun x hx => M.in_of_wf (h4 x hx)
  refine ⟨6000, ?_⟩
  unfold trivetlaw18_PoolStays.f
  unfold trivetlaw18_up_s.f
  rw [Option.bind_some]
  by_cases h : (l.length : Int) > 500
  · rw [if_pos h]
  · have hlen : (Shr.res a l).1.length ≤ 500 := by rw [Shr.res_len]; split <;> omega
    rw [if_neg h, Option.bind_some, if_pos (by simp; omega), Option.bind_some, List.nil_append, part_num _ a l ha hl (by omega) (by omega), Option.bind_some, Option.bind_some, if_pos (by simp; omega), List.nil_append]
    exact split_loop _ 6000 0 a l _ ha hl (by omega) (Nat.zero_add _).symm hlen (by omega)

end Go.Proofs.Ytghimjkoaldafaa.Pure
