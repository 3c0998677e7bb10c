/- The Go law PlanStays answers true at all terms: a plan is the same when it is asked for again, whatever was done to the rows of the first answer. Conditions: none beyond the given statement's own. -/
import Derived.Test.YtbfdmcjgkbpgnaaPx14
namespace Go.Proofs.Ytbfdmcjgkbpgnaa.Pure
open Go.RowKit Go.Proofs.Ytbfdmcjgkbpgnaa.P Go.Proofs.YtbfdmcjgkbpgnaaW.PrintWords Go.Proofs.YtbfdmcjgkbpgnaaW.PrintLast
set_option linter.unusedVariables false
set_option linter.unusedSimpArgs false
theorem PlanStays_same (L : List S34) : ∀ (j : Nat) (i : Int) (k : Nat), 0 ≤ i → i + j = L.length → i + j ≤ 480 → trivetlaw12_same.l0 (k + j + 1) L L i = some true
  | 0, i, k, h0, h1, h2 => by
    simp only [trivetlaw12_same.l0]
    rw [if_neg (show ¬ i < (L.length : Int) by omega)]
  | j + 1, i, k, h0, h1, h2 => by
    rw [show k + (j + 1) + 1 = (k + j + 1) + 1 by omega]
    simp only [trivetlaw12_same.l0]
    rw [if_pos (show i < (L.length : Int) by omega), if_pos h0, if_pos (show i < (L.length : Int) by omega), if_neg (by simp), M.w64_id (n := i + 1) (by omega) (by omega)]
    exact PlanStays_same L j (i + 1) k (by omega) (by omega) (by omega)
theorem PlanStays_loop {b r m f e i w fe g : Int} (h : M.In r ∧ M.In f ∧ M.In fe) (er : Option Int) (L : List S34) (hL : L.length ≤ 480) (h2 : plan_Rows_s.f b r m f e i w fe g = some (L, er)) : ∀ (j : Nat) (n : Int) (X : List S34) (k : Nat), 0 ≤ n → n + j = X.length → n + j ≤ 480 → trivetlaw12_PlanStays.l0 (k + j + 483) true X er L n b r m f e i w fe g = some true
  | 0, n, X, k, h0, h1, h3 => by
    obtain ⟨K, hK⟩ : ∃ K, K = k + 482 := ⟨_, rfl⟩
    rw [show k + 0 + 483 = K + 1 by omega]
    simp only [trivetlaw12_PlanStays.l0]
    rw [if_neg (show ¬ n < (X.length : Int) by omega), h2, Option.bind_some, if_pos trivial]
    have hs : trivetlaw12_same.f K L L = some true := by
      unfold trivetlaw12_same.f
      rw [if_pos rfl]
      have := PlanStays_same L L.length 0 (k + 481 - L.length) (by omega) (by omega) (by omega)
      rwa [show k + 481 - L.length + L.length + 1 = K by omega] at this
    cases er with
    | none => simp [hs]
    | some x => simp [hs]
  | j + 1, n, X, k, h0, h1, h3 => by
    obtain ⟨K, hK⟩ : ∃ K, K = k + j + 483 := ⟨_, rfl⟩
    rw [show k + (j + 1) + 483 = K + 1 by omega]
    simp only [trivetlaw12_PlanStays.l0]
    rw [if_pos (show n < (X.length : Int) by omega), if_pos h0, M.w64_id (n := n + 1) (by omega) (by omega)]
    rw [hK]
    exact PlanStays_loop h er L hL h2 j (n + 1) _ k (by omega) (by rw [List.length_set]; omega) (by omega)
theorem PlanStays : trivetlaw12_PlanStays.Pure := by
  intro b r m f e i w fe g hb hr hm hf he hi hw hfe hg
  refine ⟨963, ?_⟩
  have h : M.In r ∧ M.In f ∧ M.In fe := ⟨M.in_of_wf hr, M.in_of_wf hf, M.in_of_wf hfe⟩
  obtain ⟨L, er, hL, hR⟩ : ∃ (L : List S34) (er : Option Int), L.length ≤ 480 ∧ plan_Rows_s.f b r m f e i w fe g = some (L, er) := by
    rw [plan_Rows_s.at_ h]
    by_cases hok : M.termsOk b r m f e i w fe g
    · rw [if_pos hok]
      have hm := hok.2.2.2.1
      have := M.plan_len m.toNat 0 b r (M.level m.toNat b r) f
      exact ⟨_, _, by rw [List.length_map]; omega, rfl⟩
    · rw [if_neg hok]
      exact ⟨_, _, by simp, rfl⟩
  unfold trivetlaw12_PlanStays.f trivetlaw12_up_s.f
  rw [Option.bind_some, hR, Option.bind_some, Option.bind_some, List.length_nil, if_pos (show 0 + L.length < 4398046511104 by omega), List.nil_append]
  have := PlanStays_loop h er L hL hR L.length 0 L (480 - L.length) (by omega) (by omega) (by omega)
  rwa [show 480 - L.length + L.length + 483 = 963 by omega] at this

end Go.Proofs.Ytbfdmcjgkbpgnaa.Pure
