/- The Go law PoolWhole answers true at all numbers: net, fee and guaranty sum to the interest; none is below 0; all that was due, collected, is cut as it was stripped. Conditions: none beyond the given statement's own. -/
import Derived.Test.YtghimjkoaldafaaPx5
namespace Go.Proofs.Ytghimjkoaldafaa.Pure
open Go.RowKit Go.Proofs.Ytghimjkoaldafaa.P Go.Proofs.YtghimjkoaldafaaW.PrintWords Go.Proofs.YtghimjkoaldafaaW.PrintLast
set_option linter.unusedVariables false
set_option linter.unusedSimpArgs false
theorem PoolWhole : trivetlaw18_PoolWhole.Pure := by
  intro b r f g p hb hr hf hg hp
  have hr := M.in_of_wf hr
  have hf := M.in_of_wf hf
  have hg := M.in_of_wf hg
  have hp := M.in_of_wf hp
  refine ⟨2, ?_⟩
  unfold trivetlaw18_PoolWhole.f trivetlaw18_up_s.f
  by_cases h : M.stripOk b r f g
  · rw [pool_Strip_s.yes hr hf hg h]
    obtain ⟨s1, s2, s3, s4, s5, s6⟩ := M.strip_bd h
    generalize M.net b r f g = n at *
    generalize M.fee b r f = F at *
    generalize M.guar b r f g = G at *
    generalize M.month b r = A at *
    have hin : ∀ z, 0 ≤ z → z ≤ 10000000000000 → M.In z := fun z _ _ => by unfold M.In; omega
    have e : wrap64 (wrap64 (n + F) + G) = A := by rw [M.w64_id (n := n + F) (by omega) (by omega), M.w64_id (by omega) (by omega)]; exact s4
    simp only [Option.bind_some, Option.isNone_none, if_true]
    rw [if_neg (by omega), if_neg (by omega), decide_eq_false (by omega)]
    simp only [trivetlaw18_PoolWhole.j0]
    rw [e, if_neg (by decide), pool_Cut_s.at_ (hin _ (by omega) (by omega)) (hin _ (by omega) (by omega)) (hin _ (by omega) (by omega)) (hin _ (by omega) (by omega)), if_pos ⟨by omega, by omega, by omega, by omega, by omega, by omega⟩, Option.bind_some]
    have first : (if A = 0 then ((0 : Int), (0 : Int), (0 : Int), (none : Option Int)) else (A - F * A / A - G * A / A, F * A / A, G * A / A, none)) = (n, F, G, none) := by
      by_cases h0 : A = 0
      · rw [if_pos h0]
        obtain rfl : n = 0 := by omega
        obtain rfl : F = 0 := by omega
        obtain rfl : G = 0 := by omega
        rfl
      · rw [if_neg h0, M.cut_whole (by omega), M.cut_whole (by omega)]
        obtain rfl : n = A - F - G := by omega
        rfl
    rw [first]
    simp only [Option.isNone_none, if_true, bne_self_eq_false]
    simp only [trivetlaw18_PoolWhole.j1]
    rw [e, if_neg (by decide), pool_Cut_s.at_ hp (hin _ (by omega) (by omega)) (hin _ (by omega) (by omega)) (hin _ (by omega) (by omega)), Option.bind_some]
    by_cases hc : M.cutOk p F G A
    · rw [if_pos hc]
      have hc1 := hc.1
      have hc2 := hc.2.1
      by_cases h0 : A = 0
      · rw [if_pos h0]
        obtain rfl : p = 0 := by omega
        have w0 : wrap64 (wrap64 (0 + 0) + 0) = 0 := by unfold wrap64; omega
        simp [s1, s2, wrap64]
      · rw [if_neg h0]
        have c1 := M.cut_part (i := p) (f := F) (a := A) (by omega) (by omega) (by omega) (by omega)
        have c2 := M.cut_part (i := p) (f := G) (a := A) (by omega) (by omega) (by omega) (by omega)
        have c3 := M.cut_sum hc (by omega)
        generalize F * p / A = V at *
        generalize G * p / A = W at *
        simp only [Option.isNone_none, if_true]
        rw [M.w64_id (n := p - V - W + V) (by omega) (by omega), M.w64_id (n := p - V - W + V + W) (by omega) (by omega), if_pos (by omega), if_pos (by omega), if_pos (by omega), if_pos (by omega), if_pos (by omega), decide_eq_true (by omega)]
    · rw [if_neg hc]
      have : p < 0 ∨ p > A := by
        rcases Int.lt_or_le p 0 with h1 | h1
        · exact .inl h1
        · rcases Int.lt_or_le A p with h2 | h2
          · exact .inr h2
          · exact absurd ⟨h1, h2, by omega, by omega, by omega, by omega⟩ hc
      rcases this with h1 | h1
      · simp [h1]
      · by_cases h2 : p < 0 <;> simp [h1, h2]
  · rw [pool_Strip_s.no hr hf hg h]
    simp

end Go.Proofs.Ytghimjkoaldafaa.Pure
