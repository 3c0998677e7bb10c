/- The Go law CentsOrder answers true at all lists of numbers and places: in whatever order and parts they are summed, the same comes of it. Conditions: none beyond the given statement's own. -/
import Derived.Test.YtdddiahgkpfikaaPx4
namespace Go.Proofs.Ytdddiahgkpfikaa.Pure
open Go.RowKit Go.Proofs.Ytdddiahgkpfikaa.P Go.Proofs.YtdddiahgkpfikaaW.PrintWords Go.Proofs.YtdddiahgkpfikaaW.PrintLast
set_option linter.unusedVariables false
set_option linter.unusedSimpArgs false
theorem CentsOrder : trivetlaw01_CentsOrder.Pure := by
  intro l a h1 h2 h3 ha
  have hl : ∀ x ∈ l, M.In x := fun x hx => M.in_of_wf (h3 x hx)
  have ha := M.in_of_wf ha
  unfold M.In at ha
  refine ⟨1103, ?_⟩
  unfold trivetlaw01_CentsOrder.f trivetlaw01_up_s.f
  rw [Option.bind_some]
  by_cases h : (l.length : Int) > 1000
  · rw [if_pos h]; simp [trivetlaw01_CentsOrder.j0]
  · rw [if_neg h]
    by_cases h0 : (l.length : Int) = 0
    · rw [show ((l.length : Int) == 0) = true by simpa using h0]; simp [trivetlaw01_CentsOrder.j0]
    · rw [show ((l.length : Int) == 0) = false by simpa using h0]
      have key : ∀ x : Int, 0 ≤ x → trivetlaw01_CentsOrder.j1 1102 l x true = some true := by
        intro x hx
        simp only [trivetlaw01_CentsOrder.j1]
        have m0 := Int.emod_nonneg x h0
        have m1 := Int.emod_lt_of_pos x (show 0 < (l.length : Int) by omega)
        rw [M.tmodu hx]
        generalize x % (l.length : Int) = m at *
        obtain ⟨i, rfl⟩ := Int.eq_ofNat_of_zero_le m0
        have htk : ∀ x ∈ l.take i, M.In x := fun x hx => hl x (List.mem_of_mem_take hx)
        have hdr : ∀ x ∈ l.drop i, M.In x := fun x hx => hl x (List.mem_of_mem_drop hx)
        have hsum : (l.take i).sum + (l.drop i).sum = l.sum := by rw [← U.sum_add, List.take_append_drop]
        have hsum2 : (l.drop i ++ l.take i).sum = l.sum := by rw [U.sum_add]; omega
        have lt : (l.take i).length ≤ 1000 := by simp; omega
        have ld : (l.drop i).length ≤ 1000 := by simp; omega
        have hboth : ∀ x ∈ l.drop i ++ l.take i, M.In x := by
          intro x hx
          rcases List.mem_append.mp hx with h | h
          · exact hdr x h
          · exact htk x h
        rw [if_neg h0, cents_Sum_s.num hl (by omega), Option.bind_some, Option.bind_some, if_pos (by omega), if_pos (by omega), show ((i : Int)).toNat = i from rfl, if_pos (by simp; omega), Option.bind_some, if_pos (by simp; omega), List.nil_append, cents_Sum_s.num hboth (by simp; omega), Option.bind_some, hsum2]
        have fin : ∀ e : Option Int, e = (M.told l.sum).2 → trivetlaw01_CentsOrder.j2 1101 l (i : Int) true (M.told l.sum).1 e false = some true := by
          intro e he
          subst he
          simp only [trivetlaw01_CentsOrder.j2]
          rw [if_neg (by decide), if_pos (by omega), if_pos (by omega), show ((i : Int)).toNat = i from rfl, cents_Sum_s.num htk (by omega), Option.bind_some, cents_Sum_s.num hdr (by omega), Option.bind_some]
          by_cases ct : M.In (l.take i).sum
          · rw [M.told_in ct]
            by_cases cd : M.In (l.drop i).sum
            · rw [M.told_in cd]
              simp only [Option.isNone_none, if_true]
              rw [cents_Add_s.at_ ct cd, Option.bind_some, hsum]
              by_cases cs : M.In l.sum
              · rw [M.told_in cs]; simp
              · rw [M.told_out cs]; simp
            · rw [M.told_out cd]; simp
          · rw [M.told_out ct]; simp
        by_cases cs : M.In l.sum
        · rw [M.told_in cs] at fin ⊢
          simp only [Option.isNone_none, if_true, bne_self_eq_false]
          exact fin none rfl
        · rw [M.told_out cs] at fin ⊢
          simp only [Option.isNone_some, Option.getD_some, bne_self_eq_false]
          exact fin (some 3) rfl
      simp only [trivetlaw01_CentsOrder.j0]
      rw [if_neg (by decide)]
      by_cases hn : a < 0
      · rw [if_pos hn, M.w64_id (n := a + 1) (by omega) (by omega), M.w64_id (n := -(a + 1)) (by omega) (by omega)]
        exact key _ (by omega)
      · rw [if_neg hn]
        exact key a (by omega)

end Go.Proofs.Ytdddiahgkpfikaa.Pure
