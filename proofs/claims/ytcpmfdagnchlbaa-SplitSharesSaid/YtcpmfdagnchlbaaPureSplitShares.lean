/- The Go law SplitShares answers true at all numbers: any total's shares by any weights are what the document's answer tells, or there are none. Conditions: none beyond the given statement's own. -/
import Derived.Test.YtcpmfdagnchlbaaPx15
namespace Go.Proofs.Ytcpmfdagnchlbaa.Pure
open Go.RowKit Go.Proofs.Ytcpmfdagnchlbaa.P Go.Proofs.YtcpmfdagnchlbaaW.PrintWords Go.Proofs.YtcpmfdagnchlbaaW.PrintLast
set_option linter.unusedVariables false
set_option linter.unusedSimpArgs false
theorem may_loop (n : Nat) : ∀ (k i : Nat) (l : List Int) (b : Bool), (∀ w ∈ l, M.In w) → l.length = i + n → l.length ≤ 480 → n + 2 ≤ k → trivetref03_May.l0 k l b i = some (decide (∀ w ∈ l.drop i, 0 ≤ w ∧ w ≤ 10000000000000) && (b || decide (0 < (l.drop i).sum))) := by
  induction n with
  | zero =>
    intro k i l b hl hn hm hk
    obtain ⟨j, rfl⟩ : ∃ j, k = j + 1 := ⟨k - 1, by omega⟩
    simp only [trivetref03_May.l0]
    rw [if_neg (by omega), List.drop_eq_nil_of_le (by omega)]
    simp
  | succ n ih =>
    intro k i l b hl hn hm hk
    obtain ⟨j, rfl⟩ : ∃ j, k = j + 1 := ⟨k - 1, by omega⟩
    have hget : l.getD i 0 = l[i]'(by omega) := by rw [List.getD_eq_getElem?_getD, List.getElem?_eq_getElem (by omega)]; rfl
    have hdrop : l.drop i = l.getD i 0 :: l.drop (i + 1) := by rw [List.drop_eq_getElem_cons (by omega), hget]
    have hr : rd l (i : Int) = l.getD i 0 := rfl
    have ih' := fun b => ih j (i + 1) l b hl (by omega) hm (by omega)
    simp only [trivetref03_May.l0]
    rw [if_pos (by omega), if_pos (by omega), hr, hdrop, M.w64_id (n := (i : Int) + 1) (by omega) (by omega)]
    generalize l.getD i 0 = x at *
    by_cases h1 : x < 0
    · rw [if_pos h1, decide_eq_false (by intro h; have := h x (by simp); omega)]
      rfl
    · rw [if_neg h1]
      by_cases h2 : x > 10000000000000
      · rw [if_pos h2, decide_eq_false (by intro h; have := h x (by simp); omega)]
        rfl
      · rw [if_neg h2]
        have hiff : (∀ w ∈ x :: l.drop (i + 1), 0 ≤ w ∧ w ≤ 10000000000000) ↔ (∀ w ∈ l.drop (i + 1), 0 ≤ w ∧ w ≤ 10000000000000) := by
          constructor
          · intro h w hw; exact h w (by simp [hw])
          · intro h w hw
            rcases List.mem_cons.mp hw with rfl | hw
            · omega
            · exact h w hw
        by_cases hall : ∀ w ∈ l.drop (i + 1), 0 ≤ w ∧ w ≤ 10000000000000
        · have nn := (Shr.sum_nn hall).1
          have e2 : (x :: l.drop (i + 1)).sum = x + (l.drop (i + 1)).sum := by simp
          rw [decide_eq_true (hiff.mpr hall), e2]
          cases b with
          | true =>
            rw [if_pos rfl]
            have := ih' true
            rw [decide_eq_true hall] at this
            exact this
          | false =>
            rw [if_neg (by decide)]
            have := ih' (decide (x > 0))
            rw [decide_eq_true hall] at this
            refine this.trans ?_
            congr 2
            by_cases hx : x > 0
            · rw [decide_eq_true hx, decide_eq_true (show 0 < x + (l.drop (i + 1)).sum by omega)]; rfl
            · have : x = 0 := by omega
              subst this
              simp
        · rw [decide_eq_false (fun h => hall (hiff.mp h))]
          cases b with
          | true => rw [if_pos rfl]; have := ih' true; rw [decide_eq_false hall] at this; exact this
          | false => rw [if_neg (by decide)]; have := ih' (decide (x > 0)); rw [decide_eq_false hall] at this; exact this
theorem may_num (k : Nat) (a : Int) (l : List Int) (hl : ∀ w ∈ l, M.In w) (hm : l.length ≤ 100000) (hk : 600 ≤ k) : trivetref03_May.f k a l = some (decide (Shr.may a l)) := by
  have hj : ∀ b : Bool, b = true → trivetref03_May.j0 k l b = some false := by
    intro b hb
    obtain ⟨j, rfl⟩ : ∃ j, k = j + 1 := ⟨k - 1, by omega⟩
    subst hb
    simp [trivetref03_May.j0]
  unfold trivetref03_May.f
  by_cases h1 : a < 0
  · rw [if_pos h1, hj true rfl, decide_eq_false (by unfold Shr.may; omega)]
  · rw [if_neg h1]
    by_cases h2 : a > 10000000000000
    · rw [if_pos h2, hj true rfl, decide_eq_false (by unfold Shr.may; omega)]
    · rw [if_neg h2]
      by_cases h3 : (l.length : Int) = 0
      · rw [if_pos h3, hj true rfl, decide_eq_false]
        intro h
        have : l = [] := List.length_eq_zero_iff.mp (by omega)
        subst this
        have := h.2.2.2.2
        simp at this
      · rw [if_neg h3]
        by_cases h4 : (l.length : Int) > 480
        · rw [hj _ (decide_eq_true h4), decide_eq_false (by unfold Shr.may; omega)]
        · rw [decide_eq_false h4]
          obtain ⟨j, rfl⟩ : ∃ j, k = j + 1 := ⟨k - 1, by omega⟩
          simp only [trivetref03_May.j0]
          rw [if_neg (by decide)]
          have := may_loop l.length j 0 l false hl (by omega) (by omega) (by omega)
          refine this.trans ?_
          rw [List.drop_zero, Bool.false_or]
          congr 1
          by_cases c1 : ∀ w ∈ l, 0 ≤ w ∧ w ≤ 10000000000000
          · by_cases c2 : 0 < l.sum
            · rw [decide_eq_true c1, decide_eq_true c2, decide_eq_true (show Shr.may a l from ⟨by omega, by omega, by omega, c1, c2⟩)]; rfl
            · rw [decide_eq_true c1, decide_eq_false c2, decide_eq_false (fun h : Shr.may a l => c2 h.2.2.2.2)]; rfl
          · rw [decide_eq_false c1, decide_eq_false (fun h : Shr.may a l => c1 h.2.2.2.1)]; rfl
theorem SplitShares : trivetlaw03_SplitShares.Pure := by
  intro a l h1 h2 h3 h4
  have ha := M.in_of_wf h1
  have hl : ∀ x ∈ l, M.In x := fun x hx => M.in_of_wf (h4 x hx)
  obtain ⟨K, hK⟩ : ∃ K, K = 300000 := ⟨_, rfl⟩
  refine ⟨K, ?_⟩
  unfold trivetlaw03_SplitShares.f
  rw [trivetlaw03_up.num K (by omega), Option.bind_some]
  by_cases h : (l.length : Int) > 500
  · rw [if_pos h]
  · rw [if_neg h, split_Shares.num K a l ha hl (by omega) (by omega), Option.bind_some, may_num K a l hl (by omega) (by omega), Option.bind_some]
    by_cases hm : Shr.may a l
    · have e : Shr.res a l = (Shr.sh a l, none) := by unfold Shr.res; rw [if_pos hm]
      have hlen : (Shr.sh a l).length = l.length := by
        have := Shr.res_len a l
        rw [e, if_pos hm] at this
        exact this
      have hm480 := hm.2.2.1
      rw [decide_eq_true hm, e, if_pos rfl, if_pos rfl, if_pos (by rfl), trivetref03_Shares.num K hm (by omega), Option.bind_some, trivetlaw03_same.num K (Shr.sh a l) (by omega) (by omega), Option.bind_some]
    · have e : Shr.res a l = ([], some 1) := by unfold Shr.res; rw [if_neg hm]
      rw [decide_eq_false hm, e, if_neg (by decide), if_pos rfl]
      rfl

end Go.Proofs.Ytcpmfdagnchlbaa.Pure
