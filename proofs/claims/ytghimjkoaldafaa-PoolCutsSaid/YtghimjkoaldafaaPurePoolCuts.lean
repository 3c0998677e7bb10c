/- The Go law PoolCuts answers true at all numbers: how collected interest is cut, and any amount by any parts, are what the document tells, or may not be. Conditions: none beyond the given statement's own. -/
import Derived.Test.YtghimjkoaldafaaPx18
namespace Go.Proofs.Ytghimjkoaldafaa.Pure
open Go.RowKit Go.Proofs.Ytghimjkoaldafaa.P Go.Proofs.YtghimjkoaldafaaW.PrintWords Go.Proofs.YtghimjkoaldafaaW.PrintLast
set_option linter.unusedVariables false
set_option linter.unusedSimpArgs false
theorem may_loop (n : Nat) : ∀ (k i : Nat) (l : List Int) (b : Bool), (∀ w ∈ l, M.In w) → l.length = i + n → l.length ≤ 480 → n + 2 ≤ k → trivetref03_May.l0 k l b i = some (decide (∀ w ∈ l.drop i, 0 ≤ w ∧ w ≤ 10000000000000) && (b || decide (0 < (l.drop i).sum))) := by
  induction n with
  | zero =>
    intro k i l b hl hn hm hk
    obtain ⟨j, rfl⟩ : ∃ j, k = j + 1 := ⟨k - 1, by omega⟩
    simp only [trivetref03_May.l0]
    rw [if_neg (by omega), List.drop_eq_nil_of_le (by omega)]
    simp
  | succ n ih =>
    intro k i l b hl hn hm hk
    obtain ⟨j, rfl⟩ : ∃ j, k = j + 1 := ⟨k - 1, by omega⟩
    have hget : l.getD i 0 = l[i]'(by omega) := by rw [List.getD_eq_getElem?_getD, List.getElem?_eq_getElem (by omega)]; rfl
    have hdrop : l.drop i = l.getD i 0 :: l.drop (i + 1) := by rw [List.drop_eq_getElem_cons (by omega), hget]
    have hr : rd l (i : Int) = l.getD i 0 := rfl
    have ih' := fun b => ih j (i + 1) l b hl (by omega) hm (by omega)
    simp only [trivetref03_May.l0]
    rw [if_pos (by omega), if_pos (by omega), hr, hdrop, M.w64_id (n := (i : Int) + 1) (by omega) (by omega)]
    generalize l.getD i 0 = x at *
    by_cases h1 : x < 0
    · rw [if_pos h1, decide_eq_false (by intro h; have := h x (by simp); omega)]
      rfl
    · rw [if_neg h1]
      by_cases h2 : x > 10000000000000
      · rw [if_pos h2, decide_eq_false (by intro h; have := h x (by simp); omega)]
        rfl
      · rw [if_neg h2]
        have hiff : (∀ w ∈ x :: l.drop (i + 1), 0 ≤ w ∧ w ≤ 10000000000000) ↔ (∀ w ∈ l.drop (i + 1), 0 ≤ w ∧ w ≤ 10000000000000) := by
          constructor
          · intro h w hw; exact h w (by simp [hw])
          · intro h w hw
            rcases List.mem_cons.mp hw with rfl | hw
            · omega
            · exact h w hw
        by_cases hall : ∀ w ∈ l.drop (i + 1), 0 ≤ w ∧ w ≤ 10000000000000
        · have nn := (Shr.sum_nn hall).1
          have e2 : (x :: l.drop (i + 1)).sum = x + (l.drop (i + 1)).sum := by simp
          rw [decide_eq_true (hiff.mpr hall), e2]
          cases b with
          | true =>
            rw [if_pos rfl]
            have := ih' true
            rw [decide_eq_true hall] at this
            exact this
          | false =>
            rw [if_neg (by decide)]
            have := ih' (decide (x > 0))
            rw [decide_eq_true hall] at this
            refine this.trans ?_
            congr 2
            by_cases hx : x > 0
            · rw [decide_eq_true hx, decide_eq_true (show 0 < x + (l.drop (i + 1)).sum by omega)]; rfl
            · have : x = 0 := by omega
              subst this
              simp
        · rw [decide_eq_false (fun h => hall (hiff.mp h))]
          cases b with
          | true => rw [if_pos rfl]; have := ih' true; rw [decide_eq_false hall] at this; exact this
          | false => rw [if_neg (by decide)]; have := ih' (decide (x > 0)); rw [decide_eq_false hall] at this; exact this
theorem may_num (k : Nat) (a : Int) (l : List Int) (hl : ∀ w ∈ l, M.In w) (hm : l.length ≤ 100000) (hk : 600 ≤ k) : trivetref03_May.f k a l = some (decide (Shr.may a l)) := by
  have hj : ∀ b : Bool, b = true → trivetref03_May.j0 k l b = some false := by
    intro b hb
    obtain ⟨j, rfl⟩ : ∃ j, k = j + 1 := ⟨k - 1, by omega⟩
    subst hb
    simp [trivetref03_May.j0]
  unfold trivetref03_May.f
  by_cases h1 : a < 0
  · rw [if_pos h1, hj true rfl, decide_eq_false (by unfold Shr.may; omega)]
  · rw [if_neg h1]
    by_cases h2 : a > 10000000000000
    · rw [if_pos h2, hj true rfl, decide_eq_false (by unfold Shr.may; omega)]
    · rw [if_neg h2]
      by_cases h3 : (l.length : Int) = 0
      · rw [if_pos h3, hj true rfl, decide_eq_false]
        intro h
        have : l = [] := List.length_eq_zero_iff.mp (by omega)
        subst this
        have := h.2.2.2.2
        simp at this
      · rw [if_neg h3]
        by_cases h4 : (l.length : Int) > 480
        · rw [hj _ (decide_eq_true h4), decide_eq_false (by unfold Shr.may; omega)]
        · rw [decide_eq_false h4]
          obtain ⟨j, rfl⟩ : ∃ j, k = j + 1 := ⟨k - 1, by omega⟩
          simp only [trivetref03_May.j0]
          rw [if_neg (by decide)]
          have := may_loop l.length j 0 l false hl (by omega) (by omega) (by omega)
          refine this.trans ?_
          rw [List.drop_zero, Bool.false_or]
          congr 1
          by_cases c1 : ∀ w ∈ l, 0 ≤ w ∧ w ≤ 10000000000000
          · by_cases c2 : 0 < l.sum
            · rw [decide_eq_true c1, decide_eq_true c2, decide_eq_true (show Shr.may a l from ⟨by omega, by omega, by omega, c1, c2⟩)]; rfl
            · rw [decide_eq_true c1, decide_eq_false c2, decide_eq_false (fun h : Shr.may a l => c2 h.2.2.2.2)]; rfl
          · rw [decide_eq_false c1, decide_eq_false (fun h : Shr.may a l => c1 h.2.2.2.1)]; rfl
theorem cut_num (i f g a : Int) (hi : M.In i) (hf : M.In f) (hg : M.In g) (ha : M.In a) (k : Nat) (hk : 8000 ≤ k) : trivetref18_Cut.f k i f g a =
    some (if M.cutOk i f g a then (if a = 0 then (0, 0, 0, true) else (i - f * i / a - g * i / a, f * i / a, g * i / a, true)) else (0, 0, 0, false)) := by
  obtain ⟨k, rfl⟩ : ∃ m, k = m + 7 := ⟨k - 7, by omega⟩
  unfold M.In at hi hf hg ha
  have hno : ¬ M.cutOk i f g a → some (0, 0, 0, false) = some (if M.cutOk i f g a then (if a = 0 then ((0 : Int), (0 : Int), (0 : Int), true) else (i - f * i / a - g * i / a, f * i / a, g * i / a, true)) else (0, 0, 0, false)) := fun h => by rw [if_neg h]
  unfold trivetref18_Cut.f
  have w1 : wrap64 (0 + 1) = 1 := by unfold wrap64; omega
  have w2 : wrap64 (1 + 1) = 2 := by unfold wrap64; omega
  have w3 : wrap64 (2 + 1) = 3 := by unfold wrap64; omega
  have w4 : wrap64 (3 + 1) = 4 := by unfold wrap64; omega
  have r0 : rd [i, f, g, a] 0 = i := rfl
  have r1 : rd [i, f, g, a] 1 = f := rfl
  have r2 : rd [i, f, g, a] 2 = g := rfl
  have r3 : rd [i, f, g, a] 3 = a := rfl
  have hl : (([i, f, g, a] : List Int).length : Int) = 4 := rfl
  simp only [trivetref18_Cut.l0]
  rw [hl, w1, w2, w3, w4, r0, r1, r2, r3]
  rw [if_pos (by decide), if_pos (by decide), if_pos (by decide)]
  by_cases h1 : i < 0
  · rw [if_pos h1]; exact hno (fun hh => by have := hh.1; omega)
  rw [if_neg h1]
  by_cases h2 : i > 10000000000000
  · rw [if_pos h2]; exact hno (fun hh => by have := hh.2; omega)
  rw [if_neg h2, if_pos (by decide), if_pos (by decide), if_pos (by decide)]
  by_cases h3 : f < 0
  · rw [if_pos h3]; exact hno (fun hh => by have := hh.2; omega)
  rw [if_neg h3]
  by_cases h4 : f > 10000000000000
  · rw [if_pos h4]; exact hno (fun hh => by have := hh.2; omega)
  rw [if_neg h4, if_pos (by decide), if_pos (by decide), if_pos (by decide)]
  by_cases h5 : g < 0
  · rw [if_pos h5]; exact hno (fun hh => by have := hh.2; omega)
  rw [if_neg h5]
  by_cases h6 : g > 10000000000000
  · rw [if_pos h6]; exact hno (fun hh => by have := hh.2; omega)
  rw [if_neg h6, if_pos (by decide), if_pos (by decide), if_pos (by decide)]
  by_cases h7 : a < 0
  · rw [if_pos h7]; exact hno (fun hh => by have := hh.2; omega)
  rw [if_neg h7]
  by_cases h8 : a > 10000000000000
  · rw [if_pos h8]; exact hno (fun hh => by have := hh.2; omega)
  rw [if_neg h8, if_neg (by decide), M.w64_id (n := f + g) (by omega) (by omega)]
  by_cases h9 : f + g > a
  · rw [if_pos h9]
    simp only [trivetref18_Cut.j1]
    rw [if_pos trivial]; exact hno (fun hh => by have := hh.2; omega)
  rw [if_neg h9]
  simp only [trivetref18_Cut.j1]
  by_cases h10 : i > a
  · rw [if_pos (decide_eq_true h10)]; exact hno (fun hh => by have := hh.2; omega)
  have hok : M.cutOk i f g a := ⟨by omega, by omega, by omega, by omega, by omega, by omega⟩
  rw [if_neg (by simpa using h10), if_pos hok]
  by_cases h11 : a = 0
  · rw [if_pos h11, if_pos h11]
  rw [if_neg h11, if_neg h11]
  have c1 := M.cut_part (i := i) (f := f) (a := a) (by omega) (by omega) (by omega) (by omega)
  have c2 := M.cut_part (i := i) (f := g) (a := a) (by omega) (by omega) (by omega) (by omega)
  have hin : ∀ z, 0 ≤ z → z ≤ 10000000000000 → M.In z := fun z _ _ => by unfold M.In; omega
  rw [trivetref01_MulDiv.num _ f i a 1 (hin _ (by omega) (by omega)) (hin _ (by omega) (by omega)) (hin _ (by omega) (by omega)) h11 (by omega), M.quo_down (by omega), if_pos (hin _ c1.1 (by omega)), Option.bind_some]
  rw [trivetref01_MulDiv.num _ g i a 1 (hin _ (by omega) (by omega)) (hin _ (by omega) (by omega)) (hin _ (by omega) (by omega)) h11 (by omega), M.quo_down (by omega), if_pos (hin _ c2.1 (by omega)), Option.bind_some]
  rw [M.w64_id (n := i - f * i / a) (by omega) (by omega), M.w64_id (n := i - f * i / a - g * i / a) (by omega) (by omega)]
theorem PoolCuts : trivetlaw18_PoolCuts.Pure := by
  intro i f g a l h1 h2 h3 ha' h4 h5 h6
  have hi := M.in_of_wf h1
  have hf := M.in_of_wf h2
  have hg := M.in_of_wf h3
  have ha := M.in_of_wf ha'
  have hl : ∀ x ∈ l, M.In x := fun x hx => M.in_of_wf (h6 x hx)
  obtain ⟨K, hK⟩ : ∃ K, K = 400000 := ⟨_, rfl⟩
  refine ⟨K + 1, ?_⟩
  unfold trivetlaw18_PoolCuts.f trivetlaw18_up_s.f
  rw [Option.bind_some]
  by_cases h : (l.length : Int) > 500
  · rw [if_pos h]
  · rw [if_neg h, pool_Cut_s.at_ hi hf hg ha, cut_num i f g a hi hf hg ha (K + 1) (by omega), Option.bind_some, Option.bind_some]
    have hj : trivetlaw18_PoolCuts.j0 (K + 1) a l true false = some true := by
      simp only [trivetlaw18_PoolCuts.j0, pool_Part.f]
      rw [if_neg (by decide), split_Shares.num K a l ha hl (by omega) (by omega), Option.bind_some, Option.bind_some, may_num K a l hl (by omega) (by omega), Option.bind_some]
      by_cases hm : Shr.may a l
      · have e : Shr.res a l = (Shr.sh a l, none) := by unfold Shr.res; rw [if_pos hm]
        have hlen : (Shr.sh a l).length = l.length := by
          have := Shr.res_len a l
          rw [e, if_pos hm] at this
          exact this
        have hm480 := hm.2.2.1
        rw [decide_eq_true hm, e, if_pos rfl, if_pos trivial, if_pos (by rfl), trivetref03_Shares.num K hm (by omega), Option.bind_some, trivetlaw14_Same.num K (Shr.sh a l) (by omega) (by omega), Option.bind_some]
      · have e : Shr.res a l = ([], some 1) := by unfold Shr.res; rw [if_neg hm]
        rw [decide_eq_false hm, e, if_neg (by decide), if_pos trivial]
        rfl
    by_cases c : M.cutOk i f g a
    · rw [if_pos c, if_pos c]
      by_cases c0 : a = 0
      · rw [if_pos c0, if_pos c0, if_pos rfl, if_pos rfl, if_pos rfl, if_pos rfl]
        exact hj
      · rw [if_neg c0, if_neg c0, if_pos rfl, if_pos rfl, if_pos rfl, if_pos rfl, show ((g * i / a) != (g * i / a)) = false by simp]
        exact hj
    · rw [if_neg c, if_neg c, if_neg (by decide), if_neg (by decide), if_pos (by rfl), if_pos rfl, if_pos rfl]
      exact hj

end Go.Proofs.Ytghimjkoaldafaa.Pure
