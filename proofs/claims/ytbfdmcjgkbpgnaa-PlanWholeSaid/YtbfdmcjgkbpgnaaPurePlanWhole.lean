/- The Go law PlanWhole answers true at all terms: a plan's rows go from the balance down to nothing, each of the level payment but the last, which is not more, and no lower payment would do. Conditions: none beyond the given statement's own. -/
import Derived.Test.YtbfdmcjgkbpgnaaPx13
namespace Go.Proofs.Ytbfdmcjgkbpgnaa.Pure
open Go.RowKit Go.Proofs.Ytbfdmcjgkbpgnaa.P Go.Proofs.YtbfdmcjgkbpgnaaW.PrintWords Go.Proofs.YtbfdmcjgkbpgnaaW.PrintLast
set_option linter.unusedVariables false
set_option linter.unusedSimpArgs false
theorem PlanWhole_rd (pre : List S34) (x : S34) (xs : List S34) (i : Int) (h : (pre.length : Int) = i) : rd_T34 (pre ++ x :: xs) i = x := by
  subst h
  simp [rd_T34, List.getD]
theorem PlanWhole_end {b r m f e i w fe g p : Int} (hb : M.may b r) (hm : 1 ≤ m ∧ m ≤ 480) (hp0 : 0 ≤ p) (hpb : p ≤ 2 * b) (hless : ∀ q, 0 ≤ q → q < p → M.pays m.toNat b r q = false) (L : List S34) (n : Int) (k : Nat) (hL : (L.length : Int) = n) (hn : n ≤ m) : trivetlaw12_PlanWhole.l0 (k + 1) true L p b 0 n b r m f e i w fe g = some true := by
  have hb1 := hb.2.1
  simp only [trivetlaw12_PlanWhole.l0]
  rw [if_neg (show ¬ n < (L.length : Int) by omega)]
  by_cases h1 : p > 0
  · rw [if_pos h1, M.w64_id (n := p - 1) (by omega) (by omega), trivetref02_Pays_s.yes ⟨hb, by omega, by omega, by omega⟩, hless (p - 1) (by omega) (by omega), Option.bind_some, if_pos trivial, if_pos trivial, if_pos trivial, if_pos (show (L.length : Int) ≤ m by omega)]
    rfl
  · rw [if_neg h1, if_pos trivial, if_pos trivial, if_pos trivial, if_pos (show (L.length : Int) ≤ m by omega)]
    rfl
theorem PlanWhole_loop {b r m f e i w fe g p : Int} (hb : M.may b r) (hm : 1 ≤ m ∧ m ≤ 480) (hp0 : 0 ≤ p) (hpb : p ≤ 2 * b) (hless : ∀ q, 0 ≤ q → q < p → M.pays m.toNat b r q = false) : ∀ (j : Nat) (n l : Int) (pre : List S34) (k : Nat), 0 ≤ n → n + j = m → M.may l r → (pre.length : Int) = n → M.left j l r p = some 0 → trivetlaw12_PlanWhole.l0 (k + j + 1) true (pre ++ (M.plan j n l r p f).map plan_Rows.mk) p (b - l) l n b r m f e i w fe g = some true
  | 0, n, l, pre, k, h0, hn, hl, hL, e0 => by
    have hz : l = 0 := by simp only [M.left] at e0; injection e0
    subst hz
    simp only [M.plan, List.map_nil, List.append_nil, Int.sub_zero]
    exact PlanWhole_end hb hm hp0 hpb hless pre n _ hL (by omega)
  | j + 1, n, l, pre, k, h0, hn, hl, hL, e0 => by
    simp only [M.plan]
    by_cases hl0 : l > 0
    · rw [if_pos hl0, List.map_cons]
      obtain ⟨a1, a2, a3⟩ := M.pays_next hl e0
      have a4 := M.next_nonneg l r p
      have a5 := hl.2.1
      have a6 := M.month_nonneg hl
      have a7 := M.month_le hl
      have b1 := hb.2.1
      have b0 := hb.1
      have hrest := M.plan_len j (n + 1) (M.next l r p) r p f
      have hmore : (M.plan j (n + 1) (M.next l r p) r p f).length ≠ 0 → M.next l r p > 0 := by
        intro hh
        cases j with
        | zero => simp [M.plan] at hh
        | succ j =>
          simp only [M.plan] at hh
          split at hh
          · assumption
          · simp at hh
      have nx : M.next l r p = if p < l + M.month l r then l + M.month l r - p else 0 := rfl
      obtain ⟨nl, hnl⟩ : ∃ nl, nl = M.next l r p := ⟨_, rfl⟩
      obtain ⟨T, hT⟩ : ∃ T, T = M.plan j (n + 1) (M.next l r p) r p f := ⟨_, rfl⟩
      have ih := PlanWhole_loop (f := f) (e := e) (i := i) (w := w) (fe := fe) (g := g) hb hm hp0 hpb hless j (n + 1) nl (pre ++ [⟨M.due f n, M.month l r, l - nl, nl⟩]) k (by omega) (by omega) (by rw [hnl]; exact a2) (by simp; omega) (by rw [hnl]; exact a3)
      rw [hnl, ← hT, List.append_assoc, List.singleton_append, ← hnl] at ih
      rw [← hT] at hmore hrest
      rw [← hnl] at hmore nx a1 a4
      rw [← hT, ← hnl]
      have hmk : plan_Rows.mk (M.due f n, M.month l r, l - nl, nl) = ⟨M.due f n, M.month l r, l - nl, nl⟩ := rfl
      obtain ⟨K, hK⟩ : ∃ K, K = k + j + 1 := ⟨_, rfl⟩
      rw [← hK] at ih
      rw [hmk, show k + (j + 1) + 1 = K + 1 by omega]
      have hlen : ((pre ++ (⟨M.due f n, M.month l r, l - nl, nl⟩ : S34) :: T.map plan_Rows.mk).length : Int) = n + 1 + T.length := by simp; omega
      simp only [trivetlaw12_PlanWhole.l0]
      rw [PlanWhole_rd pre _ _ n hL, hlen, if_pos (show n < n + 1 + (T.length : Int) by omega), if_pos h0]
      simp only []
      rw [M.w64_id (n := l - (l - nl)) (by omega) (by omega), if_pos (show nl = l - (l - nl) by omega), trivetref02_Month_s.yes hl, Option.bind_some, if_pos rfl, M.w64_id (n := n + 1 + (T.length : Int) - 1) (by omega) (by omega), M.w64_id (n := M.month l r + (l - nl)) (by omega) (by omega), M.w64_id (n := n + 1) (by omega) (by omega)]
      have hsum : ∃ s, wrap64 (b - l + (l - nl)) = s ∧ s = b - nl := ⟨_, rfl, by rw [M.w64_id (by omega) (by omega)]; omega⟩
      obtain ⟨s, hs, rfl⟩ := hsum
      rw [hs]
      have hle : ¬ M.month l r + (l - nl) > p := by rw [nx]; split <;> omega
      by_cases hT0 : T.length = 0
      · rw [if_neg (show ¬ n < n + 1 + (T.length : Int) - 1 by omega), if_neg hle]
        exact ih
      · have hpos := hmore hT0
        have heq : M.month l r + (l - nl) = p := by rw [nx] at hpos ⊢; split at hpos <;> omega
        rw [if_pos (show n < n + 1 + (T.length : Int) - 1 by omega), if_pos heq, if_neg (show ¬ nl = 0 by omega), if_neg hle]
        exact ih
    · have hz : l = 0 := by have := hl.1; omega
      subst hz
      rw [if_neg hl0, List.map_nil, List.append_nil, Int.sub_zero]
      exact PlanWhole_end hb hm hp0 hpb hless pre n _ hL (by omega)
theorem PlanWhole : trivetlaw12_PlanWhole.Pure := by
  intro b r m f e i w fe g hb hr hm hf he hi hw hfe hg
  refine ⟨482, ?_⟩
  have h : M.In r ∧ M.In f ∧ M.In fe := ⟨M.in_of_wf hr, M.in_of_wf hf, M.in_of_wf hfe⟩
  have h' : M.In f ∧ M.In fe ∧ M.In g := ⟨M.in_of_wf hf, M.in_of_wf hfe, M.in_of_wf hg⟩
  unfold trivetlaw12_PlanWhole.f trivetlaw12_up_s.f
  rw [Option.bind_some, plan_Rows_s.at_ h, Option.bind_some, plan_Level_s.at_ h, Option.bind_some, trivetref11_May_s.at_ h', Option.bind_some]
  by_cases hok : M.termsOk b r m f e i w fe g
  · rw [if_pos (decide_eq_true hok), if_pos hok, if_pos hok, if_pos (show ((none : Option Int).isNone = true) from rfl), if_pos (show ((none : Option Int).isNone = true) from rfl)]
    simp only [trivetlaw12_PlanWhole.j0]
    rw [if_neg (by decide)]
    have a := hok.2.1
    unfold M.moneyOk at a
    have hm := hok.2.2.1
    have hm' := hok.2.2.2.1
    have hl : M.may b r := ⟨by omega, by omega, by omega, by omega⟩
    obtain ⟨c, hc⟩ : ∃ c, m.toNat = c + 1 := ⟨m.toNat - 1, by omega⟩
    have s := M.level_spec (n := c) hl
    rw [← hc] at s
    have e0 := (M.pays_iff _ _ _ _).mp s.2.2.1
    have q := PlanWhole_loop (f := f) (e := e) (i := i) (w := w) (fe := fe) (g := g) hl ⟨hm, hm'⟩ s.1 s.2.1 s.2.2.2 m.toNat 0 b [] (480 - m.toNat) (by omega) (by omega) hl (by simp) e0
    rw [Int.sub_self, List.nil_append, show 480 - m.toNat + m.toNat + 1 = 481 by omega] at q
    exact q
  · rw [if_neg (by simpa using hok), if_neg hok, if_neg hok]
    simp [trivetlaw12_PlanWhole.j0]

end Go.Proofs.Ytbfdmcjgkbpgnaa.Pure
