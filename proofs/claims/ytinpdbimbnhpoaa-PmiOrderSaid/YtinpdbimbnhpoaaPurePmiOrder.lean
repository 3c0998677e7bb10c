/- The Go law PmiOrder answers true at all loans, values and days: what is asked for ends no later than by itself, and what is off stays off. Conditions: none beyond the given statement's own. -/
import Derived.Test.YtinpdbimbnhpoaaPx16
namespace Go.Proofs.Ytinpdbimbnhpoaa.Pure
open Go.RowKit Go.Proofs.Ytinpdbimbnhpoaa.P Go.Proofs.YtinpdbimbnhpoaaW.PrintWords Go.Proofs.YtinpdbimbnhpoaaW.PrintLast
set_option linter.unusedVariables false
set_option linter.unusedSimpArgs false
theorem PmiOrder_off {b r m f v d d' : Int} {a a' c : Bool} (hd : d ≤ d') (ha : a = true → a' = true) (h : M.off b r m f v a c d = true) : M.off b r m f v a' c d' = true := by
  unfold M.off at h ⊢
  rw [Bool.or_eq_true, Bool.or_eq_true, Bool.and_eq_true, Bool.and_eq_true] at h ⊢
  rcases h with (⟨h1, h2⟩ | ⟨h1, h2⟩) | h1
  · exact .inl (.inl ⟨ha h1, M.pas_mono hd h2⟩)
  · exact .inl (.inr ⟨h1, M.pas_mono hd h2⟩)
  · exact .inr (M.pas_mono hd h1)
theorem PmiOrder : trivetlaw17_PmiOrder.Pure := by
  intro b r m f e i w fe g bal x10 du x12 x13 x14 v d d' hb hr hm hf he hi hw hfe hg h9 h10 h11 h12 h13 h14 hv hd hd'
  have h : M.In r ∧ M.In f ∧ M.In fe := ⟨M.in_of_wf hr, M.in_of_wf hf, M.in_of_wf hfe⟩
  refine ⟨2, ?_⟩
  unfold trivetlaw17_PmiOrder.f trivetlaw17_up_s.f
  rw [Option.bind_some]
  by_cases hok : M.valueOk v ∧ M.termsOk b r m f e i w fe g
  case neg =>
    rw [pmi_Ends_s.no h hok, Option.bind_some]
    rfl
  rw [pmi_Ends_s.yes h hok, Option.bind_some, if_pos (show ((none : Option Int).isNone = true) from rfl), pmi_Off_s.yes h hok, Option.bind_some, pmi_Off_s.yes h hok, Option.bind_some, if_pos (show ((none : Option Int).isNone = true) from rfl), if_pos (show ((none : Option Int).isNone = true) from rfl)]
  have hv0 := hok.1.1
  have le : M.ends b r m f v 80 ≤ M.ends b r m f v 78 := M.ends_mono (by omega)
  simp only []
  rw [if_neg (show ¬ M.ends b r m f v 80 > M.ends b r m f v 78 by omega)]
  have key : ∀ x : Bool, x = M.off b r m f v false (decide (bal = 0 ∨ du > d)) d → trivetlaw17_PmiOrder.j0 2 v d d' true x (M.off b r m f v true (decide (bal = 0 ∨ du > d)) d) false b r m f e i w fe g bal x10 du x12 x13 x14 = some true := by
    intro x hx
    simp only [trivetlaw17_PmiOrder.j0]
    rw [if_neg (by decide)]
    by_cases c1 : d' < d
    · rw [if_pos c1]
      simp [trivetlaw17_PmiOrder.j1]
    · rw [if_neg c1]
      simp only [trivetlaw17_PmiOrder.j1]
      by_cases c2 : bal = 0
      · rw [if_neg (by simp [c2]), pmi_Off_s.yes h hok, Option.bind_some, pmi_Off_s.yes h hok, Option.bind_some]
        rw [decide_eq_true (show bal = 0 ∨ du > d from .inl c2)] at hx ⊢
        rw [decide_eq_true (show bal = 0 ∨ du > d' from .inl c2)]
        have m1 := PmiOrder_off (b := b) (r := r) (m := m) (f := f) (v := v) (d := d) (d' := d') (a := false) (a' := false) (c := true) (by omega) (by simp)
        have m2 := PmiOrder_off (b := b) (r := r) (m := m) (f := f) (v := v) (d := d) (d' := d') (a := true) (a' := true) (c := true) (by omega) (by simp)
        rw [← hx] at m1
        simp only []
        generalize M.off b r m f v true true d = z2 at *
        generalize M.off b r m f v false true d' = z3 at *
        generalize M.off b r m f v true true d' = z4 at *
        revert m1 m2
        cases x <;> cases z2 <;> cases z3 <;> cases z4 <;> simp
      · rw [if_pos (by simpa using c2)]
  have m0 := PmiOrder_off (b := b) (r := r) (m := m) (f := f) (v := v) (d := d) (d' := d) (a := false) (a' := true) (c := decide (bal = 0 ∨ du > d)) (by omega) (by simp)
  have key := key _ rfl
  by_cases c : M.off b r m f v false (decide (bal = 0 ∨ du > d)) d = true
  · rw [if_pos c]
    have := m0 c
    rw [show (!M.off b r m f v true (decide (bal = 0 ∨ du > d)) d) = false by rw [this]; rfl]
    exact key
  · rw [if_neg c]
    exact key

end Go.Proofs.Ytinpdbimbnhpoaa.Pure
