/- The Go law SpreadWhole answers true at all analyses: what is there, less the refund, and all that is paid more, is Start; no more than one of surplus, and shortage or deficiency, is above 0. Conditions: none beyond the given statement's own. -/
import Derived.Test.YtjeghhheenenbaaPx10
namespace Go.Proofs.Ytjeghhheenenbaa.Pure
open Go.RowKit Go.Proofs.Ytjeghhheenenbaa.P Go.Proofs.YtjeghhheenenbaaW.PrintWords Go.Proofs.YtjeghhheenenbaaW.PrintLast
set_option linter.unusedVariables false
set_option linter.unusedSimpArgs false
theorem whole_loop (p : Nat) : ∀ (K i : Nat) (acc t re s y pp c lo su sho de : Int) (cur : Bool) (bal : List Int) (g : Nat → Int), 12 = i + p → p < K → -100000000000000000 + 1000000000000000 * (12 - (i : Int)) ≤ acc ∧ acc ≤ 100000000000000000 - 1000000000000000 * (12 - (i : Int)) →
    (∀ j, -100000000000000 ≤ g j ∧ g j ≤ 100000000000000) → acc + Spr.sm g i p = s → 0 ≤ su ∧ 0 ≤ sho ∧ 0 ≤ de → (0 < su → sho = 0 ∧ de = 0) → (re = 0 ∨ re = su ∧ cur = true ∧ 5000 ≤ re) → (0 < de ↔ t < 0 ∧ t < s) →
    trivetlaw16_SpreadWhole.l0 K t cur true acc (i : Int) y pp c s lo bal su sho de re (Spr.mk g) = some true := by
  induction p with
  | zero =>
    intro K i acc t re s y pp c lo su sho de cur bal g hi hk ha hg hs hn hb hr hd
    obtain ⟨j, rfl⟩ : ∃ j, K = j + 1 := ⟨K - 1, by omega⟩
    simp only [trivetlaw16_SpreadWhole.l0]
    have hs' : acc = s := by simpa [Spr.sm] using hs
    rw [if_neg (by rw [Spr.len]; omega), if_pos (by rw [Spr.len]; rfl), if_pos hs', if_neg (by omega), if_neg (by omega), if_neg (by omega)]
    by_cases c1 : su > 0
    · obtain ⟨e1, e2⟩ := hb c1
      subst e1 e2
      rw [if_pos c1, if_neg (by omega), if_pos trivial, if_neg (by omega)]
      have hd' : ¬ (t < 0 ∧ t < s) := fun h => by have := hd.mpr h; omega
      by_cases c2 : re = 0
      · rw [if_pos c2]
        by_cases c3 : t < 0
        · rw [if_pos c3, decide_eq_false (fun h => hd' ⟨c3, h⟩)]; rfl
        · rw [if_neg c3]
      · rcases hr with hr | ⟨r1, r2, r3⟩
        · exact absurd hr c2
        · rw [if_neg c2, if_pos r1, if_pos r2, if_pos (by omega)]
          by_cases c3 : t < 0
          · rw [if_pos c3, decide_eq_false (fun h => hd' ⟨c3, h⟩)]; rfl
          · rw [if_neg c3]
    · rw [if_neg c1, if_pos trivial]
      have c2 : re = 0 := by
        rcases hr with hr | ⟨r1, r2, r3⟩
        · exact hr
        · omega
      rw [if_pos c2]
      by_cases c3 : t < 0
      · rw [if_pos c3]
        by_cases c4 : t < s
        · rw [decide_eq_true c4, decide_eq_true (show de > 0 from hd.mpr ⟨c3, c4⟩)]; rfl
        · rw [decide_eq_false c4, decide_eq_false (fun h => c4 (hd.mp h).2)]; rfl
      · rw [if_neg c3, decide_eq_false (fun h => c3 (hd.mp h).1)]; rfl
  | succ p ih =>
    intro K i acc t re s y pp c lo su sho de cur bal g hi hk ha hg hs hn hb hr hd
    obtain ⟨j, rfl⟩ : ∃ j, K = j + 1 := ⟨K - 1, by omega⟩
    have gi := hg i
    simp only [trivetlaw16_SpreadWhole.l0]
    rw [if_pos (by rw [Spr.len]; omega), if_pos (by omega), Spr.at_ g i (by omega), M.w64_id (n := acc + g i) (by omega) (by omega), M.w64_id (n := (i : Int) + 1) (by omega) (by omega), show (i : Int) + 1 = ((i + 1 : Nat) : Int) by omega]
    refine ih j (i + 1) (acc + g i) t re s y pp c lo su sho de cur bal g (by omega) (by omega) ?_ hg ?_ hn hb hr hd
    · omega
    · simp only [Spr.sm] at hs
      omega
theorem SpreadWhole : trivetlaw16_SpreadWhole.Pure := by
  intro y p c s lo bal t cur _ _ _ _ _ _ _ _ _
  refine ⟨2100, ?_⟩
  unfold trivetlaw16_SpreadWhole.f
  rw [trivetlaw16_up.num 2100 (by omega), Option.bind_some, spread_Of.num 2100 y p c s lo bal t cur (by omega), Option.bind_some]
  by_cases h : Spr.may p s t
  · simp only [if_pos h]
    rw [if_pos (by rfl)]
    have nn := Spr.nn s t
    have ri := Spr.re_in s t cur
    have hm := h
    obtain ⟨_, hs, ht, h1, h2, h3⟩ := h
    have e := Spr.mo_sum p s t cur
    rw [M.w64_id (n := t - Spr.re s t cur) (by omega) (by omega)]
    refine whole_loop 12 2100 0 (t - Spr.re s t cur) t _ s y p c lo _ _ _ cur bal _ (by omega) (by omega) (by omega) (Spr.mo_in cur hm) ?_ nn ?_ ?_ ?_
    · rw [e]
      have : Spr.sho s t + Spr.de s t - Spr.su s t = s - t := by
        unfold Spr.sho Spr.de Spr.su
        repeat' split
        all_goals omega
      omega
    · unfold Spr.sho Spr.de Spr.su
      repeat' split
      all_goals omega
    · unfold Spr.re
      split
      · rename_i hc; exact .inr ⟨rfl, hc.2, by omega⟩
      · exact .inl rfl
    · unfold Spr.de
      repeat' split
      all_goals omega
  · simp only [if_neg h]
    rw [if_neg (by decide)]

end Go.Proofs.Ytjeghhheenenbaa.Pure
