-- Written by a program of this session out of the translation of the seat: Lean functions and the proofs that the Go functions come to them.
import Derived.Test.YtmkfbaoglmmhjaaT
/-! When an insurance ends: plain lists. -/
namespace Go.Proofs.Ytmkfbaoglmmhjaa.P.M
open Go Go.RowKit Go.Proofs.YtmkfbaoglmmhjaaW.PrintWords Go.Proofs.YtmkfbaoglmmhjaaW.PrintLast Go.Proofs.YtmkfbaoglmmhjaaW.PrintMore
set_option linter.unusedVariables false
set_option linter.unusedSimpArgs false

/-- behind how many of them the first is no more than so much; all, where none is -/
def behind (most : Int) : List Int → Int
  | [] => 0
  | x :: xs => if x ≤ most then 1 else 1 + behind most xs
theorem behind_bd (most : Int) : ∀ L : List Int, 0 ≤ behind most L ∧ behind most L ≤ L.length
  | [] => by simp [behind]
  | x :: xs => by
    have := behind_bd most xs
    simp only [behind, List.length_cons]
    split <;> omega
theorem behind_mono {a b : Int} (h : a ≤ b) : ∀ L : List Int, behind b L ≤ behind a L
  | [] => by simp [behind]
  | x :: xs => by
    have := behind_mono h xs
    have := behind_bd a xs
    simp only [behind]
    split <;> split <;> omega
def found (most : Int) (L : List Int) : Bool := L.any fun x => decide (x ≤ most)
def within (L : List Int) : Bool := L.all fun x => decide (0 ≤ x ∧ x ≤ 10000000000000)
/-- what is left behind each instalment of a plan -/
def lefts (b r m f : Int) : List Int := (plan m.toNat 0 b r (level m.toNat b r) f).map fun x => x.2.2.2
theorem plan_lefts : ∀ (k : Nat) (n l r p f : Int), may l r → left k l r p = some 0 → within ((plan k n l r p f).map fun x => x.2.2.2) = true ∧ (0 < l → ∀ most, 0 ≤ most → found most ((plan k n l r p f).map fun x => x.2.2.2) = true)
  | 0, n, l, r, p, f, h, e => by
    simp only [left] at e
    injection e with e
    exact ⟨rfl, fun h0 => by omega⟩
  | k + 1, n, l, r, p, f, h, e => by
    obtain ⟨a1, a2, a3⟩ := pays_next h e
    obtain ⟨b1, b2⟩ := plan_lefts k (n + 1) (next l r p) r p f a2 a3
    have b0 := next_nonneg l r p
    simp only [plan]
    by_cases hl : l > 0
    · rw [if_pos hl, List.map_cons]
      refine ⟨?_, fun _ most hm => ?_⟩
      · unfold within at b1 ⊢
        rw [List.all_cons, b1, Bool.and_true]
        exact decide_eq_true ⟨b0, a1⟩
      · unfold found at b2 ⊢
        rw [List.any_cons]
        by_cases h0 : 0 < next l r p
        · rw [b2 h0 most hm, Bool.or_true]
        · rw [decide_eq_true (show next l r p ≤ most by omega), Bool.true_or]
    · rw [if_neg hl]
      exact ⟨rfl, fun h0 => absurd h0 hl⟩
theorem terms_may {b r m f e i w fe g : Int} (hok : termsOk b r m f e i w fe g) : may b r ∧ 1 ≤ b ∧ 1 ≤ m ∧ m ≤ 480 ∧ 0 ≤ level m.toNat b r ∧ level m.toNat b r ≤ 2 * b ∧ left m.toNat b r (level m.toNat b r) = some 0 ∧ ∀ q, 0 ≤ q → q < level m.toNat b r → pays m.toNat b r q = false := by
  have a := hok.2.1
  unfold moneyOk at a
  have hm := hok.2.2.1
  have hm' := hok.2.2.2.1
  have hl : may b r := ⟨by omega, by omega, by omega, by omega⟩
  obtain ⟨c, hc⟩ : ∃ c, m.toNat = c + 1 := ⟨m.toNat - 1, by omega⟩
  have s := level_spec (n := c) hl
  rw [← hc] at s
  exact ⟨hl, by omega, hm, hm', s.1, s.2.1, (pays_iff _ _ _ _).mp s.2.2.1, s.2.2.2⟩
theorem lefts_ok {b r m f e i w fe g : Int} (hok : termsOk b r m f e i w fe g) : within (lefts b r m f) = true ∧ (∀ most, 0 ≤ most → found most (lefts b r m f) = true) ∧ (lefts b r m f).length ≤ 480 ∧ ((lefts b r m f).length : Int) ≤ m := by
  obtain ⟨h1, h2, h3, h4, h5, h6, h7, _⟩ := terms_may hok
  obtain ⟨a, c⟩ := plan_lefts m.toNat 0 b r (level m.toNat b r) f h1 h7
  have := plan_len m.toNat 0 b r (level m.toNat b r) f
  refine ⟨a, c (by omega), ?_, ?_⟩
  · unfold lefts; rw [List.length_map]; omega
  · unfold lefts; rw [List.length_map]; omega
/-- behind how many instalments no more than so many hundredths of a value are left -/
def ends (b r m f v h : Int) : Int := if b ≤ v * h / 100 then 0 else behind (v * h / 100) (lefts b r m f)
theorem ends_bd {b r m f e i w fe g : Int} (hok : termsOk b r m f e i w fe g) (v h : Int) : 0 ≤ ends b r m f v h ∧ ends b r m f v h ≤ m := by
  have a := lefts_ok hok
  have c := behind_bd (v * h / 100) (lefts b r m f)
  have d := (terms_may hok).2.2.1
  unfold ends
  split <;> omega
theorem ends_mono {b r m f v h v' h' : Int} (le : v * h / 100 ≤ v' * h' / 100) : ends b r m f v' h' ≤ ends b r m f v h := by
  have a := behind_mono le (lefts b r m f)
  have c := behind_bd (v * h / 100) (lefts b r m f)
  have c' := behind_bd (v' * h' / 100) (lefts b r m f)
  unfold ends
  split <;> split <;> omega
def valueOk (v : Int) : Prop := 1 ≤ v ∧ v ≤ 10000000000000
instance (v : Int) : Decidable (valueOk v) := inferInstanceAs (Decidable (_ ∧ _))
/-- is the day of the n-th instalment not behind a day? -/
def pas (f n day : Int) : Bool := decide (n = 0 ∨ due f (n - 1) ≤ day)
theorem pas_mono {f n d d' : Int} (h : d ≤ d') (e : pas f n d = true) : pas f n d' = true := by
  unfold pas at e ⊢
  simp only [decide_eq_true_eq] at e ⊢
  omega
def off (b r m f v : Int) (asked cur : Bool) (day : Int) : Bool := asked && pas f (ends b r m f v 80) day || cur && pas f (ends b r m f v 78) day || pas f ((m + 1) / 2) day
end Go.Proofs.Ytmkfbaoglmmhjaa.P.M
