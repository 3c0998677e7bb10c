-- Written by a program of this session out of the translation of the seat: Lean functions and the proofs that the Go functions come to them.
import Derived.Test.YtmkfbaoglmmhjaaR
import Derived.Test.YtmkfbaoglmmhjaaD
/-! What a loan is agreed on, and how it is paid off: plain arithmetic and lists. -/
namespace Go.Proofs.Ytmkfbaoglmmhjaa.P.M
open Go Go.RowKit Go.Proofs.YtmkfbaoglmmhjaaW.PrintWords Go.Proofs.YtmkfbaoglmmhjaaW.PrintLast Go.Proofs.YtmkfbaoglmmhjaaW.PrintMore
set_option linter.unusedVariables false
set_option linter.unusedSimpArgs false

theorem and_if (p q : Prop) [Decidable p] [Decidable q] : (if p then some (decide q) else some false) = some (decide (p ∧ q)) := by
  by_cases hp : p <;> simp [hp]
/-- is a number's day the first of a month? -/
def firstOk (f : Int) : Prop := -25567 ≤ f ∧ f ≤ 84005 ∧ dy f = 1
instance (f : Int) : Decidable (firstOk f) := inferInstanceAs (Decidable (_ ∧ _))
def moneyOk (b r e fe g : Int) : Prop := 1 ≤ b ∧ b ≤ 10000000000000 ∧ 0 ≤ e ∧ e ≤ 10000000000000 ∧ 0 ≤ r ∧ r ≤ 300000 ∧ 0 ≤ fe ∧ 0 ≤ g ∧ fe + g ≤ r
instance (b r e fe g : Int) : Decidable (moneyOk b r e fe g) := inferInstanceAs (Decidable (_ ∧ _))
/-- the month of a first day -/
def m0 (f : Int) : Int := mt (yr f) (mo f)
/-- may terms be? -/
def termsOk (b r m f e i w fe g : Int) : Prop := firstOk f ∧ moneyOk b r e fe g ∧ 1 ≤ m ∧ m ≤ 480 ∧ 1 ≤ i ∧ i ≤ 64 ∧ 1 ≤ w ∧ w ≤ 3 ∧ inYears (m0 f + m)
instance (b r m f e i w fe g : Int) : Decidable (termsOk b r m f e i w fe g) := inferInstanceAs (Decidable (_ ∧ _))
theorem first_date {f : Int} (h : firstOk f) : date (yr f) (mo f) 1 ∧ civ (yr f) (mo f) 1 = f ∧ inYears (m0 f) ∧ F (m0 f) = f := by
  obtain ⟨a, b⟩ := dateOf h.1 h.2.1
  rw [h.2.2] at a b
  have c := date_in a
  have d := F_date (y := yr f) (m := mo f) (by omega)
  refine ⟨a, b, ?_, ?_⟩
  · unfold m0 mt inYears; omega
  · unfold m0 mt; rw [d.1]; exact b
/-- the n-th month's first day -/
theorem month_date {f n : Int} (hn : inYears (m0 f + n)) : date ((m0 f + n) / 12) ((m0 f + n) % 12 + 1) 1 ∧ civ ((m0 f + n) / 12) ((m0 f + n) % 12 + 1) 1 = F (m0 f + n) ∧ cut 1 (len (m0 f + n)) = 1 := by
  have hl := len_pos hn
  refine ⟨⟨by decide, ?_⟩, rfl, ?_⟩
  · unfold len at hl; omega
  · unfold cut; rw [if_pos (by omega)]
theorem F_bd {t : Int} (h : inYears t) : -25567 ≤ F t ∧ F t ≤ 84005 := by
  have hl := len_pos h
  have : date (t / 12) (t % 12 + 1) 1 := ⟨by decide, by unfold len at hl; omega⟩
  exact civ_bd this
/-- the day's number of the n-th instalment -/
def due (f n : Int) : Int := F (m0 f + n)
/-- a plan, month by month: due, interest, principal, left -/
def plan : Nat → Int → Int → Int → Int → Int → List (Int × Int × Int × Int)
  | 0, _, _, _, _, _ => []
  | k + 1, n, l, r, p, f => if l > 0 then (due f n, month l r, l - next l r p, next l r p) :: plan k (n + 1) (next l r p) r p f else []
/-- what a payment that pays off does: no balance is too great, the principals are the balance -/
theorem pays_next {k : Nat} {l r p : Int} (h : may l r) (e : left (k + 1) l r p = some 0) : next l r p ≤ 10000000000000 ∧ may (next l r p) r ∧ left k (next l r p) r p = some 0 := by
  simp only [left] at e
  split at e
  · cases e
  · exact ⟨by omega, ⟨next_nonneg _ _ _, by omega, h.2.2.1, h.2.2.2⟩, e⟩
theorem plan_len : ∀ (k : Nat) (n l r p f : Int), (plan k n l r p f).length ≤ k
  | 0, _, _, _, _, _ => by simp [plan]
  | k + 1, n, l, r, p, f => by
    simp only [plan]
    split
    · simp only [List.length_cons]; have := plan_len k (n + 1) (next l r p) r p f; omega
    · simp
/-- where a payment doesn't pay the interest, it never pays -/
theorem stuck : ∀ (k : Nat) {l r p : Int}, may l r → 0 < l → p ≤ month l r → left k l r p ≠ some 0
  | 0, l, r, p, h, h0, hp => by simp only [left]; intro e; injection e with e; omega
  | k + 1, l, r, p, h, h0, hp => by
    intro e
    obtain ⟨a, b, c⟩ := pays_next h e
    have hn : next l r p = l + month l r - p := by unfold next; rw [if_pos (by omega)]
    have hm : month l r ≤ month (next l r p) r := month_mono (by omega) h.2.2.1
    exact stuck k b (by omega) (by omega) c
end Go.Proofs.Ytmkfbaoglmmhjaa.P.M
