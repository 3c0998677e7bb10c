-- Written by a program of this session out of the translation of the seat: Lean functions and the proofs that the Go functions come to them.
import Derived.Test.YtmkfbaoglmmhjaaM
/-! Interest of months, and level payments: plain arithmetic. -/
namespace Go.Proofs.Ytmkfbaoglmmhjaa.P.M
open Go Go.RowKit Go.Proofs.YtmkfbaoglmmhjaaW.PrintWords Go.Proofs.YtmkfbaoglmmhjaaW.PrintLast Go.Proofs.YtmkfbaoglmmhjaaW.PrintMore
set_option linter.unusedVariables false
set_option linter.unusedSimpArgs false

def may (b r : Int) : Prop := 0 ≤ b ∧ b ≤ 10000000000000 ∧ 0 ≤ r ∧ r ≤ 300000
instance (b r : Int) : Decidable (may b r) := inferInstanceAs (Decidable (_ ∧ _))
/-- a month's interest -/
def month (b r : Int) : Int := quo (b * r) 12000000 4
theorem quo4 (n c : Int) (hc : 0 < c) : quo n c 4 = n / c + (if 2 * (n % c) > c ∨ 2 * (n % c) = c ∧ (n / c) % 2 = 1 then 1 else 0) := by
  have r0 := Int.emod_nonneg n (show c ≠ 0 by omega)
  unfold quo
  simp only [if_neg (show ¬ c < 0 by omega)]
  generalize n % c = r at *
  generalize n / c = q at *
  by_cases hr : r = 0
  · rw [if_pos (.inl hr), if_neg (by omega)]; omega
  · rw [if_neg (show ¬ (r = 0 ∨ (4 : Int) = 1) by omega), if_neg (show ¬ (4 : Int) = 2 by decide)]
    by_cases h1 : 2 * r < c
    · rw [if_pos h1, if_neg (by omega)]; omega
    · rw [if_neg h1]
      by_cases h2 : 2 * r > c
      · rw [if_pos h2, if_pos (.inl h2)]
      · rw [if_neg h2]
        by_cases h3 : q % 2 = 0
        · rw [if_pos (.inl ⟨trivial, h3⟩), if_neg (by omega)]; omega
        · rw [if_neg (show ¬ (True ∧ q % 2 = 0 ∨ (4 : Int) = 3 ∧ n < 0) by omega), if_pos (by omega)]
theorem quo4_mono {n m c : Int} (hc : 0 < c) (h : n ≤ m) : quo n c 4 ≤ quo m c 4 := by
  rw [quo4 n c hc, quo4 m c hc]
  have hd := Int.ediv_le_ediv hc h
  have e1 := Int.emod_def n c
  have e2 := Int.emod_def m c
  rcases Int.lt_or_eq_of_le hd with hlt | heq
  · split <;> split <;> omega
  · rw [heq] at e1 ⊢
    generalize c * (m / c) = p at *
    generalize m / c = q at *
    generalize n % c = r at *
    generalize m % c = s at *
    split <;> split <;> omega
theorem quo4_nonneg {n c : Int} (hc : 0 < c) (h : 0 ≤ n) : 0 ≤ quo n c 4 := by
  rw [quo4 n c hc]
  have := Int.ediv_nonneg h (show 0 ≤ c by omega)
  split <;> omega
theorem prod_bd {b r : Int} (h : may b r) : 0 ≤ b * r ∧ b * r ≤ b * 300000 ∧ b * r ≤ 3000000000000000000 := by
  obtain ⟨h0, h1, h2, h3⟩ := h
  have a := Int.mul_nonneg h0 h2
  have b' := Int.mul_le_mul_of_nonneg_left h3 h0
  omega
theorem month_nonneg {b r : Int} (h : may b r) : 0 ≤ month b r := quo4_nonneg (by decide) (prod_bd h).1
theorem month_le {b r : Int} (h : may b r) : month b r ≤ b := by
  have hp := prod_bd h
  unfold month
  rw [quo4 _ _ (by decide)]
  have := h.1
  split <;> omega
theorem month_mono {a b r : Int} (h : a ≤ b) (hr : 0 ≤ r) : month a r ≤ month b r := quo4_mono (by decide) (Int.mul_le_mul_of_nonneg_right h hr)
theorem month_zero (r : Int) : month 0 r = 0 := by unfold month; rw [Int.zero_mul]; rfl
/-- the next balance -/
def next (b r p : Int) : Int := if p < b + month b r then b + month b r - p else 0
theorem next_nonneg (b r p : Int) : 0 ≤ next b r p := by unfold next; split <;> omega
theorem next_mono {a b r p q : Int} (h : a ≤ b) (hr : 0 ≤ r) (hp : q ≤ p) : next a r p ≤ next b r q := by
  have := month_mono h hr
  unfold next
  split <;> split <;> omega
/-- what is left behind so many months; none: a balance is too great -/
def left : Nat → Int → Int → Int → Option Int
  | 0, b, _, _ => some b
  | n + 1, b, r, p => if next b r p > 10000000000000 then none else left n (next b r p) r p
/-- what is left, told with an error; told with a Bool -/
def tell3 : Option Int → Int × Option Int
  | some v => (v, none)
  | none => (0, some 3)
def tellB : Option Int → Int × Bool
  | some v => (v, true)
  | none => (0, false)
theorem left_bd : ∀ (n : Nat) {b r p v : Int}, may b r → left n b r p = some v → may v r
  | 0, b, r, p, v, h, e => by
    simp only [left] at e
    injection e with e
    exact e ▸ h
  | n + 1, b, r, p, v, h, e => by
    simp only [left] at e
    split at e
    · cases e
    · exact left_bd n ⟨next_nonneg _ _ _, by omega, h.2.2.1, h.2.2.2⟩ e
theorem left_mono : ∀ (n : Nat) {a b r p q v : Int}, a ≤ b → 0 ≤ r → q ≤ p → left n b r q = some v → ∃ u, left n a r p = some u ∧ u ≤ v
  | 0, a, b, r, p, q, v, h, hr, hp, e => by
    simp only [left] at e ⊢
    injection e with e
    exact ⟨a, rfl, by omega⟩
  | n + 1, a, b, r, p, q, v, h, hr, hp, e => by
    have hn := next_mono (p := p) (q := q) h hr hp
    simp only [left] at e ⊢
    split at e
    · cases e
    · rw [if_neg (by omega)]
      exact left_mono n hn hr hp e
theorem left_add : ∀ (n m : Nat) (b r p : Int), left (n + m) b r p = (left n b r p).bind fun v => left m v r p
  | 0, m, b, r, p => by simp [left]
  | n + 1, m, b, r, p => by
    rw [Nat.succ_add]
    simp only [left]
    split
    · rfl
    · exact left_add n m _ r p
theorem left_zero : ∀ (n : Nat) {r p : Int}, 0 ≤ p → left n 0 r p = some 0
  | 0, r, p, h => rfl
  | n + 1, r, p, h => by
    have : next 0 r p = 0 := by unfold next; rw [month_zero]; split <;> omega
    simp only [left, this]
    rw [if_neg (by decide)]
    exact left_zero n h
/-- is nothing left behind so many months? -/
def pays (n : Nat) (b r p : Int) : Bool := left n b r p == some 0
theorem pays_iff (n : Nat) (b r p : Int) : pays n b r p = true ↔ left n b r p = some 0 := by unfold pays; simp
theorem pays_mono {n : Nat} {b r p q : Int} (h : may b r) (hp : p ≤ q) (e : pays n b r p = true) : pays n b r q = true := by
  rw [pays_iff] at *
  obtain ⟨u, hu, hle⟩ := left_mono n (Int.le_refl b) h.2.2.1 hp e
  have := (left_bd n h hu).1
  rw [hu]
  congr 1
  omega
theorem pays_all {n : Nat} {b r : Int} (h : may b r) : pays (n + 1) b r (2 * b) = true := by
  rw [pays_iff]
  have : next b r (2 * b) = 0 := by
    have := month_le h
    unfold next
    rw [if_neg (by omega)]
  simp only [left, this]
  rw [if_neg (by decide)]
  exact left_zero n (by have := h.1; omega)
/-- the least number from lo to hi of which P holds, by halves -/
def halve (P : Int → Bool) : Nat → Int → Int → Int
  | 0, lo, _ => lo
  | n + 1, lo, hi => if lo < hi then (if P (lo + (hi - lo) / 2) = true then halve P n lo (lo + (hi - lo) / 2) else halve P n (lo + (hi - lo) / 2 + 1) hi) else lo
theorem halve_spec (P : Int → Bool) (hP : ∀ p q, p ≤ q → P p = true → P q = true) : ∀ (n : Nat) (lo hi : Int), lo ≤ hi → hi - lo < 2 ^ n → P hi = true →
    lo ≤ halve P n lo hi ∧ halve P n lo hi ≤ hi ∧ P (halve P n lo hi) = true ∧ ∀ q, lo ≤ q → q < halve P n lo hi → P q = false
  | 0, lo, hi, h, hn, hh => by
    have : lo = hi := by simp at hn; omega
    subst this
    simp only [halve]
    exact ⟨Int.le_refl _, Int.le_refl _, hh, fun q h1 h2 => by omega⟩
  | n + 1, lo, hi, h, hn, hh => by
    simp only [halve]
    have hn' : (2 : Int) ^ (n + 1) = 2 * 2 ^ n := by rw [Int.pow_succ]; omega
    rw [hn'] at hn
    skip
    split
    · rename_i hlt
      split
      · rename_i hp
        obtain ⟨a, b, c, d⟩ := halve_spec P hP n lo (lo + (hi - lo) / 2) (by omega) (by omega) hp
        exact ⟨a, by omega, c, d⟩
      · rename_i hp
        obtain ⟨a, b, c, d⟩ := halve_spec P hP n (lo + (hi - lo) / 2 + 1) hi (by omega) (by omega) hh
        refine ⟨by omega, b, c, fun q h1 h2 => ?_⟩
        rcases Int.lt_or_le q (lo + (hi - lo) / 2 + 1) with hq | hq
        · cases e : P q with
          | false => rfl
          | true => exact absurd (hP q (lo + (hi - lo) / 2) (by omega) e) hp
        · exact d q hq h2
    · have : lo = hi := by omega
      subst this
      exact ⟨Int.le_refl _, Int.le_refl _, hh, fun q h1 h2 => by omega⟩
/-- the least payment that leaves nothing -/
def level (n : Nat) (b r : Int) : Int := halve (pays n b r) 64 0 (2 * b)
theorem level_spec {n : Nat} {b r : Int} (h : may b r) : 0 ≤ level (n + 1) b r ∧ level (n + 1) b r ≤ 2 * b ∧ pays (n + 1) b r (level (n + 1) b r) = true ∧ ∀ q, 0 ≤ q → q < level (n + 1) b r → pays (n + 1) b r q = false := by
  have h0 := h.1
  have h1 := h.2.1
  have hk : (2 : Int) ^ 64 = 18446744073709551616 := by decide
  exact halve_spec _ (fun p q hpq e => pays_mono h hpq e) 64 0 (2 * b) (by omega) (by rw [hk]; omega) (pays_all h)
/-- how a month's interest is shared: net, fee, guaranty -/
def stripOk (b r f g : Int) : Prop := may b r ∧ 0 ≤ f ∧ 0 ≤ g ∧ f + g ≤ r
instance (b r f g : Int) : Decidable (stripOk b r f g) := inferInstanceAs (Decidable (_ ∧ _))
def least (a b : Int) : Int := if a ≤ b then a else b
def fee (b r f : Int) : Int := least (month b f) (month b r)
def guar (b r f g : Int) : Int := least (month b g) (month b r - fee b r f)
def net (b r f g : Int) : Int := month b r - fee b r f - guar b r f g
theorem strip_bd {b r f g : Int} (h : stripOk b r f g) : 0 ≤ fee b r f ∧ 0 ≤ guar b r f g ∧ 0 ≤ net b r f g ∧ net b r f g + fee b r f + guar b r f g = month b r ∧ month b r ≤ b ∧ b ≤ 10000000000000 := by
  have h1 := month_nonneg (b := b) (r := f) ⟨h.1.1, h.1.2.1, h.2.1, by have := h.1.2.2.2; have := h.2.2.1; have := h.2.2.2; omega⟩
  have h2 := month_nonneg (b := b) (r := g) ⟨h.1.1, h.1.2.1, h.2.2.1, by have := h.1.2.2.2; have := h.2.1; have := h.2.2.2; omega⟩
  have h3 := month_nonneg h.1
  have h4 := month_le h.1
  have h5 := h.1.2.1
  have hf : 0 ≤ fee b r f ∧ fee b r f ≤ month b r := by unfold fee least; split <;> omega
  have hg : 0 ≤ guar b r f g ∧ guar b r f g ≤ month b r - fee b r f := by unfold guar least; split <;> omega
  unfold net
  omega
/-- how what was collected is shared -/
def cutOk (i f g a : Int) : Prop := 0 ≤ i ∧ i ≤ a ∧ 0 ≤ f ∧ 0 ≤ g ∧ f + g ≤ a ∧ a ≤ 10000000000000
instance (i f g a : Int) : Decidable (cutOk i f g a) := inferInstanceAs (Decidable (_ ∧ _))
theorem quo_down {n c : Int} (hc : 0 < c) : quo n c 1 = n / c := by
  unfold quo
  simp only [if_neg (show ¬ c < 0 by omega)]
  rw [if_pos (.inr trivial)]
/-- a share of what was collected: no more than of all, none below 0 -/
theorem cut_part {i f a : Int} (hi : 0 ≤ i) (ha : i ≤ a) (hf : 0 ≤ f) (h0 : 0 < a) : 0 ≤ f * i / a ∧ f * i / a ≤ f := by
  have h1 := Int.mul_nonneg hf hi
  have h2 := Int.mul_le_mul_of_nonneg_left ha hf
  refine ⟨Int.ediv_nonneg h1 (by omega), ?_⟩
  have := Int.ediv_le_ediv h0 h2
  rw [Int.mul_ediv_cancel f (by omega)] at this
  exact this
theorem cut_sum {i f g a : Int} (h : cutOk i f g a) (h0 : 0 < a) : f * i / a + g * i / a ≤ i := by
  obtain ⟨p1, p2, p3, p4, p5, p6⟩ := h
  have e1 : f * i / a * a ≤ f * i := Int.ediv_mul_le _ (by omega)
  have e2 : g * i / a * a ≤ g * i := Int.ediv_mul_le _ (by omega)
  have e3 : (f + g) * i ≤ a * i := Int.mul_le_mul_of_nonneg_right p5 p1
  rw [Int.add_mul] at e3
  have e4 : (f * i / a + g * i / a) * a ≤ i * a := by rw [Int.add_mul, Int.mul_comm i a]; omega
  exact Int.le_of_mul_le_mul_right e4 h0
theorem cut_whole {f a : Int} (h0 : 0 < a) : f * a / a = f := Int.mul_ediv_cancel f (by omega)
/-- the interest of days -/
def accrOk (b r d : Int) : Prop := may b r ∧ 0 ≤ d ∧ d ≤ 40000
instance (b r d : Int) : Decidable (accrOk b r d) := inferInstanceAs (Decidable (_ ∧ _))
def accr (b r d : Int) (mo : Bool) : Int := quo (b * (r * d)) (if mo = true then 360000000 else 365000000) 4
theorem accr_prod {b r d : Int} (h : accrOk b r d) : 0 ≤ r * d ∧ r * d ≤ 12000000000 ∧ 0 ≤ b * (r * d) ∧ b * (r * d) ≤ 120000000000000000000000 := by
  obtain ⟨⟨h0, h1, h2, h3⟩, h4, h5⟩ := h
  have a := Int.mul_nonneg h2 h4
  have b' := Int.mul_le_mul h3 h5 h4 (show (0 : Int) ≤ 300000 by decide)
  have c := Int.mul_nonneg h0 a
  have d' := Int.mul_le_mul h1 b' a (show (0 : Int) ≤ 10000000000000 by decide)
  omega
theorem accr_bd {b r d : Int} {mo : Bool} (h : accrOk b r d) : 0 ≤ accr b r d mo ∧ accr b r d mo ≤ 400000000000000 := by
  have hp := accr_prod h
  unfold accr
  constructor
  · exact quo4_nonneg (by split <;> decide) hp.2.2.1
  · rw [quo4 _ _ (by split <;> decide)]
    cases mo
    · simp only [Bool.false_eq_true, if_false]
      split <;> omega
    · simp only [if_true]
      split <;> omega
theorem quo4_scale {n c s : Int} (hc : 0 < c) (hs : 0 < s) : quo (n * s) (c * s) 4 = quo n c 4 := by
  rw [quo4 _ _ (Int.mul_pos hc hs), quo4 _ _ hc, Int.mul_ediv_mul_of_pos_left n c hs, Int.mul_comm n s, Int.mul_comm c s, Int.mul_emod_mul_of_pos n c hs]
  have e1 : 2 * (s * (n % c)) > s * c ↔ 2 * (n % c) > c := by
    rw [Int.mul_left_comm]
    constructor
    · intro h; exact Int.lt_of_mul_lt_mul_left h (by omega)
    · intro h; exact Int.mul_lt_mul_of_pos_left h hs
  have e2 : 2 * (s * (n % c)) = s * c ↔ 2 * (n % c) = c := by
    rw [Int.mul_left_comm]
    constructor
    · intro h; exact Int.eq_of_mul_eq_mul_left (by omega) h
    · intro h; rw [h]
  simp only [e1, e2]
theorem accr_month (b r : Int) : accr b r 30 true = month b r := by
  unfold accr month
  simp only [if_true]
  rw [← quo4_scale (n := b * r) (c := 12000000) (s := 30) (by decide) (by decide), Int.mul_assoc]
  rfl
theorem accr_zero (b r : Int) (mo : Bool) : accr b r 0 mo = 0 := by
  unfold accr
  rw [Int.mul_zero, Int.mul_zero]
  cases mo <;> rfl
theorem accr_mono {b r d e : Int} (mo : Bool) (h : accrOk b r d) (hde : d ≤ e) : accr b r d mo ≤ accr b r e mo := by
  unfold accr
  exact quo4_mono (by split <;> decide) (Int.mul_le_mul_of_nonneg_left (Int.mul_le_mul_of_nonneg_left hde h.1.2.2.1) h.1.1)
end Go.Proofs.Ytmkfbaoglmmhjaa.P.M
