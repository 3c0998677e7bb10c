-- Written by a program of this session out of the translation of the seat: Lean functions and the proofs that the Go functions come to them.
import Derived.Test.YtbbhdlbpefibeaaGreatDoorM
/-! Days of the calendar: plain arithmetic. -/
namespace Go.Proofs.YtbbhdlbpefibeaaGreatDoor.P.M
open Go Go.RowKit Go.Proofs.YtbbhdlbpefibeaaGreatDoorW.PrintWords Go.Proofs.YtbbhdlbpefibeaaGreatDoorW.PrintLast Go.Proofs.YtbbhdlbpefibeaaGreatDoorW.PrintMore
set_option linter.unusedVariables false
set_option linter.unusedSimpArgs false

def leap (y : Int) : Bool := decide ((y % 4 = 0 ∧ y % 100 ≠ 0) ∨ y % 400 = 0)
/-- how many days a month has; 0: there is none -/
def days (y m : Int) : Int := if 1900 ≤ y ∧ y ≤ 2199 ∧ 1 ≤ m ∧ m ≤ 12 then (if m = 2 then (if leap y = true then 29 else 28) else if m = 4 ∨ m = 6 ∨ m = 9 ∨ m = 11 then 30 else 31) else 0
def date (y m d : Int) : Prop := 1 ≤ d ∧ d ≤ days y m
instance (y m d : Int) : Decidable (date y m d) := inferInstanceAs (Decidable (_ ∧ _))
theorem days_bd (y m : Int) : days y m = 0 ∨ 28 ≤ days y m ∧ days y m ≤ 31 ∧ 1900 ≤ y ∧ y ≤ 2199 ∧ 1 ≤ m ∧ m ≤ 12 := by
  unfold days
  split
  · rename_i h
    right
    repeat' split
    all_goals omega
  · exact .inl rfl
theorem date_in {y m d : Int} (h : date y m d) : 1900 ≤ y ∧ y ≤ 2199 ∧ 1 ≤ m ∧ m ≤ 12 ∧ 1 ≤ d ∧ d ≤ 31 ∧ d ≤ days y m := by
  have := days_bd y m
  unfold date at h
  omega
theorem days_pos {y m : Int} (h : 1900 ≤ y ∧ y ≤ 2199 ∧ 1 ≤ m ∧ m ≤ 12) : 28 ≤ days y m ∧ days y m ≤ 31 := by
  unfold days
  rw [if_pos h]
  repeat' split
  all_goals omega
/-- the number of a day, by years that begin in March -/
def civ (y m d : Int) : Int :=
  if m ≤ 2 then (y - 1) / 400 * 146097 + (y - 1) % 400 * 365 + (y - 1) % 400 / 4 - (y - 1) % 400 / 100 + (153 * (m + 12 - 3) + 2) / 5 + d - 1 - 719468
  else y / 400 * 146097 + y % 400 * 365 + y % 400 / 4 - y % 400 / 100 + (153 * (m - 3) + 2) / 5 + d - 1 - 719468
theorem civ_day (y m d : Int) : civ y m d = civ y m 1 + (d - 1) := by unfold civ; split <;> omega
theorem days_feb {y : Int} (h : 1900 ≤ y ∧ y ≤ 2199) : days y 2 = if leap y = true then 29 else 28 := by unfold days; rw [if_pos (by omega), if_pos rfl]
theorem leap_days {y : Int} (h : 1900 ≤ y ∧ y ≤ 2199) : days y 2 = 28 + (y / 400 * 146097 + y % 400 * 365 + y % 400 / 4 - y % 400 / 100) - ((y - 1) / 400 * 146097 + (y - 1) % 400 * 365 + (y - 1) % 400 / 4 - (y - 1) % 400 / 100) - 365 := by
  rw [days_feb h]
  unfold leap
  simp only [decide_eq_true_eq]
  split <;> omega
theorem civ_next {y m : Int} (h : 1900 ≤ y ∧ y ≤ 2199) (hm : 1 ≤ m ∧ m ≤ 11) : civ y (m + 1) 1 = civ y m 1 + days y m := by
  have hc : m = 1 ∨ m = 2 ∨ m = 3 ∨ m = 4 ∨ m = 5 ∨ m = 6 ∨ m = 7 ∨ m = 8 ∨ m = 9 ∨ m = 10 ∨ m = 11 := by omega
  have hl := leap_days h
  rcases hc with rfl | rfl | rfl | rfl | rfl | rfl | rfl | rfl | rfl | rfl | rfl
  case inr.inl =>
    rw [hl]
    unfold civ
    rw [if_neg (by decide), if_pos (by decide)]
    omega
  all_goals
    unfold civ days
    rw [if_pos (show 1900 ≤ y ∧ y ≤ 2199 ∧ _ by omega), if_neg (show ¬ ((_ : Int) = 2) by decide)]
    first
      | (rw [if_pos (by decide), if_pos (by decide), if_neg (by decide)]; omega)
      | (rw [if_neg (by decide), if_neg (by decide), if_neg (by decide)]; omega)
      | (rw [if_neg (by decide), if_neg (by decide), if_pos (by decide)]; omega)
theorem civ_year {y : Int} : civ (y + 1) 1 1 = civ y 12 1 + 31 := by
  unfold civ
  rw [if_pos (by decide), if_neg (by decide)]
  omega
theorem civ_ylen {y : Int} (h : 1900 ≤ y ∧ y ≤ 2199) : civ (y + 1) 1 1 = civ y 1 1 + (337 + days y 2) := by
  have hl := leap_days h
  rw [hl]
  unfold civ
  rw [if_pos (by decide), if_pos (by decide)]
  omega
/-- the first day of the t-th month -/
def F (t : Int) : Int := civ (t / 12) (t % 12 + 1) 1
def len (t : Int) : Int := days (t / 12) (t % 12 + 1)
theorem F_succ {t : Int} (h : 22800 ≤ t ∧ t ≤ 26399) : F (t + 1) = F t + len t := by
  unfold F len
  by_cases h11 : t % 12 = 11
  · rw [show (t + 1) / 12 = t / 12 + 1 by omega, show (t + 1) % 12 + 1 = 1 by omega, h11, civ_year]
    have : days (t / 12) (11 + 1) = 31 := by
      unfold days
      rw [if_pos (by omega), if_neg (by decide), if_neg (by decide)]
    rw [this]
    rfl
  · rw [show (t + 1) / 12 = t / 12 by omega, show (t + 1) % 12 = t % 12 + 1 by omega]
    exact civ_next (by omega) (by omega)
theorem len_pos {t : Int} (h : 22800 ≤ t ∧ t ≤ 26399) : 28 ≤ len t ∧ len t ≤ 31 := days_pos (by omega)
theorem F_lt : ∀ (n : Nat) {s : Int}, 22800 ≤ s → s + n + 1 ≤ 26400 → F s + len s ≤ F (s + n + 1)
  | 0, s, h1, h2 => by
    have := F_succ (t := s) (by omega)
    rw [show s + (0 : Nat) + 1 = s + 1 by omega]
    omega
  | n + 1, s, h1, h2 => by
    have i := F_lt n (s := s) h1 (by omega)
    have j := F_succ (t := s + n + 1) (by omega)
    have k := len_pos (t := s + n + 1) (by omega)
    rw [show s + ((n + 1 : Nat) : Int) + 1 = s + n + 1 + 1 by omega]
    omega
theorem F_mono {s t : Int} (h1 : 22800 ≤ s) (h : s < t) (h2 : t ≤ 26400) : F s + len s ≤ F t := by
  have := F_lt (t - s - 1).toNat (s := s) h1 (by omega)
  rw [show s + ((t - s - 1).toNat : Int) + 1 = t by omega] at this
  exact this
theorem F_date {y m : Int} (hm : 1 ≤ m ∧ m ≤ 12) : F (12 * y + m - 1) = civ y m 1 ∧ len (12 * y + m - 1) = days y m := by
  unfold F len
  rw [show (12 * y + m - 1) / 12 = y by omega, show (12 * y + m - 1) % 12 + 1 = m by omega]
  exact ⟨rfl, rfl⟩
/-- one number, one date -/
theorem civ_inj {y m d y' m' d' : Int} (h : date y m d) (h' : date y' m' d') (e : civ y m d = civ y' m' d') : y = y' ∧ m = m' ∧ d = d' := by
  have a := date_in h
  have a' := date_in h'
  have f := F_date (y := y) (m := m) (by omega)
  have f' := F_date (y := y') (m := m') (by omega)
  rw [civ_day, civ_day y' m' d'] at e
  rcases Int.lt_trichotomy (12 * y + m - 1) (12 * y' + m' - 1) with hlt | heq | hlt
  · have := F_mono (by omega) hlt (by omega)
    omega
  · have hy : y = y' := by omega
    subst hy
    have hm : m = m' := by omega
    subst hm
    exact ⟨rfl, rfl, by omega⟩
  · have := F_mono (by omega) hlt (by omega)
    omega
theorem civ_bd {y m d : Int} (h : date y m d) : -25567 ≤ civ y m d ∧ civ y m d ≤ 84005 := by
  have a := date_in h
  have f := F_date (y := y) (m := m) (by omega)
  have e0 : F 22800 = -25567 := by decide
  have e1 : F 26400 = 84006 := by decide
  rw [civ_day]
  have l := days_bd y m
  constructor
  · rcases Int.lt_or_eq_of_le (show 22800 ≤ 12 * y + m - 1 by omega) with hlt | heq
    · have := F_mono (Int.le_refl 22800) hlt (by omega)
      have := len_pos (t := 22800) (by decide)
      omega
    · rw [← heq] at f; omega
  · have := F_mono (show 22800 ≤ 12 * y + m - 1 by omega) (show 12 * y + m - 1 < 26400 by omega) (Int.le_refl _)
    omega
/-- a number's date, as the code reckons it -/
def yr0 (n : Int) : Int := ((n + 719468) % 146097 - (n + 719468) % 146097 / 1460 + (n + 719468) % 146097 / 36524 - (n + 719468) % 146097 / 146096) / 365
def dy0 (n : Int) : Int := (n + 719468) % 146097 - (365 * yr0 n + yr0 n / 4 - yr0 n / 100)
def mo0 (n : Int) : Int := (5 * dy0 n + 2) / 153
def yr (n : Int) : Int := if mo0 n + 3 > 12 then (n + 719468) / 146097 * 400 + yr0 n + 1 else (n + 719468) / 146097 * 400 + yr0 n
def mo (n : Int) : Int := if mo0 n + 3 > 12 then mo0 n + 3 - 12 else mo0 n + 3
def dy (n : Int) : Int := dy0 n - (153 * mo0 n + 2) / 5 + 1
/-- the year of an era, out of its day -/
theorem year_of {e Y D q r c s : Int} (hq : Y = 4 * q + r) (hr : 0 ≤ r ∧ r ≤ 3) (hc : Y = 100 * c + s) (hs : 0 ≤ s ∧ s ≤ 99) (hY : 0 ≤ Y ∧ Y ≤ 399) (hD : 0 ≤ D ∧ D ≤ 365)
    (hl : D = 365 → r = 3 ∧ (s ≠ 99 ∨ Y = 399)) (he : e = 365 * Y + q - c + D) : (e - e / 1460 + e / 36524 - e / 146096) / 365 = Y := by
  have h1 : e / 1460 = q ∧ D ≤ 364 ∨ e / 1460 = q + 1 ∧ 269 ≤ D := by omega
  have h2 : e / 36524 = c ∧ (D ≤ 364 ∨ s ≠ 99) ∨ e / 36524 = c + 1 ∧ s = 99 ∧ D = 365 := by omega
  have h3 : e / 146096 = 0 ∧ e ≤ 146095 ∨ e / 146096 = 1 ∧ e = 146096 := by omega
  omega
/-- the code's own way back from a number to its date -/
theorem of_civ_full {y m d : Int} (h : date y m d) : yr (civ y m d) = y ∧ mo (civ y m d) = m ∧ dy (civ y m d) = d ∧ (0 ≤ yr0 (civ y m d) ∧ yr0 (civ y m d) ≤ 400 ∧ 0 ≤ dy0 (civ y m d) ∧ dy0 (civ y m d) ≤ 366 ∧ 0 ≤ mo0 (civ y m d) ∧ mo0 (civ y m d) ≤ 12) := by
  have a := date_in h
  obtain ⟨Y, hY⟩ : ∃ Y, Y = (if m ≤ 2 then y - 1 else y) := ⟨_, rfl⟩
  obtain ⟨M', hM⟩ : ∃ M', M' = (if m ≤ 2 then m + 9 else m - 3) := ⟨_, rfl⟩
  obtain ⟨D, hD⟩ : ∃ D, D = (153 * M' + 2) / 5 + d - 1 := ⟨_, rfl⟩
  have hM' : 0 ≤ M' ∧ M' ≤ 11 := by rw [hM]; split <;> omega
  have hciv : civ y m d = Y / 400 * 146097 + Y % 400 * 365 + Y % 400 / 4 - Y % 400 / 100 + D - 719468 := by
    unfold civ
    rw [hD, hY, hM]
    by_cases h2 : m ≤ 2
    · simp only [if_pos h2]; rw [show m + 12 - 3 = m + 9 by omega]; omega
    · simp only [if_neg h2]; omega
  -- the day of the year that begins in March, and its month
  have hdl : (5 * D + 2) / 153 = M' ∧ 0 ≤ D ∧ D ≤ 365 ∧ (D = 365 → M' = 11 ∧ d = 29) := by
    have hdm : days y m = (if m = 2 then (if leap y = true then 29 else 28) else if m = 4 ∨ m = 6 ∨ m = 9 ∨ m = 11 then 30 else 31) := by unfold days; rw [if_pos (by omega)]
    have a7 : d ≤ days y m := by omega
    rw [hdm] at a7
    have hc : m = 1 ∨ m = 2 ∨ m = 3 ∨ m = 4 ∨ m = 5 ∨ m = 6 ∨ m = 7 ∨ m = 8 ∨ m = 9 ∨ m = 10 ∨ m = 11 ∨ m = 12 := by omega
    rcases hc with rfl | rfl | rfl | rfl | rfl | rfl | rfl | rfl | rfl | rfl | rfl | rfl
    case inr.inl =>
      simp at hM
      subst hM
      have : d ≤ 29 := by rw [if_pos rfl] at a7; split at a7 <;> omega
      omega
    all_goals
      simp at hM a7
      subst hM
      omega
  have hleap : D = 365 → (Y % 400) % 4 = 3 ∧ ((Y % 400) % 100 ≠ 99 ∨ Y % 400 = 399) := by
    intro h365
    obtain ⟨g1, g2⟩ := hdl.2.2.2 h365
    have hm2 : m = 2 := by rw [hM] at g1; split at g1 <;> omega
    subst hm2
    rw [if_pos (by decide)] at hY
    have hf := days_feb (y := y) (by omega)
    have : leap y = true := by
      cases e : leap y with
      | true => rfl
      | false => rw [e] at hf; simp at hf; omega
    unfold leap at this
    simp only [decide_eq_true_eq] at this
    omega
  have he : (civ y m d + 719468) % 146097 = 365 * (Y % 400) + Y % 400 / 4 - Y % 400 / 100 + D ∧ (civ y m d + 719468) / 146097 = Y / 400 := by
    have : 0 ≤ 365 * (Y % 400) + Y % 400 / 4 - Y % 400 / 100 + D ∧ 365 * (Y % 400) + Y % 400 / 4 - Y % 400 / 100 + D < 146097 := by
      rcases Int.lt_or_eq_of_le (show Y % 400 ≤ 399 by omega) with h3 | h3
      · omega
      · rw [h3]; omega
    rw [hciv]
    omega
  have hyr0 : yr0 (civ y m d) = Y % 400 := by
    unfold yr0
    rw [he.1]
    exact year_of (q := Y % 400 / 4) (r := Y % 400 % 4) (c := Y % 400 / 100) (s := Y % 400 % 100) (D := D) (by omega) (by omega) (by omega) (by omega) (by omega) (by omega) hleap (by omega)
  have hdy0 : dy0 (civ y m d) = D := by
    unfold dy0
    rw [he.1, hyr0]
    omega
  have hmo0 : mo0 (civ y m d) = M' := by unfold mo0; rw [hdy0]; exact hdl.1
  have hbd : 0 ≤ yr0 (civ y m d) ∧ yr0 (civ y m d) ≤ 400 ∧ 0 ≤ dy0 (civ y m d) ∧ dy0 (civ y m d) ≤ 366 ∧ 0 ≤ mo0 (civ y m d) ∧ mo0 (civ y m d) ≤ 12 := by
    rw [hmo0, hyr0, hdy0]
    omega
  suffices hs : yr (civ y m d) = y ∧ mo (civ y m d) = m ∧ dy (civ y m d) = d from ⟨hs.1, hs.2.1, hs.2.2, hbd⟩
  clear hbd
  unfold yr mo dy
  rw [hmo0, hyr0, hdy0, he.2]
  by_cases h2 : m ≤ 2
  · rw [if_pos h2] at hM hY
    rw [if_pos (by omega), if_pos (by omega)]
    omega
  · rw [if_neg h2] at hM hY
    rw [if_neg (by omega), if_neg (by omega)]
    omega
theorem of_civ {y m d : Int} (h : date y m d) : yr (civ y m d) = y ∧ mo (civ y m d) = m ∧ dy (civ y m d) = d := ⟨(of_civ_full h).1, (of_civ_full h).2.1, (of_civ_full h).2.2.1⟩
theorem of_civ_bd {y m d : Int} (h : date y m d) : 0 ≤ yr0 (civ y m d) ∧ yr0 (civ y m d) ≤ 400 ∧ 0 ≤ dy0 (civ y m d) ∧ dy0 (civ y m d) ≤ 366 ∧ 0 ≤ mo0 (civ y m d) ∧ mo0 (civ y m d) ≤ 12 := (of_civ_full h).2.2.2
theorem F_find (n : Int) (h0 : F 22800 ≤ n) (k : Nat) : k ≤ 3599 → n < F (22800 + k + 1) → ∃ t, 22800 ≤ t ∧ t ≤ 26399 ∧ F t ≤ n ∧ n < F (t + 1) := by
  induction k with
  | zero => exact fun _ h => ⟨22800, by omega, by omega, h0, h⟩
  | succ k ih =>
    intro hk h
    rcases Int.lt_or_le n (F (22800 + k + 1)) with hlt | hge
    · exact ih (by omega) hlt
    · refine ⟨22800 + k + 1, by omega, by omega, hge, ?_⟩
      rw [show 22800 + ((k + 1 : Nat) : Int) + 1 = 22800 + k + 1 + 1 by omega] at h
      exact h
/-- each number of these years is a date's -/
theorem civ_onto {n : Int} (h0 : -25567 ≤ n) (h1 : n ≤ 84005) : ∃ y m d, date y m d ∧ civ y m d = n := by
  have e0 : F 22800 = -25567 := by decide
  have e1 : F 26400 = 84006 := by decide
  obtain ⟨t, t1, t2, t3, t4⟩ := F_find n (by omega) 3599 (Nat.le_refl _) (by rw [show 22800 + ((3599 : Nat) : Int) + 1 = 26400 by omega]; omega)
  have fs := F_succ ⟨t1, t2⟩
  refine ⟨t / 12, t % 12 + 1, n - F t + 1, ⟨by omega, ?_⟩, ?_⟩
  · show n - F t + 1 ≤ len t
    omega
  · rw [civ_day]
    show F t + (n - F t + 1 - 1) = n
    omega
/-- a number's date is a date, and has that number -/
theorem dateOf {n : Int} (h0 : -25567 ≤ n) (h1 : n ≤ 84005) : date (yr n) (mo n) (dy n) ∧ civ (yr n) (mo n) (dy n) = n := by
  obtain ⟨y, m, d, hd, rfl⟩ := civ_onto h0 h1
  obtain ⟨a, b, c⟩ := of_civ hd
  rw [a, b, c]
  exact ⟨hd, rfl⟩
theorem of_bd {n : Int} (h0 : -25567 ≤ n) (h1 : n ≤ 84005) : 0 ≤ yr0 n ∧ yr0 n ≤ 400 ∧ 0 ≤ dy0 n ∧ dy0 n ≤ 366 ∧ 0 ≤ mo0 n ∧ mo0 n ≤ 12 := by
  obtain ⟨y, m, d, hd, rfl⟩ := civ_onto h0 h1
  exact of_civ_bd hd
/-- so many months behind -/
def mt (y m : Int) : Int := 12 * y + m - 1
def inYears (t : Int) : Prop := 22800 ≤ t ∧ t ≤ 26399
instance (t : Int) : Decidable (inYears t) := inferInstanceAs (Decidable (_ ∧ _))
theorem inYears_iff (t : Int) : inYears t ↔ days (t / 12) (t % 12 + 1) ≠ 0 := by
  constructor
  · intro h
    have := len_pos h
    unfold len at this
    omega
  · intro h
    have := days_bd (t / 12) (t % 12 + 1)
    unfold inYears
    omega
def cut (d l : Int) : Int := if d ≤ l then d else l
end Go.Proofs.YtbbhdlbpefibeaaGreatDoor.P.M
