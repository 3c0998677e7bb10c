-- Written by a program of this session out of the translation of the seat: Lean functions and the proofs that the Go functions come to them.
import Derived.Test.YtmkfbaoglmmhjaaV
/-! What a payment does to a loan: plain arithmetic. -/
namespace Go.Proofs.Ytmkfbaoglmmhjaa.P.M
open Go Go.RowKit Go.Proofs.YtmkfbaoglmmhjaaW.PrintWords Go.Proofs.YtmkfbaoglmmhjaaW.PrintLast Go.Proofs.YtmkfbaoglmmhjaaW.PrintMore
set_option linter.unusedVariables false
set_option linter.unusedSimpArgs false

def cent (v : Int) : Prop := 0 ≤ v ∧ v ≤ 10000000000000
instance (v : Int) : Decidable (cent v) := inferInstanceAs (Decidable (_ ∧ _))
def dayOk (d : Int) : Prop := -25567 ≤ d ∧ d ≤ 84005
instance (d : Int) : Decidable (dayOk d) := inferInstanceAs (Decidable (_ ∧ _))
/-- may a loan be? -/
def loanOk (b r m f e i w fe g bal lvl du cnt sus late : Int) : Prop := termsOk b r m f e i w fe g ∧ firstOk du ∧ cent bal ∧ 1 ≤ lvl ∧ lvl ≤ 20000000000000 ∧ 0 ≤ cnt ∧ cnt ≤ 480 ∧ cent sus ∧ cent late
instance (b r m f e i w fe g bal lvl du cnt sus late : Int) : Decidable (loanOk b r m f e i w fe g bal lvl du cnt sus late) := inferInstanceAs (Decidable (_ ∧ _))
/-- may a loan be paid to so? -/
def askOk (b r m f e i w fe g bal lvl du cnt sus late day a : Int) : Prop := loanOk b r m f e i w fe g bal lvl du cnt sus late ∧ dayOk day ∧ 1 ≤ a ∧ a ≤ 10000000000000
instance (b r m f e i w fe g bal lvl du cnt sus late day a : Int) : Decidable (askOk b r m f e i w fe g bal lvl du cnt sus late day a) := inferInstanceAs (Decidable (_ ∧ _))
/-- is there a month behind a day's? -/
def more (d : Int) : Prop := inYears (m0 d + 1)
instance (d : Int) : Decidable (more d) := inferInstanceAs (Decidable (inYears _))
theorem due_first {d : Int} (h : firstOk d) (hm : more d) : firstOk (due d 1) := by
  have a := month_date hm
  have o := of_civ a.1
  have bd := F_bd hm
  rw [a.2.1] at o
  exact ⟨bd.1, bd.2, o.2.2⟩
theorem due_m0 {d : Int} (hm : more d) : m0 (due d 1) = m0 d + 1 := by
  have a := month_date hm
  have o := of_civ a.1
  rw [a.2.1] at o
  unfold due m0 mt at *
  rw [o.1, o.2.1]
  omega
theorem due_lt {d : Int} (h : firstOk d) (hm : more d) : d < due d 1 := by
  have a := (first_date h).2.2
  have s := F_succ a.1
  have l := len_pos a.1
  have e := a.2
  unfold due
  omega
theorem last_day {d : Int} (h : firstOk d) (hm : ¬ more d) : d = 83975 := by
  have a := (first_date h).2.2
  have : m0 d = 26399 := by
    have b := a.1
    unfold more inYears at *
    omega
  rw [← a.2, this]
  decide
/-- the principal of the next instalment -/
def prin (bal r lvl : Int) : Int := if lvl - month bal r < 0 then 0 else if lvl - month bal r > bal then bal else lvl - month bal r
theorem prin_bd {bal r lvl : Int} (h : may bal r) : 0 ≤ prin bal r lvl ∧ prin bal r lvl ≤ bal := by
  have := h.1
  unfold prin
  split
  · omega
  · split <;> omega
/-- the whole of the next instalment -/
def all (bal r lvl e : Int) : Int := month bal r + prin bal r lvl + e
/-- is an instalment taken? -/
def takes (r lvl e day bal du cnt sus : Int) : Prop := bal ≠ 0 ∧ du ≤ day ∧ cnt < 480 ∧ more du ∧ all bal r lvl e ≤ sus
instance (r lvl e day bal du cnt sus : Int) : Decidable (takes r lvl e day bal du cnt sus) := inferInstanceAs (Decidable (_ ∧ _))
structure St where
  bal : Int
  du : Int
  cnt : Int
  sus : Int
  n : Int
  i : Int
  p : Int
  x : Int
/-- the instalments that are taken out of what is there -/
def pay (r lvl e day : Int) : Nat → St → St
  | 0, s => s
  | k + 1, s => if takes r lvl e day s.bal s.du s.cnt s.sus then pay r lvl e day k ⟨s.bal - prin s.bal r lvl, due s.du 1, s.cnt + 1, s.sus - all s.bal r lvl e, s.n + 1, s.i + month s.bal r, s.p + prin s.bal r lvl, s.x + e⟩ else s
/-- a loan on its way: what a run of instalments keeps -/
def ok (r : Int) (s : St) : Prop := may s.bal r ∧ firstOk s.du ∧ 0 ≤ s.cnt ∧ s.cnt ≤ 480 ∧ 0 ≤ s.sus ∧ s.sus ≤ 10000000000000
instance (r : Int) (s : St) : Decidable (ok r s) := inferInstanceAs (Decidable (_ ∧ _))
def step (r lvl e : Int) (s : St) : St := ⟨s.bal - prin s.bal r lvl, due s.du 1, s.cnt + 1, s.sus - all s.bal r lvl e, s.n + 1, s.i + month s.bal r, s.p + prin s.bal r lvl, s.x + e⟩
theorem all_nonneg {bal r lvl e : Int} (h : may bal r) (he : 0 ≤ e) : 0 ≤ all bal r lvl e := by
  have a := month_nonneg h
  have b := (prin_bd (lvl := lvl) h).1
  unfold all
  omega
theorem step_ok {r lvl e day : Int} {s : St} (he : 0 ≤ e) (h : ok r s) (ht : takes r lvl e day s.bal s.du s.cnt s.sus) : ok r (step r lvl e s) := by
  obtain ⟨h1, h2, h3, h4, h5, h6⟩ := h
  obtain ⟨t1, t2, t3, t4, t5⟩ := ht
  have a := prin_bd (lvl := lvl) h1
  have c := all_nonneg (lvl := lvl) h1 he
  refine ⟨⟨?_, ?_, h1.2.2⟩, due_first h2 t4, ?_, ?_, ?_, ?_⟩ <;> simp only [step]
  · omega
  · have := h1.2.1; omega
  · omega
  · omega
  · omega
  · omega
theorem pay_succ {r lvl e day : Int} {s : St} (k : Nat) (ht : takes r lvl e day s.bal s.du s.cnt s.sus) : pay r lvl e day (k + 1) s = pay r lvl e day k (step r lvl e s) := by
  simp only [pay]
  rw [if_pos ht]
  rfl
theorem pay_stop {r lvl e day : Int} {s : St} (ht : ¬ takes r lvl e day s.bal s.du s.cnt s.sus) : ∀ k : Nat, pay r lvl e day k s = s
  | 0 => rfl
  | k + 1 => by simp only [pay]; rw [if_neg ht]
/-- a run ends of itself -/
theorem pay_end {r lvl e day : Int} (he : 0 ≤ e) : ∀ (k : Nat) (s : St), ok r s → (480 - s.cnt).toNat ≤ k → let z := pay r lvl e day k s; ok r z ∧ ¬ takes r lvl e day z.bal z.du z.cnt z.sus
  | 0, s, h, hk => by
    refine ⟨h, fun ht => ?_⟩
    have := ht.2.2.1
    simp only [pay] at this
    omega
  | k + 1, s, h, hk => by
    by_cases ht : takes r lvl e day s.bal s.du s.cnt s.sus
    · have c := ht.2.2.1
      have ih := pay_end (lvl := lvl) (day := day) he k (step r lvl e s) (step_ok he h ht) (by simp only [step]; omega)
      rw [← pay_succ k ht] at ih
      exact ih
    · rw [pay_stop ht]
      exact ⟨h, ht⟩
theorem pay_more {r lvl e day : Int} (he : 0 ≤ e) : ∀ (k j : Nat) (s : St), ok r s → (480 - s.cnt).toNat ≤ k → pay r lvl e day (k + j) s = pay r lvl e day k s
  | 0, j, s, h, hk => by
    have : ¬ takes r lvl e day s.bal s.du s.cnt s.sus := fun ht => by have := ht.2.2.1; omega
    rw [pay_stop this, pay_stop this]
  | k + 1, j, s, h, hk => by
    by_cases ht : takes r lvl e day s.bal s.du s.cnt s.sus
    · have c := ht.2.2.1
      rw [show k + 1 + j = (k + j) + 1 by omega, pay_succ _ ht, pay_succ _ ht]
      exact pay_more he k j (step r lvl e s) (step_ok he h ht) (by simp only [step]; omega)
    · rw [pay_stop ht, pay_stop ht]
/-- is nothing due? -/
def cur (bal du day : Int) : Prop := bal = 0 ∨ du > day
instance (bal du day : Int) : Decidable (cur bal du day) := inferInstanceAs (Decidable (_ ∨ _))
def lateOf (s : St) (late day : Int) : Int := if cur s.bal s.du day then least late s.sus else 0
/-- what a run keeps in sum -/
theorem pay_sum {r lvl e day : Int} : ∀ (k : Nat) (s : St), let z := pay r lvl e day k s; z.i + z.p + z.x + z.sus = s.i + s.p + s.x + s.sus ∧ z.bal + z.p = s.bal + s.p ∧ z.cnt - z.n = s.cnt - s.n
  | 0, s => ⟨rfl, rfl, rfl⟩
  | k + 1, s => by
    by_cases ht : takes r lvl e day s.bal s.du s.cnt s.sus
    · have ih := pay_sum (r := r) (lvl := lvl) (e := e) (day := day) k (step r lvl e s)
      rw [← pay_succ k ht] at ih
      refine ⟨ih.1.trans ?_, ih.2.1.trans ?_, ih.2.2.trans ?_⟩ <;> simp only [step, all] <;> omega
    · rw [pay_stop ht]
      exact ⟨rfl, rfl, rfl⟩
/-- how many months' interest pays all off -/
def months (day : Int) : Nat → Int → Int
  | 0, _ => 1
  | k + 1, d => if d ≤ day then (if more d then 1 + months day k (due d 1) else 2) else 1
theorem months_bd (day : Int) : ∀ (k : Nat) (d : Int), 1 ≤ months day k d ∧ months day k d ≤ k + 1
  | 0, d => by simp [months]
  | k + 1, d => by
    have := months_bd day k (due d 1)
    simp only [months]
    split
    · split <;> omega
    · omega
theorem months_mono {a b : Int} (h : a ≤ b) : ∀ (k : Nat) (d : Int), months a k d ≤ months b k d
  | 0, d => by simp [months]
  | k + 1, d => by
    have ih := months_mono h k (due d 1)
    have c := months_bd b k (due d 1)
    simp only [months]
    by_cases h1 : d ≤ a
    · rw [if_pos h1, if_pos (show d ≤ b by omega)]
      split <;> omega
    · rw [if_neg h1]
      split
      · split <;> omega
      · omega
end Go.Proofs.Ytmkfbaoglmmhjaa.P.M
