-- Written by a program of this session out of the translation of the seat: Lean functions and the proofs that the Go functions come to them.
import Derived.RowKit
import Derived.Test.YtghimjkoaldafaaM
/-! Long numbers: digits to the base of 65536, the lowest first. No program in sight. -/
namespace Go.Proofs.Ytghimjkoaldafaa.P.U
open Go Go.RowKit Go.Proofs.YtghimjkoaldafaaW.PrintWords Go.Proofs.YtghimjkoaldafaaW.PrintLast Go.Proofs.YtghimjkoaldafaaW.PrintMore
set_option linter.unusedVariables false
set_option linter.unusedSimpArgs false
/-- the number that digits tell -/
def val : List Int → Int
  | [] => 0
  | x :: r => x + 65536 * val r
def Dg (d : List Int) : Prop := ∀ x ∈ d, 0 ≤ x ∧ x < 65536
def digf : Nat → Int → List Int
  | 0, _ => []
  | k + 1, n => if n ≤ 0 then [] else n % 65536 :: digf k (n / 65536)
/-- a number's digits, without zeros on top -/
def dig (n : Int) : List Int := digf n.toNat n
theorem digf_more : ∀ (k j : Nat) (n : Int), n.toNat ≤ k → n.toNat ≤ j → digf k n = digf j n
  | 0, 0, n, _, _ => rfl
  | 0, j + 1, n, h, _ => by simp only [digf]; rw [if_pos (by omega)]
  | k + 1, 0, n, _, h => by simp only [digf]; rw [if_pos (by omega)]
  | k + 1, j + 1, n, h1, h2 => by
    simp only [digf]
    split
    · rfl
    · rw [digf_more k j (n / 65536) (by omega) (by omega)]
theorem dig_low {n : Int} (h : n ≤ 0) : dig n = [] := by unfold dig; rw [show n.toNat = 0 by omega]; rfl
theorem dig_zero : dig 0 = [] := dig_low (Int.le_refl _)
theorem dig_pos {n : Int} (h : 0 < n) : dig n = n % 65536 :: dig (n / 65536) := by
  unfold dig
  obtain ⟨k, hk⟩ : ∃ k, n.toNat = k + 1 := ⟨n.toNat - 1, by omega⟩
  rw [hk]
  simp only [digf]
  rw [if_neg (by omega), digf_more k _ (n / 65536) (by omega) (Nat.le_refl _)]
theorem dig_cons {x v : Int} (hx : 0 ≤ x ∧ x < 65536) (hv : 0 ≤ v) (h : 0 < x + 65536 * v) : dig (x + 65536 * v) = x :: dig v := by
  rw [dig_pos h]
  congr 1
  · omega
  · congr 1; omega
theorem digf_dg : ∀ (k : Nat) (n : Int), Dg (digf k n)
  | 0, n => by intro x hx; simp [digf] at hx
  | k + 1, n => by
    simp only [digf]
    split
    · intro x hx; simp at hx
    · intro x hx
      rcases List.mem_cons.mp hx with rfl | h
      · omega
      · exact digf_dg k _ x h
theorem dig_dg (n : Int) : Dg (dig n) := digf_dg _ _
theorem val_digf : ∀ (k : Nat) (n : Int), 0 ≤ n → n.toNat ≤ k → val (digf k n) = n
  | 0, n, h0, h => by simp only [digf, val]; omega
  | k + 1, n, h0, h => by
    simp only [digf]
    split
    · simp only [val]; omega
    · simp only [val]
      rw [val_digf k (n / 65536) (by omega) (by omega)]
      omega
theorem val_dig {n : Int} (h : 0 ≤ n) : val (dig n) = n := val_digf _ n h (Nat.le_refl _)
theorem Dg.cons {x : Int} {d : List Int} (h : Dg (x :: d)) : (0 ≤ x ∧ x < 65536) ∧ Dg d := ⟨h x (by simp), fun y hy => h y (by simp [hy])⟩
theorem Dg.add {a b : List Int} (ha : Dg a) (hb : Dg b) : Dg (a ++ b) := by
  intro x hx
  rcases List.mem_append.mp hx with h | h
  · exact ha x h
  · exact hb x h
theorem Dg.left {a b : List Int} (h : Dg (a ++ b)) : Dg a := fun x hx => h x (List.mem_append_left _ hx)
theorem Dg.one {x : Int} (h : 0 ≤ x ∧ x < 65536) : Dg [x] := by intro y hy; simp at hy; subst hy; exact h
theorem Dg.nil : Dg [] := by intro x hx; simp at hx
theorem Dg.zeros (n : Nat) : Dg (List.replicate n 0) := by
  intro x hx
  have := List.eq_of_mem_replicate hx
  omega
theorem Dg.get {d : List Int} (h : Dg d) (i : Nat) : 0 ≤ d.getD i 0 ∧ d.getD i 0 < 65536 := by
  rw [List.getD_eq_getElem?_getD]
  cases e : d[i]? with
  | none => simp
  | some x => simpa using h x (List.mem_of_getElem? e)
theorem val_nonneg : ∀ {d : List Int}, Dg d → 0 ≤ val d
  | [], _ => Int.le_refl _
  | x :: r, h => by
    have := val_nonneg h.cons.2
    have := h.cons.1
    simp only [val]
    omega
theorem pow_succ (k : Nat) : (65536 : Int) ^ (k + 1) = 65536 * 65536 ^ k := by rw [Int.pow_succ, Int.mul_comm]
theorem pow_pos (k : Nat) : 0 < (65536 : Int) ^ k := Int.pow_pos (by decide)
theorem pow_le {i : Nat} : ∀ {j : Nat}, i ≤ j → (65536 : Int) ^ i ≤ 65536 ^ j := by
  intro j h
  obtain ⟨n, rfl⟩ : ∃ n, j = i + n := ⟨j - i, by omega⟩
  induction n with
  | zero => exact Int.le_refl _
  | succ n ih =>
    have := ih (by omega)
    have := pow_pos (i + n)
    rw [show i + (n + 1) = (i + n) + 1 by omega, pow_succ]
    omega
theorem val_lt : ∀ {d : List Int}, Dg d → val d < 65536 ^ d.length
  | [], _ => by simp [val]
  | x :: r, h => by
    have := val_lt h.cons.2
    have := h.cons.1
    simp only [val, List.length_cons, pow_succ]
    omega
theorem val_append : ∀ (a b : List Int), val (a ++ b) = val a + 65536 ^ a.length * val b
  | [], b => by simp [val]
  | x :: r, b => by
    simp only [List.cons_append, val, val_append r b, List.length_cons, pow_succ, Int.mul_add, Int.mul_assoc]
    omega
theorem val_one (x : Int) : val [x] = x := by simp [val]
theorem val_zeros : ∀ n : Nat, val (List.replicate n 0) = 0
  | 0 => rfl
  | n + 1 => by simp only [List.replicate_succ, val, val_zeros n]; rfl
theorem dig_nil_iff {n : Int} (h : 0 ≤ n) : dig n = [] ↔ n = 0 := by
  constructor
  · intro e
    have := val_dig h
    rw [e] at this
    exact this.symm
  · rintro rfl; exact dig_zero
/-- digits with none but a zero on top are a number's own -/
theorem dig_val_top : ∀ {r : List Int} {x : Int}, Dg (r ++ [x]) → x ≠ 0 → dig (val (r ++ [x])) = r ++ [x]
  | [], x, h, hx => by
    have h1 := (Dg.cons (d := []) h).1
    have e : val ([] ++ [x]) = x + 65536 * 0 := by simp [val]
    rw [e, dig_cons h1 (Int.le_refl _) (by omega), dig_zero]; rfl
  | y :: r, x, h, hx => by
    have h1 := (Dg.cons (d := r ++ [x]) h)
    have ih := dig_val_top h1.2 hx
    have p := val_nonneg h1.2
    have q : val (r ++ [x]) ≠ 0 := by
      intro e
      rw [e, dig_zero] at ih
      simp at ih
    have e : val (y :: r ++ [x]) = y + 65536 * val (r ++ [x]) := rfl
    rw [e, dig_cons h1.1 p (by omega), ih]; rfl
theorem len_dig : ∀ (k : Nat) (n : Int), n < 65536 ^ k → (dig n).length ≤ k
  | 0, n, h => by rw [dig_low (by simp at h; omega)]; simp
  | k + 1, n, h => by
    by_cases h0 : n ≤ 0
    · rw [dig_low h0]; simp
    · rw [dig_pos (by omega), List.length_cons]
      rw [pow_succ] at h
      have := len_dig k (n / 65536) (by omega)
      omega
theorem take_succ (d : List Int) (i : Nat) (h : i < d.length) : val (d.take (i + 1)) = val (d.take i) + 65536 ^ i * d.getD i 0 := by
  have e : d.take (i + 1) = d.take i ++ [d.getD i 0] := by
    rw [List.take_add_one, List.getD_eq_getElem?_getD]
    congr 1
    rw [List.getElem?_eq_getElem h]; rfl
  rw [e, val_append, val_one, List.length_take, show min i d.length = i by omega]
theorem drop_step (d : List Int) (i : Nat) : val (d.drop i) = d.getD i 0 + 65536 * val (d.drop (i + 1)) := by
  by_cases h : i < d.length
  · rw [List.drop_eq_getElem_cons h]
    simp only [val]
    rw [List.getD_eq_getElem?_getD, List.getElem?_eq_getElem h]; rfl
  · rw [List.drop_eq_nil_of_le (by omega), List.drop_eq_nil_of_le (by omega), List.getD_eq_getElem?_getD, List.getElem?_eq_none (by omega)]
    simp [val]
theorem sum_add : ∀ (a b : List Int), (a ++ b).sum = a.sum + b.sum
  | [], b => by simp
  | x :: r, b => by rw [List.cons_append, List.sum_cons, List.sum_cons, sum_add r b, Int.add_assoc]
/-- a number: its digits and its sign -/
def num (z : Int) : List Int × Bool := (dig (M.abs z), decide (z < 0))
theorem abs_nonneg (z : Int) : 0 ≤ M.abs z := by unfold M.abs; split <;> omega
theorem num_of {z : Int} {n : Int} {m : Bool} (hn : 0 ≤ n) (h : z = if m = true then -n else n) : (dig n, m && !(dig n).isEmpty) = num z := by
  have e : M.abs z = n := by subst h; unfold M.abs; cases m <;> simp <;> omega
  unfold num
  rw [e]
  congr 1
  cases hd : dig n with
  | nil =>
    have := (dig_nil_iff hn).mp hd
    subst this
    cases m <;> simp at h <;> subst h <;> rfl
  | cons x r =>
    have : n ≠ 0 := by rintro rfl; rw [dig_zero] at hd; cases hd
    cases m <;> simp at h <;> simp <;> omega
end Go.Proofs.Ytghimjkoaldafaa.P.U
