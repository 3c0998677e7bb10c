-- Written by a program of this session out of the translation of the seat: Lean functions and the proofs that the Go functions come to them.
import Derived.Laws.BitsAllLaws
import Derived.RowKit
import Derived.Lib.BitFns
import Derived.Lib.ItoaNum
import Derived.Lib.Mul64
import Derived.Test.YtbbhdlbpefibeaaGreatDoorWMore
/-! Plain arithmetic: no program in sight. -/
namespace Go.Proofs.YtbbhdlbpefibeaaGreatDoor.P.M
open Go Go.RowKit Go.Proofs.YtbbhdlbpefibeaaGreatDoorW.PrintWords Go.Proofs.YtbbhdlbpefibeaaGreatDoorW.PrintLast Go.Proofs.YtbbhdlbpefibeaaGreatDoorW.PrintMore
set_option linter.unusedVariables false
set_option linter.unusedSimpArgs false

theorem ediv_of {y m q : Int} (hy : 0 < y) (h1 : q * y ≤ m) (h2 : m < (q + 1) * y) : m / y = q := by
  have h : m - q * y + y * q = m := by rw [Int.mul_comm y q]; omega
  have h3 : (q + 1) * y = q * y + y := by rw [Int.add_mul, Int.one_mul]
  exact ((Int.ediv_emod_unique hy).mpr ⟨h, by omega, by omega⟩).1
theorem emod_of {y m q : Int} (hy : 0 < y) (h1 : q * y ≤ m) (h2 : m < (q + 1) * y) : m % y = m - q * y := by
  have h : m - q * y + y * q = m := by rw [Int.mul_comm y q]; omega
  have h3 : (q + 1) * y = q * y + y := by rw [Int.add_mul, Int.one_mul]
  exact ((Int.ediv_emod_unique hy).mpr ⟨h, by omega, by omega⟩).2
theorem le_div {y m q : Int} (hy : 0 < y) (h : q * y ≤ m) : q ≤ m / y := (Int.le_ediv_iff_mul_le hy).mpr h
theorem div_lt {y m q : Int} (hy : 0 < y) (h : m < q * y) : m / y < q := Int.ediv_lt_of_lt_mul hy h
theorem wrapu (n : Int) : IntKind.u64.wrap n = n % 18446744073709551616 := IntKind.wrap_u64 n
theorem wrapu_id {n : Int} (h0 : 0 ≤ n) (h1 : n < 18446744073709551616) : IntKind.u64.wrap n = n := by rw [wrapu]; omega
theorem w64_id {n : Int} (h0 : -9223372036854775808 ≤ n) (h1 : n < 9223372036854775808) : wrap64 n = n := by unfold wrap64; omega
theorem tdivu {a b : Int} (h : 0 ≤ a) : Int.tdiv a b = a / b := Int.tdiv_eq_ediv_of_nonneg h
theorem tmodu {a b : Int} (h : 0 ≤ a) : Int.tmod a b = a % b := Int.tmod_eq_emod_of_nonneg h
theorem and_low (a : Int) (h0 : 0 ≤ a) (h1 : a < 18446744073709551616) : bits .and .u64 a 4294967295 = a % 4294967296 := by
  rw [u64_and a 4294967295 h0 h1 (by decide) (by decide)]
  have : a.toNat &&& (4294967295 : Int).toNat = a.toNat % 4294967296 := Nat.and_two_pow_sub_one_eq_mod a.toNat 32
  rw [this]; omega
theorem and_one (a : Int) (h0 : 0 ≤ a) (h1 : a < 18446744073709551616) : bits .and .u64 a 1 = a % 2 := by
  rw [u64_and a 1 h0 h1 (by decide) (by decide)]
  have : a.toNat &&& (1 : Int).toNat = a.toNat % 2 := Nat.and_two_pow_sub_one_eq_mod a.toNat 1
  rw [this]; omega
theorem xor_all (a : Int) (h0 : 0 ≤ a) (h1 : a < 18446744073709551616) : bits .xor .u64 18446744073709551615 a = 18446744073709551615 - a := by
  obtain ⟨n, rfl⟩ := Int.eq_ofNat_of_zero_le h0
  have h := bits_xor_u64_nat 18446744073709551615 n (by decide) (by omega)
  rw [show ((18446744073709551615 : Nat) : Int) = 18446744073709551615 from rfl] at h
  rw [h]
  have : 18446744073709551615 ^^^ n = 18446744073709551615 - n := by
    apply Nat.eq_of_testBit_eq
    intro i
    have h1 := Nat.testBit_two_pow_sub_succ (x := n) (n := 64) (by omega) i
    have h2 := Nat.testBit_two_pow_sub_one 64 i
    have e1 : 2 ^ 64 - (n + 1) = 18446744073709551615 - n := by omega
    rw [e1] at h1
    rw [h1, Nat.testBit_xor, show (18446744073709551615 : Nat) = 2 ^ 64 - 1 from rfl, h2]
    by_cases hi : i < 64
    · simp [hi]
    · have : n.testBit i = false := Nat.testBit_lt_two_pow (Nat.lt_of_lt_of_le (show n < 2 ^ 64 by omega) (Nat.pow_le_pow_right (by decide) (by omega)))
      simp [hi, this]
  omega

/-- the two halves of a number that is shifted left by s, joined by 'or' -/
theorem or_join (h l s : Nat) (hs : s ≤ 63) (hh : h * 2 ^ s < 18446744073709551616) (hl : l < 18446744073709551616) :
    bits .or .u64 ((h * 2 ^ s : Nat) : Int) ((l / 2 ^ (64 - s) : Nat) : Int) = ((h * 2 ^ s + l / 2 ^ (64 - s) : Nat) : Int) := by
  have h1 : l / 2 ^ (64 - s) < 2 ^ s := by
    apply Nat.div_lt_of_lt_mul
    rw [← Nat.pow_add, show 64 - s + s = 64 by omega]
    omega
  have h2 : (2 : Nat) ^ s ≤ 2 ^ 63 := Nat.pow_le_pow_right (by decide) hs
  rw [u64_or_nat _ _ hh (by omega)]
  congr 1
  rw [Nat.mul_comm h]
  exact (Nat.two_pow_add_eq_or_of_lt h1 h).symm

/-- One digit of the quotient, tried from above. -/
structure Dig (u y1 y0 d Q : Int) : Prop where
  y1l : 2147483648 ≤ y1
  y1u : y1 < 4294967296
  y0l : 0 ≤ y0
  y0u : y0 < 4294967296
  dl : 0 ≤ d
  du : d < 4294967296
  ul : 0 ≤ u
  uu : u < y1 * 4294967296 + y0
  qe : (u * 4294967296 + d) / (y1 * 4294967296 + y0) = Q
theorem Dig.q_lt {u y1 y0 d Q : Int} (h : Dig u y1 y0 d Q) : 0 ≤ Q ∧ Q < 4294967296 := by
  obtain ⟨a1, a2, a3, a4, a5, a6, a7, a8, e⟩ := h
  have hy : 0 < y1 * 4294967296 + y0 := by omega
  constructor
  · rw [← e]; exact le_div hy (by rw [Int.zero_mul]; omega)
  · rw [← e]
    refine div_lt hy ?_
    have : 4294967296 * (y1 * 4294967296 + y0) = (y1 * 4294967296 + y0) * 4294967296 := Int.mul_comm _ _
    omega
theorem Dig.test {u y1 y0 d Q q r : Int} (h : Dig u y1 y0 d Q) (e : q * y1 + r = u) (hq : Q ≤ q) : (q * y0 > 4294967296 * r + d) ↔ Q < q := by
  obtain ⟨a1, a2, a3, a4, a5, a6, a7, a8, eq⟩ := h
  have hy : 0 < y1 * 4294967296 + y0 := by omega
  have e2 : q * (y1 * 4294967296 + y0) = q * y1 * 4294967296 + q * y0 := by rw [Int.mul_add, Int.mul_assoc]
  constructor
  · intro hgt
    rcases Int.lt_or_eq_of_le hq with hlt | heq
    · exact hlt
    exfalso
    subst heq
    have := (Int.le_ediv_iff_mul_le (a := Q) (b := u * 4294967296 + d) hy).mp (by omega)
    generalize Q * y1 = p at *
    generalize Q * y0 = p0 at *
    omega
  · intro hlt
    have h1 : u * 4294967296 + d < q * (y1 * 4294967296 + y0) := by
      rcases Int.lt_or_le (u * 4294967296 + d) (q * (y1 * 4294967296 + y0)) with h | h
      · exact h
      · have := le_div hy h; omega
    generalize q * y1 = p at *
    generalize q * y0 = p0 at *
    omega
/-- the guess: no less than the digit, and at most 2 more -/
theorem Dig.guess {u y1 y0 d Q : Int} (h : Dig u y1 y0 d Q) : Q ≤ u / y1 ∧ u / y1 ≤ 4294967297 := by
  obtain ⟨a1, a2, a3, a4, a5, a6, a7, a8, eq⟩ := h
  have hy : 0 < y1 * 4294967296 + y0 := by omega
  have hy1 : 0 < y1 := by omega
  constructor
  · refine le_div hy1 ?_
    have h1 := (Int.le_ediv_iff_mul_le (a := Q) (b := u * 4294967296 + d) hy).mp (by omega)
    have e2 : Q * (y1 * 4294967296 + y0) = Q * y1 * 4294967296 + Q * y0 := by rw [Int.mul_add, Int.mul_assoc]
    have h0 : 0 ≤ Q * y0 := Int.mul_nonneg (by rw [← eq]; exact le_div hy (by rw [Int.zero_mul]; omega)) a3
    generalize Q * y1 = p at *
    generalize Q * y0 = p0 at *
    omega
  · have : u / y1 < 4294967298 := div_lt hy1 (by omega)
    omega
/-- behind a digit: what is left -/
theorem Dig.rest {u y1 y0 d Q : Int} (h : Dig u y1 y0 d Q) :
    IntKind.u64.wrap (IntKind.u64.wrap (IntKind.u64.wrap (u * 4294967296) + d) - IntKind.u64.wrap (Q * (y1 * 4294967296 + y0))) = (u * 4294967296 + d) % (y1 * 4294967296 + y0) := by
  obtain ⟨a1, a2, a3, a4, a5, a6, a7, a8, eq⟩ := h
  have hy : 0 < y1 * 4294967296 + y0 := by omega
  have e := Int.emod_def (u * 4294967296 + d) (y1 * 4294967296 + y0)
  have h0 := Int.emod_nonneg (u * 4294967296 + d) (show y1 * 4294967296 + y0 ≠ 0 by omega)
  have h1 := Int.emod_lt_of_pos (u * 4294967296 + d) hy
  rw [eq, Int.mul_comm (y1 * 4294967296 + y0)] at e
  generalize (u * 4294967296 + d) % (y1 * 4294967296 + y0) = r at *
  generalize Q * (y1 * 4294967296 + y0) = p at *
  simp only [wrapu]
  omega
/-- one round of the digit's loop, the digit too great -/
theorem Dig.down {u y1 y0 d Q q r : Int} (h : Dig u y1 y0 d Q) (e : q * y1 + r = u) (hq : Q < q) : (q - 1) * y1 + (r + y1) = u := by
  rw [Int.sub_mul, Int.one_mul]; omega
theorem Dig.done {u y1 y0 d Q q r : Int} (h : Dig u y1 y0 d Q) (e : q * y1 + r = u) (hq : Q ≤ q) (hr : 4294967296 ≤ r) (hb : q ≤ 4294967296) : q = Q := by
  have ht := h.test e hq
  have hQ := h.q_lt
  obtain ⟨a1, a2, a3, a4, a5, a6, a7, a8, eq⟩ := h
  rcases Int.lt_or_eq_of_le hq with hlt | heq
  · exfalso
    have h1 := ht.mpr hlt
    have h2 : q * y0 ≤ 4294967296 * 4294967295 := Int.mul_le_mul hb (by omega) a3 (by decide)
    omega
  · exact heq.symm
/-- the whole: two digits, shifted back -/
theorem two_digits {N Y S q1 q0 r1 r0 u u1 u0 : Int} (hS : 0 < S) (hY : 0 < Y) (hN : N * S = (u * 4294967296 + u1) * 4294967296 + u0)
    (e1 : q1 * (Y * S) + r1 = u * 4294967296 + u1) (e0 : q0 * (Y * S) + r0 = r1 * 4294967296 + u0) (h0 : 0 ≤ r0) (h1 : r0 < Y * S) :
    N / Y = q1 * 4294967296 + q0 ∧ N % Y = r0 / S := by
  have key : N * S = (q1 * 4294967296 + q0) * (Y * S) + r0 := by
    rw [hN, ← e1, Int.add_mul (q1 * 4294967296), Int.mul_right_comm q1 4294967296]
    generalize q1 * (Y * S) = p1 at *
    generalize q0 * (Y * S) = p0 at *
    omega
  generalize q1 * 4294967296 + q0 = Q at *
  have e2 : r0 = (N - Q * Y) * S := by
    have : (N - Q * Y) * S = N * S - Q * (Y * S) := by rw [Int.sub_mul, Int.mul_assoc]
    omega
  have e3 : r0 / S = N - Q * Y := by rw [e2]; exact Int.mul_ediv_cancel _ (by omega)
  have hlo : 0 ≤ N - Q * Y := by rw [← e3]; exact Int.ediv_nonneg h0 (by omega)
  have hhi : N - Q * Y < Y := by
    rw [e2] at h1
    exact Int.lt_of_mul_lt_mul_right h1 (by omega)
  have e4 : (Q + 1) * Y = Q * Y + Y := by rw [Int.add_mul, Int.one_mul]
  exact ⟨ediv_of hY (by omega) (by omega), by rw [e3]; exact emod_of hY (by omega) (by omega)⟩
/-- a quotient, rounded: 1 down, 2 up, 3 to the nearest (halves away from 0), else to the nearest (halves to even) -/
def quo (n c mode : Int) : Int :=
  let n' := if c < 0 then -n else n
  let c' := if c < 0 then -c else c
  if n' % c' = 0 ∨ mode = 1 then n' / c'
  else if mode = 2 then n' / c' + 1
  else if 2 * (n' % c') < c' then n' / c'
  else if 2 * (n' % c') > c' then n' / c' + 1
  else if (mode = 4 ∧ (n' / c') % 2 = 0) ∨ (mode = 3 ∧ n' < 0) then n' / c'
  else n' / c' + 1
/-- has a number room in 64 bits? -/
def In (a : Int) : Prop := -9223372036854775808 ≤ a ∧ a < 9223372036854775808
instance (a : Int) : Decidable (In a) := inferInstanceAs (Decidable (_ ∧ _))
def abs (a : Int) : Int := if a < 0 then -a else a
/-- the quotient of a number below 0 -/
theorem neg_div {n c : Int} (hc : 0 < c) : (-n) / c = if n % c = 0 then -(n / c) else -(n / c) - 1 := by
  have e := Int.emod_def n c
  have e0 := Int.emod_nonneg n (show c ≠ 0 by omega)
  have e1 := Int.emod_lt_of_pos n hc
  split
  · rename_i h
    apply ediv_of hc
    · rw [Int.neg_mul, Int.mul_comm]; omega
    · rw [Int.add_mul, Int.neg_mul, Int.mul_comm (n / c)]; omega
  · rename_i h
    apply ediv_of hc
    · rw [Int.sub_mul, Int.neg_mul, Int.mul_comm (n / c)]; omega
    · rw [Int.add_mul, Int.sub_mul, Int.neg_mul, Int.mul_comm (n / c)]; omega
theorem neg_mod {n c : Int} (hc : 0 < c) : (-n) % c = if n % c = 0 then 0 else c - n % c := by
  have e := Int.emod_def n c
  have e' := Int.emod_def (-n) c
  have h := neg_div (n := n) hc
  split at h
  · rename_i hz
    rw [if_pos hz, e', h, Int.mul_neg]; omega
  · rename_i hz
    rw [if_neg hz, e', h, Int.mul_sub, Int.mul_neg]; omega
/-- the quotient, told by sizes and a sign: as the code has it -/
theorem quo_sized {N c mode : Int} (hN : 0 ≤ N) (hc : 0 < c) (hm : 1 ≤ mode ∧ mode ≤ 4) :
    quo N c mode = N / c + (if 0 < N % c ∧ (mode = 2 ∨ mode = 3 ∧ 2 * (N % c) ≥ c ∨ mode = 4 ∧ (2 * (N % c) > c ∨ 2 * (N % c) = c ∧ (N / c) % 2 = 1)) then 1 else 0) ∧
    quo (-N) c mode = -(N / c + (if 0 < N % c ∧ (mode = 1 ∨ mode = 3 ∧ 2 * (N % c) ≥ c ∨ mode = 4 ∧ (2 * (N % c) > c ∨ 2 * (N % c) = c ∧ (N / c) % 2 = 1)) then 1 else 0)) := by
  have r0 := Int.emod_nonneg N (show c ≠ 0 by omega)
  have r1 := Int.emod_lt_of_pos N hc
  have hq : 0 ≤ N / c := Int.ediv_nonneg hN (by omega)
  have hsgn : N % c ≠ 0 → -N < 0 := by
    intro h
    rcases Int.lt_or_eq_of_le hN with h' | h'
    · omega
    · subst h'; simp at h
  unfold quo
  simp only [if_neg (show ¬ c < 0 by omega), neg_div hc, neg_mod hc]
  generalize hr : N % c = r at *
  generalize hq' : N / c = q at *
  constructor
  · by_cases hz : r = 0
    · simp [hz]
    · have hz' : 0 < r := by omega
      simp only [hz, false_or, hz', true_and]
      repeat' split
      all_goals omega
  · by_cases hz : r = 0
    · simp [hz]
    · have hz' : 0 < r := by omega
      have hs := hsgn hz
      simp only [hz, if_false, hz', true_and]
      repeat' split
      all_goals omega
/-- a number, or that it has no room -/
def told (v : Int) : Int × Option Int := if In v then (v, none) else (0, some 3)
theorem told_in {v : Int} (h : In v) : told v = (v, none) := by unfold told; rw [if_pos h]
theorem told_out {v : Int} (h : ¬ In v) : told v = (0, some 3) := by unfold told; rw [if_neg h]
theorem in_of_wf {a : Int} (h : (Lit.int .i64 a).wf = true) : In a := by
  simp [Lit.wf, IntKind.min, IntKind.max, IntKind.signed, IntKind.bits] at h
  unfold In
  omega
end Go.Proofs.YtbbhdlbpefibeaaGreatDoor.P.M
