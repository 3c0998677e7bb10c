-- Written by a program of this session out of the translation of the seat: Lean functions and the proofs that the Go functions come to them.
import Derived.Test.YtdddiahgkpfikaaPx0
import Derived.Test.YtdddiahgkpfikaaPx1
import Derived.Test.YtdddiahgkpfikaaPx2
namespace Go.Proofs.Ytdddiahgkpfikaa.P
open Go.RowKit Go.Proofs.YtdddiahgkpfikaaW.PrintWords Go.Proofs.YtdddiahgkpfikaaW.PrintLast Go.Proofs.YtdddiahgkpfikaaW.PrintMore
attribute [local go_sem] max2_int min2_int max_two min_two max_three min_three max_four min_four   -- for this text's walks alone
set_option linter.unusedVariables false
set_option linter.unusedSimpArgs false

/-! ### cents_MulDiv_s: function 13, told plainly -/
theorem cents_MulDiv.size_tells (a : Int) (h : M.In a) : cents_size.f a = some (M.abs a, decide (a < 0)) := by
 unfold cents_size.f M.abs M.In at *
 by_cases h0 : a < 0
 ·rw [if_pos h0, if_pos h0, decide_eq_true h0]
  congr 2
  simp only [M.wrapu]
  omega
 ·rw [if_neg h0, if_neg h0, decide_eq_false h0]
  congr 2
  simp only [M.wrapu]
  omega
theorem cents_MulDiv.further_tells (q r c : Int) (minus : Bool) (mode : Int) (hm : 1 ≤ mode ∧ mode ≤ 4) (h0 : 0 ≤ q) (h1 : q < 18446744073709551616) (hr : 0 < r) (hrc : r < c) (hc : c < 18446744073709551616) :
  cents_further.f q r c minus mode = some (decide ((if minus = true then mode = 1 else mode = 2) ∨ mode = 3 ∧ 2 * r ≥ c ∨ mode = 4 ∧ (2 * r > c ∨ 2 * r = c ∧ q % 2 = 1))) := by
 unfold cents_further.f
 have hw : IntKind.u64.wrap (c - r) = c - r := M.wrapu_id (by omega) (by omega)
 rw [hw, M.and_one q h0 h1]
 have hm' : mode = 1 ∨ mode = 2 ∨ mode = 3 ∨ mode = 4 := by omega
 rcases hm' with rfl | rfl | rfl | rfl
 ·cases minus <;> simp <;> omega
 ·cases minus <;> simp <;> omega
 ·by_cases g : r > c - r
  ·have g2 : c ≤ 2 * r := by omega
   cases minus <;> simp [g, g2]
  ·by_cases g' : r = c - r
   ·have g2 : c ≤ 2 * r := by omega
    cases minus <;> simp [g, g2] <;> omega
   ·have g2 : ¬ c ≤ 2 * r := by omega
    cases minus <;> simp [g, g', g2]
 ·have h2 : 2 * r > c ↔ r > c - r := by omega
  have h3 : 2 * r = c ↔ r = c - r := by omega
  simp only [h2, h3]
  by_cases g : r > c - r
  ·cases minus <;> simp [g]
  ·by_cases g' : r = c - r
   ·have e : ∀ z : Int, (z == 1) = decide (z = 1) := fun z => by by_cases h : z = 1 <;> simp [h]
    cases minus <;> simp [g, ← g', e]
   ·cases minus <;> simp [g, g']
theorem cents_MulDiv.last (N c mode : Int) (minus : Bool) (hN : 0 ≤ N) (hc : 0 < c) (hc2 : c ≤ 9223372036854775808) (hm : 1 ≤ mode ∧ mode ≤ 4) (hq : N / c < 18446744073709551616) (n : Int) (hn : n = if minus = true then -N else N) (k : Nat) :
  (if N % c > 0 then (cents_further.f (N / c) (N % c) c minus mode).bind fun t => cents_MulDiv.j1 (k + 1) minus (N / c) t else cents_MulDiv.j1 (k + 1) minus (N / c) false) = some (M.told (M.quo n c mode)) := by
 have r0 := Int.emod_nonneg N (show c ≠ 0 by omega)
 have r1 := Int.emod_lt_of_pos N hc
 have hq0 : 0 ≤ N / c := Int.ediv_nonneg hN (by omega)
 have hs := M.quo_sized hN hc hm
 have key : ∀ (t : Bool) (v : Int), (v = if minus = true then -(N / c + (if t = true then 1 else 0)) else N / c + (if t = true then 1 else 0)) →
   cents_MulDiv.j1 (k + 1) minus (N / c) t = some (M.told v) := by
  intro t v hv
  simp only [cents_MulDiv.j1]
  generalize N / c = q at *
  unfold cents_signed.f
  cases t with
  | true =>
   simp only [if_true] at hv ⊢
   by_cases hz : IntKind.u64.wrap (q + 1) = 0
   ·rw [if_pos hz, M.told_out]
    intro hin
    unfold M.In at hin
    rw [M.wrapu] at hz
    cases minus <;> simp at hv <;> omega
   ·rw [if_neg hz]
    have hw : IntKind.u64.wrap (q + 1) = q + 1 := by rw [M.wrapu] at hz ⊢; omega
    rw [hw]
    cases minus with
    | true =>
     simp only [if_true] at hv ⊢
     rw [Option.bind_some]
     by_cases hle : q + 1 ≤ 9223372036854775808
     ·rw [if_pos (decide_eq_true hle), M.told_in (show M.In v from ⟨by omega, by omega⟩)]
      refine congrArg some (Prod.ext ?_ rfl)
      simp only [M.wrapu]; unfold wrap64; omega
     ·rw [if_neg (by simpa using hle), M.told_out (fun hin => by unfold M.In at hin; omega)]
    | false =>
     simp only [Bool.false_eq_true, if_false] at hv ⊢
     rw [Option.bind_some]
     by_cases hle : q + 1 < 9223372036854775808
     ·rw [if_pos (decide_eq_true hle), M.told_in (show M.In v from ⟨by omega, by omega⟩)]
      refine congrArg some (Prod.ext ?_ rfl)
      simp only []; unfold wrap64; omega
     ·rw [if_neg (by simpa using hle), M.told_out (fun hin => by unfold M.In at hin; omega)]
  | false =>
   simp only [Bool.false_eq_true, if_false] at hv ⊢
   cases minus with
   | true =>
    simp only [if_true] at hv ⊢
    rw [Option.bind_some]
    by_cases hle : q ≤ 9223372036854775808
    ·rw [if_pos (decide_eq_true hle), M.told_in (show M.In v from ⟨by omega, by omega⟩)]
     refine congrArg some (Prod.ext ?_ rfl)
     simp only [M.wrapu]; unfold wrap64; omega
    ·rw [if_neg (by simpa using hle), M.told_out (fun hin => by unfold M.In at hin; omega)]
   | false =>
    simp only [Bool.false_eq_true, if_false] at hv ⊢
    rw [Option.bind_some]
    by_cases hle : q < 9223372036854775808
    ·rw [if_pos (decide_eq_true hle), M.told_in (show M.In v from ⟨by omega, by omega⟩)]
     refine congrArg some (Prod.ext ?_ rfl)
     simp only []; unfold wrap64; omega
    ·rw [if_neg (by simpa using hle), M.told_out (fun hin => by unfold M.In at hin; omega)]
 by_cases hr : N % c > 0
 ·rw [if_pos hr, cents_MulDiv.further_tells _ _ _ _ _ hm hq0 hq hr r1 (by omega), Option.bind_some]
  apply key
  subst hn
  cases minus with
  | true =>
   simp only [if_true]
   rw [hs.2]
   congr 2
   simp only [hr, true_and, decide_eq_true_eq]
  | false =>
   simp only [Bool.false_eq_true, if_false]
   rw [hs.1]
   congr 2
   simp only [hr, true_and, decide_eq_true_eq]
 ·rw [if_neg hr]
  apply key
  subst hn
  cases minus with
  | true => simp only [if_true]; rw [hs.2]; simp [hr]
  | false => simp only [Bool.false_eq_true, if_false]; rw [hs.1]; simp [hr]
theorem cents_MulDiv.quo_over {N c mode : Int} (hN : 0 ≤ N) (hc : 0 < c) (hm : 1 ≤ mode ∧ mode ≤ 4) (hq : 18446744073709551616 ≤ N / c) : ¬ M.In (M.quo N c mode) ∧ ¬ M.In (M.quo (-N) c mode) := by
 have hs := M.quo_sized hN hc hm
 rw [hs.1, hs.2]
 unfold M.In
 constructor <;> split <;> omega
theorem cents_MulDiv.quo_neg (n c mode : Int) (hc : c < 0) : M.quo n c mode = M.quo (-n) (-c) mode := by
 unfold M.quo
 simp only [if_pos hc, if_neg (show ¬ -c < 0 by omega)]
theorem cents_MulDiv.abs_mul (a b : Int) : a * b = if (decide (a < 0) == decide (b < 0)) = true then M.abs a * M.abs b else -(M.abs a * M.abs b) := by
 unfold M.abs
 by_cases ha : a < 0 <;> by_cases hb : b < 0 <;> simp [ha, hb, Int.neg_mul, Int.mul_neg]
theorem cents_MulDiv.tells (a b c mode : Int) (ha : M.In a) (hb : M.In b) (hc : M.In c) (k : Nat) (hk : 4 ≤ k) :
  cents_MulDiv.f k a b c mode = some (if c = 0 ∨ mode < 1 ∨ mode > 4 then (0, some 1) else M.told (M.quo (a * b) c mode)) := by
 obtain ⟨k, rfl⟩ : ∃ m, k = m + 2 := ⟨k - 2, by omega⟩
 unfold cents_MulDiv.f
 by_cases hc0 : c = 0
 ·rw [if_pos hc0, if_pos (.inl hc0)]
  simp [cents_MulDiv.j0]
 rw [if_neg hc0]
 by_cases hm1 : mode < 1
 ·rw [if_pos hm1, if_pos (.inr (.inl hm1))]
  simp [cents_MulDiv.j0]
 rw [if_neg hm1]
 by_cases hm4 : mode > 4
 ·rw [decide_eq_true hm4, if_pos (.inr (.inr hm4))]
  simp [cents_MulDiv.j0]
 rw [decide_eq_false hm4, if_neg (by omega)]
 have hm : 1 ≤ mode ∧ mode ≤ 4 := by omega
 simp only [cents_MulDiv.j0]
 rw [if_neg (by decide), cents_MulDiv.size_tells a ha, cents_MulDiv.size_tells b hb, cents_MulDiv.size_tells c hc]
 simp only [Option.bind_some]
 have ba : 0 ≤ M.abs a ∧ M.abs a ≤ 9223372036854775808 := by unfold M.abs M.In at *; split <;> omega
 have bb : 0 ≤ M.abs b ∧ M.abs b ≤ 9223372036854775808 := by unfold M.abs M.In at *; split <;> omega
 have bc : 0 < M.abs c ∧ M.abs c ≤ 9223372036854775808 := by unfold M.abs M.In at *; split <;> omega
 have hN : 0 ≤ M.abs a * M.abs b := Int.mul_nonneg ba.1 bb.1
 unfold bits_Mul64_s.f
 rw [if_pos ⟨ba.1, by omega, bb.1, by omega⟩]
 simp only [Option.bind_some]
 have hcq : M.quo (a * b) c mode = M.quo (if (!((!(decide (a < 0) == decide (b < 0))) == decide (c < 0))) = true then -(M.abs a * M.abs b) else M.abs a * M.abs b) (M.abs c) mode := by
  rw [cents_MulDiv.abs_mul a b]
  by_cases h : c < 0
  ·rw [cents_MulDiv.quo_neg _ _ _ h]
   have : M.abs c = -c := by unfold M.abs; rw [if_pos h]
   rw [this, decide_eq_true h]
   cases hd : (decide (a < 0) == decide (b < 0)) <;> simp
  ·have : M.abs c = c := by unfold M.abs; rw [if_neg h]
   rw [this, decide_eq_false h]
   cases hd : (decide (a < 0) == decide (b < 0)) <;> simp
 rw [hcq]
 generalize (!((!(decide (a < 0) == decide (b < 0))) == decide (c < 0))) = minus at *
 generalize M.abs a * M.abs b = N at *
 generalize M.abs c = z at *
 by_cases hov : N / 18446744073709551616 ≥ z
 ·rw [if_pos hov, M.told_out]
  have hq : 18446744073709551616 ≤ N / z := by
   apply M.le_div bc.1
   rw [Int.mul_comm]
   omega
  have := cents_MulDiv.quo_over hN bc.1 hm hq
  cases minus
  ·exact this.1
  ·exact this.2
 ·rw [if_neg hov]
  unfold bits_Div64_s.f
  rw [if_pos ⟨by omega, by omega, by omega, by omega, by omega⟩]
  simp only [Option.bind_some]
  have e : N / 18446744073709551616 * 18446744073709551616 + N % 18446744073709551616 = N := by omega
  rw [e]
  refine cents_MulDiv.last N z mode minus hN bc.1 bc.2 hm ?_ _ rfl k
  apply M.div_lt bc.1
  rw [Int.mul_comm]
  omega
def cents_MulDiv_s.f (a b c mode : Int) : Option (Int × Option Int) :=
 if M.In a ∧ M.In b ∧ M.In c then some (if c = 0 ∨ mode < 1 ∨ mode > 4 then (0, some 1) else M.told (M.quo (a * b) c mode)) else none
theorem cents_MulDiv_s.calls (a0 : Int) (a1 : Int) (a2 : Int) (a3 : Int) (r1 : Int) (r2 : Option Int) (w : World) (h : cents_MulDiv_s.f a0 a1 a2 a3 = some (r1, r2)) :
  Calls Try.prog 13 #[.int .i64 a0, .int .i64 a1, .int .i64 a2, .int .i64 a3] w fun e w' => e = .returned (.tuple #[.int .i64 r1, errW r2]) ∧ Drawn0 w w' := by
 unfold cents_MulDiv_s.f at h
 split at h
 ·rename_i hr
  exact cents_MulDiv.calls 4 a0 a1 a2 a3 r1 r2 w ((cents_MulDiv.tells a0 a1 a2 a3 hr.1 hr.2.1 hr.2.2 4 (Nat.le_refl _)).trans h)
 ·cases h
theorem cents_MulDiv_s.at_ {a b c mode : Int} (ha : M.In a) (hb : M.In b) (hc : M.In c) : cents_MulDiv_s.f a b c mode = some (if c = 0 ∨ mode < 1 ∨ mode > 4 then (0, some 1) else M.told (M.quo (a * b) c mode)) := by unfold cents_MulDiv_s.f; rw [if_pos ⟨ha, hb, hc⟩]

/-! ### trivetlaw01_up: function 12 -/
def trivetlaw01_up.f  : Option (Bool) := (cents_MulDiv_s.f (-7) 1 2 1).bind fun bt118 => ((cents_MulDiv_s.f 5 1 2 4).bind fun bt120 => ((cents_MulDiv_s.f 1 1 0 2).bind fun bt122 => (if bt118.2.isNone = true then (if bt118.1 = (-4) then (if bt120.2.isNone = true then (if bt120.1 = 2 then (if bt122.2.isNone = true then (some false) else (some ((bt122.2.getD 0) == 1))) else (some false)) else (some false)) else (some false)) else (some false))))
set_option maxHeartbeats 8000000 in
set_option maxRecDepth 100000 in
theorem trivetlaw01_up.calls  (r : Bool) (w : World) (h : trivetlaw01_up.f  = some r) :
  Calls Try.prog 12 #[] w fun e w' => e = .returned (.bool r) ∧ Drawn0 w w' := by
 have hu24 := Try.underlying24
 have hu27 := Try.underlying27
 have H : ((cents_MulDiv_s.f (-7) 1 2 1).bind fun bt118 => ((cents_MulDiv_s.f 5 1 2 4).bind fun bt120 => ((cents_MulDiv_s.f 1 1 0 2).bind fun bt122 => (if bt118.2.isNone = true then (if bt118.1 = (-4) then (if bt120.2.isNone = true then (if bt120.1 = 2 then (if bt122.2.isNone = true then (some false) else (some ((bt122.2.getD 0) == 1))) else (some false)) else (some false)) else (some false)) else (some false))))) = some r := h
 clear h
 replace H := Option.bind_eq_some_iff.mp H
 obtain ⟨⟨t118, t119⟩, A10, H⟩ := H
 replace H : ((cents_MulDiv_s.f 5 1 2 4).bind fun bt120 => ((cents_MulDiv_s.f 1 1 0 2).bind fun bt122 => (if t119.isNone = true then (if t118 = (-4) then (if bt120.2.isNone = true then (if bt120.1 = 2 then (if bt122.2.isNone = true then (some false) else (some ((bt122.2.getD 0) == 1))) else (some false)) else (some false)) else (some false)) else (some false)))) = some r := H
 have A1 := ka A10
 clear A10
 replace H := Option.bind_eq_some_iff.mp H
 obtain ⟨⟨t120, t121⟩, A20, H⟩ := H
 replace H : ((cents_MulDiv_s.f 1 1 0 2).bind fun bt122 => (if t119.isNone = true then (if t118 = (-4) then (if t121.isNone = true then (if t120 = 2 then (if bt122.2.isNone = true then (some false) else (some ((bt122.2.getD 0) == 1))) else (some false)) else (some false)) else (some false)) else (some false))) = some r := H
 have A2 := ka A20
 clear A20
 replace H := Option.bind_eq_some_iff.mp H
 obtain ⟨⟨t122, t123⟩, A30, H⟩ := H
 replace H : (if t119.isNone = true then (if t118 = (-4) then (if t121.isNone = true then (if t120 = 2 then (if t123.isNone = true then (some false) else (some ((t123.getD 0) == 1))) else (some false)) else (some false)) else (some false)) else (some false)) = some r := H
 have A3 := ka A30
 clear A30
 rcases t119 with _ | q124
 ·have H1 : (if t118 = (-4) then (if t121.isNone = true then (if t120 = 2 then (if t123.isNone = true then (some false) else (some ((t123.getD 0) == 1))) else (some false)) else (some false)) else (some false)) = some r := by rw [if_pos (show (none : Option Int).isNone = true by rfl)] at H; exact H
  clear H
  have H := H1
  clear H1
  try simp only [errW_none, errW_some]
  by_cases c4 : t118 = (-4)
  ·rw [if_pos c4] at H
   have c4b0 : (t118 == (-4)) = true := beq_iff_eq.mpr c4
   have c4b1 : (t118 != (-4)) = false := bne_eq_false_iff_eq.mpr c4
   clear c4
   rcases t121 with _ | q125
   ·have H1 : (if t120 = 2 then (if t123.isNone = true then (some false) else (some ((t123.getD 0) == 1))) else (some false)) = some r := by rw [if_pos (show (none : Option Int).isNone = true by rfl)] at H; exact H
    clear H
    have H := H1
    clear H1
    try simp only [errW_none, errW_some]
    by_cases c5 : t120 = 2
    ·rw [if_pos c5] at H
     have c5b0 : (t120 == 2) = true := beq_iff_eq.mpr c5
     have c5b1 : (t120 != 2) = false := bne_eq_false_iff_eq.mpr c5
     clear c5
     rcases t123 with _ | q126
     ·have H1 : (some false) = some r := by rw [if_pos (show (none : Option Int).isNone = true by rfl)] at H; exact H
      clear H
      have H := H1
      clear H1
      try simp only [errW_none, errW_some]
      obtain rfl := Option.some.inj H
      go_enter Try.func12, Try.ntmps12
      go_wp2_with (first | ((with_reducible refine gate_callee (f := 13) rfl ?_); refine kg (some 8) rfl rfl Try.func13 (by kernel_rfl) rfl #[.int .i64 (-7), .int .i64 1, .int .i64 2, .int .i64 1] rfl ?_; (with_reducible refine (cents_MulDiv_s.calls (-7) 1 2 1 t118 none _ A1.out).mono ?_); rintro e w' ⟨rfl, ⟨nd, rfl⟩⟩; refine ⟨_, rfl, ?_⟩; (try simp only [errW_none, errW_some])) | ((with_reducible refine gate_callee (f := 13) rfl ?_); refine kg (some 12) rfl rfl Try.func13 (by kernel_rfl) rfl #[.int .i64 5, .int .i64 1, .int .i64 2, .int .i64 4] rfl ?_; (with_reducible refine (cents_MulDiv_s.calls 5 1 2 4 t120 none _ A2.out).mono ?_); rintro e w' ⟨rfl, ⟨nd, rfl⟩⟩; refine ⟨_, rfl, ?_⟩; (try simp only [errW_none, errW_some])) | ((with_reducible refine gate_callee (f := 13) rfl ?_); refine kg (some 16) rfl rfl Try.func13 (by kernel_rfl) rfl #[.int .i64 1, .int .i64 1, .int .i64 0, .int .i64 2] rfl ?_; (with_reducible refine (cents_MulDiv_s.calls 1 1 0 2 t122 none _ A3.out).mono ?_); rintro e w' ⟨rfl, ⟨nd, rfl⟩⟩; refine ⟨_, rfl, ?_⟩; (try simp only [errW_none, errW_some])))
      go_ret
      exact ⟨by first | rfl | (simp; done) | (simp [*]; done), by repeat (first | exact Drawn0.refl _ | apply Drawn0.step)⟩
     ·have H1 : (some (q126 == 1)) = some r := by rw [if_neg (show ¬ (some q126).isNone = true by simp)] at H; exact H
      clear H
      have H := H1
      clear H1
      try simp only [errW_none, errW_some]
      obtain rfl := Option.some.inj H
      go_enter Try.func12, Try.ntmps12
      go_wp2_with (first | ((with_reducible refine gate_callee (f := 13) rfl ?_); refine kg (some 8) rfl rfl Try.func13 (by kernel_rfl) rfl #[.int .i64 (-7), .int .i64 1, .int .i64 2, .int .i64 1] rfl ?_; (with_reducible refine (cents_MulDiv_s.calls (-7) 1 2 1 t118 none _ A1.out).mono ?_); rintro e w' ⟨rfl, ⟨nd, rfl⟩⟩; refine ⟨_, rfl, ?_⟩; (try simp only [errW_none, errW_some])) | ((with_reducible refine gate_callee (f := 13) rfl ?_); refine kg (some 12) rfl rfl Try.func13 (by kernel_rfl) rfl #[.int .i64 5, .int .i64 1, .int .i64 2, .int .i64 4] rfl ?_; (with_reducible refine (cents_MulDiv_s.calls 5 1 2 4 t120 none _ A2.out).mono ?_); rintro e w' ⟨rfl, ⟨nd, rfl⟩⟩; refine ⟨_, rfl, ?_⟩; (try simp only [errW_none, errW_some])) | ((with_reducible refine gate_callee (f := 13) rfl ?_); refine kg (some 16) rfl rfl Try.func13 (by kernel_rfl) rfl #[.int .i64 1, .int .i64 1, .int .i64 0, .int .i64 2] rfl ?_; (with_reducible refine (cents_MulDiv_s.calls 1 1 0 2 t122 (some q126) _ A3.out).mono ?_); rintro e w' ⟨rfl, ⟨nd, rfl⟩⟩; refine ⟨_, rfl, ?_⟩; (try simp only [errW_none, errW_some])))
      go_ret
      exact ⟨by first | rfl | (simp; done) | (simp [*]; done), by repeat (first | exact Drawn0.refl _ | apply Drawn0.step)⟩
    ·rw [if_neg c5] at H
     have c5b0 : (t120 == 2) = false := beq_eq_false_iff_ne.mpr c5
     have c5b1 : (t120 != 2) = true := bne_iff_ne.mpr c5
     obtain rfl := Option.some.inj H
     go_enter Try.func12, Try.ntmps12
     go_wp2_with (first | ((with_reducible refine gate_callee (f := 13) rfl ?_); refine kg (some 8) rfl rfl Try.func13 (by kernel_rfl) rfl #[.int .i64 (-7), .int .i64 1, .int .i64 2, .int .i64 1] rfl ?_; (with_reducible refine (cents_MulDiv_s.calls (-7) 1 2 1 t118 none _ A1.out).mono ?_); rintro e w' ⟨rfl, ⟨nd, rfl⟩⟩; refine ⟨_, rfl, ?_⟩; (try simp only [errW_none, errW_some])) | ((with_reducible refine gate_callee (f := 13) rfl ?_); refine kg (some 12) rfl rfl Try.func13 (by kernel_rfl) rfl #[.int .i64 5, .int .i64 1, .int .i64 2, .int .i64 4] rfl ?_; (with_reducible refine (cents_MulDiv_s.calls 5 1 2 4 t120 none _ A2.out).mono ?_); rintro e w' ⟨rfl, ⟨nd, rfl⟩⟩; refine ⟨_, rfl, ?_⟩; (try simp only [errW_none, errW_some])) | ((with_reducible refine gate_callee (f := 13) rfl ?_); refine kg (some 16) rfl rfl Try.func13 (by kernel_rfl) rfl #[.int .i64 1, .int .i64 1, .int .i64 0, .int .i64 2] rfl ?_; (with_reducible refine (cents_MulDiv_s.calls 1 1 0 2 t122 t123 _ A3.out).mono ?_); rintro e w' ⟨rfl, ⟨nd, rfl⟩⟩; refine ⟨_, rfl, ?_⟩; (try simp only [errW_none, errW_some])))
     go_ret
     exact ⟨by first | rfl | (simp; done) | (simp [*]; done), by repeat (first | exact Drawn0.refl _ | apply Drawn0.step)⟩
   ·have H1 : (some false) = some r := by rw [if_neg (show ¬ (some q125).isNone = true by simp)] at H; exact H
    clear H
    have H := H1
    clear H1
    try simp only [errW_none, errW_some]
    obtain rfl := Option.some.inj H
    go_enter Try.func12, Try.ntmps12
    go_wp2_with (first | ((with_reducible refine gate_callee (f := 13) rfl ?_); refine kg (some 8) rfl rfl Try.func13 (by kernel_rfl) rfl #[.int .i64 (-7), .int .i64 1, .int .i64 2, .int .i64 1] rfl ?_; (with_reducible refine (cents_MulDiv_s.calls (-7) 1 2 1 t118 none _ A1.out).mono ?_); rintro e w' ⟨rfl, ⟨nd, rfl⟩⟩; refine ⟨_, rfl, ?_⟩; (try simp only [errW_none, errW_some])) | ((with_reducible refine gate_callee (f := 13) rfl ?_); refine kg (some 12) rfl rfl Try.func13 (by kernel_rfl) rfl #[.int .i64 5, .int .i64 1, .int .i64 2, .int .i64 4] rfl ?_; (with_reducible refine (cents_MulDiv_s.calls 5 1 2 4 t120 (some q125) _ A2.out).mono ?_); rintro e w' ⟨rfl, ⟨nd, rfl⟩⟩; refine ⟨_, rfl, ?_⟩; (try simp only [errW_none, errW_some])) | ((with_reducible refine gate_callee (f := 13) rfl ?_); refine kg (some 16) rfl rfl Try.func13 (by kernel_rfl) rfl #[.int .i64 1, .int .i64 1, .int .i64 0, .int .i64 2] rfl ?_; (with_reducible refine (cents_MulDiv_s.calls 1 1 0 2 t122 t123 _ A3.out).mono ?_); rintro e w' ⟨rfl, ⟨nd, rfl⟩⟩; refine ⟨_, rfl, ?_⟩; (try simp only [errW_none, errW_some])))
    go_ret
    exact ⟨by first | rfl | (simp; done) | (simp [*]; done), by repeat (first | exact Drawn0.refl _ | apply Drawn0.step)⟩
  ·rw [if_neg c4] at H
   have c4b0 : (t118 == (-4)) = false := beq_eq_false_iff_ne.mpr c4
   have c4b1 : (t118 != (-4)) = true := bne_iff_ne.mpr c4
   obtain rfl := Option.some.inj H
   go_enter Try.func12, Try.ntmps12
   go_wp2_with (first | ((with_reducible refine gate_callee (f := 13) rfl ?_); refine kg (some 8) rfl rfl Try.func13 (by kernel_rfl) rfl #[.int .i64 (-7), .int .i64 1, .int .i64 2, .int .i64 1] rfl ?_; (with_reducible refine (cents_MulDiv_s.calls (-7) 1 2 1 t118 none _ A1.out).mono ?_); rintro e w' ⟨rfl, ⟨nd, rfl⟩⟩; refine ⟨_, rfl, ?_⟩; (try simp only [errW_none, errW_some])) | ((with_reducible refine gate_callee (f := 13) rfl ?_); refine kg (some 12) rfl rfl Try.func13 (by kernel_rfl) rfl #[.int .i64 5, .int .i64 1, .int .i64 2, .int .i64 4] rfl ?_; (with_reducible refine (cents_MulDiv_s.calls 5 1 2 4 t120 t121 _ A2.out).mono ?_); rintro e w' ⟨rfl, ⟨nd, rfl⟩⟩; refine ⟨_, rfl, ?_⟩; (try simp only [errW_none, errW_some])) | ((with_reducible refine gate_callee (f := 13) rfl ?_); refine kg (some 16) rfl rfl Try.func13 (by kernel_rfl) rfl #[.int .i64 1, .int .i64 1, .int .i64 0, .int .i64 2] rfl ?_; (with_reducible refine (cents_MulDiv_s.calls 1 1 0 2 t122 t123 _ A3.out).mono ?_); rintro e w' ⟨rfl, ⟨nd, rfl⟩⟩; refine ⟨_, rfl, ?_⟩; (try simp only [errW_none, errW_some])))
   go_ret
   exact ⟨by first | rfl | (simp; done) | (simp [*]; done), by repeat (first | exact Drawn0.refl _ | apply Drawn0.step)⟩
 ·have H1 : (some false) = some r := by rw [if_neg (show ¬ (some q124).isNone = true by simp)] at H; exact H
  clear H
  have H := H1
  clear H1
  try simp only [errW_none, errW_some]
  obtain rfl := Option.some.inj H
  go_enter Try.func12, Try.ntmps12
  go_wp2_with (first | ((with_reducible refine gate_callee (f := 13) rfl ?_); refine kg (some 8) rfl rfl Try.func13 (by kernel_rfl) rfl #[.int .i64 (-7), .int .i64 1, .int .i64 2, .int .i64 1] rfl ?_; (with_reducible refine (cents_MulDiv_s.calls (-7) 1 2 1 t118 (some q124) _ A1.out).mono ?_); rintro e w' ⟨rfl, ⟨nd, rfl⟩⟩; refine ⟨_, rfl, ?_⟩; (try simp only [errW_none, errW_some])) | ((with_reducible refine gate_callee (f := 13) rfl ?_); refine kg (some 12) rfl rfl Try.func13 (by kernel_rfl) rfl #[.int .i64 5, .int .i64 1, .int .i64 2, .int .i64 4] rfl ?_; (with_reducible refine (cents_MulDiv_s.calls 5 1 2 4 t120 t121 _ A2.out).mono ?_); rintro e w' ⟨rfl, ⟨nd, rfl⟩⟩; refine ⟨_, rfl, ?_⟩; (try simp only [errW_none, errW_some])) | ((with_reducible refine gate_callee (f := 13) rfl ?_); refine kg (some 16) rfl rfl Try.func13 (by kernel_rfl) rfl #[.int .i64 1, .int .i64 1, .int .i64 0, .int .i64 2] rfl ?_; (with_reducible refine (cents_MulDiv_s.calls 1 1 0 2 t122 t123 _ A3.out).mono ?_); rintro e w' ⟨rfl, ⟨nd, rfl⟩⟩; refine ⟨_, rfl, ?_⟩; (try simp only [errW_none, errW_some])))
  go_ret
  exact ⟨by first | rfl | (simp; done) | (simp [*]; done), by repeat (first | exact Drawn0.refl _ | apply Drawn0.step)⟩

/-! ### trivetlaw01_up_s: function 12, told plainly -/
theorem trivetlaw01_up.tells : trivetlaw01_up.f = some true := by decide
def trivetlaw01_up_s.f : Option Bool := some true
theorem trivetlaw01_up_s.calls (r : Bool) (w : World) (h : trivetlaw01_up_s.f = some r) :
  Calls Try.prog 12 #[] w fun e w' => e = .returned (.bool r) ∧ Drawn0 w w' := trivetlaw01_up.calls r w (trivetlaw01_up.tells.trans h)

/-! ### cents_Add: function 16 -/
def cents_Add.f (a0 : Int) (a1 : Int) : Option (Int × Option Int) := if ((decide ((wrap64 (a0 + a1)) > a0)) == (decide (a1 > 0))) = true then (some (wrap64 (a0 + a1), none)) else (if a1 = 0 then (some (wrap64 (a0 + a1), none)) else (some (0, some 3)))
set_option maxHeartbeats 8000000 in
set_option maxRecDepth 100000 in
theorem cents_Add.calls (a0 : Int) (a1 : Int) (r1 : Int) (r2 : Option Int) (w : World) (h : cents_Add.f a0 a1 = some (r1, r2)) :
  Calls Try.prog 16 #[.int .i64 a0, .int .i64 a1] w fun e w' => e = .returned (.tuple #[.int .i64 r1, errW r2]) ∧ Drawn0 w w' := by
 have hu24 := Try.underlying24
 have hu27 := Try.underlying27
 have H : (if ((decide ((wrap64 (a0 + a1)) > a0)) == (decide (a1 > 0))) = true then (some (wrap64 (a0 + a1), none)) else (if a1 = 0 then (some (wrap64 (a0 + a1), none)) else (some (0, some 3)))) = some (r1, r2) := h
 clear h
 by_cases c3 : ((decide ((wrap64 (a0 + a1)) > a0)) == (decide (a1 > 0))) = true
 ·rw [if_pos c3] at H
  have c3b0 : ((decide ((wrap64 (a0 + a1)) > a0)) == (decide (a1 > 0))) = true := c3
  (try (have c3b1 : decide ((decide ((wrap64 (a0 + a1)) > a0)) = (decide (a1 > 0))) = true := by simpa using c3))
  (try (have c3b2 : ((decide ((wrap64 (a0 + a1)) > a0)) == (decide (a1 > 0))) = true := by simpa using c3))
  clear c3
  simp only [Option.some.injEq, Prod.mk.injEq] at H
  obtain ⟨rfl, rfl⟩ := H
  go_enter Try.func16, Try.ntmps16
  go_wp2
  go_ret2
  exact ⟨by first | rfl | (simp; done) | (simp [*]; done), by repeat (first | exact Drawn0.refl _ | apply Drawn0.step)⟩
 ·rw [if_neg c3] at H
  have c3b0 : ((decide ((wrap64 (a0 + a1)) > a0)) == (decide (a1 > 0))) = false := by simpa using c3
  (try (have c3b1 : decide ((decide ((wrap64 (a0 + a1)) > a0)) = (decide (a1 > 0))) = false := by simpa using c3))
  (try (have c3b2 : ((decide ((wrap64 (a0 + a1)) > a0)) == (decide (a1 > 0))) = false := by simpa using c3))
  (try (have c3b3 : ¬ ((decide ((wrap64 (a0 + a1)) > a0)) = (decide (a1 > 0))) := by simpa using c3))
  clear c3
  by_cases c4 : a1 = 0
  ·rw [if_pos c4] at H
   have c4b0 : (a1 == 0) = true := beq_iff_eq.mpr c4
   have c4b1 : (a1 != 0) = false := bne_eq_false_iff_eq.mpr c4
   clear c4
   simp only [Option.some.injEq, Prod.mk.injEq] at H
   obtain ⟨rfl, rfl⟩ := H
   go_enter Try.func16, Try.ntmps16
   go_wp2
   go_ret2
   exact ⟨by first | rfl | (simp; done) | (simp [*]; done), by repeat (first | exact Drawn0.refl _ | apply Drawn0.step)⟩
  ·rw [if_neg c4] at H
   have c4b0 : (a1 == 0) = false := beq_eq_false_iff_ne.mpr c4
   have c4b1 : (a1 != 0) = true := bne_iff_ne.mpr c4
   simp only [Option.some.injEq, Prod.mk.injEq] at H
   obtain ⟨rfl, rfl⟩ := H
   go_enter Try.func16, Try.ntmps16
   go_wp2
   go_ret2
   exact ⟨by first | rfl | (simp; done) | (simp [*]; done), by repeat (first | exact Drawn0.refl _ | apply Drawn0.step)⟩

/-! ### cents_Add_s: function 16, told plainly -/
theorem cents_Add.tells (a b : Int) (ha : M.In a) (hb : M.In b) : cents_Add.f a b = some (M.told (a + b)) := by
 unfold cents_Add.f
 have hw : wrap64 (a + b) = a + b ∨ ¬ M.In (a + b) := by
  by_cases h : M.In (a + b)
  ·exact .inl (M.w64_id h.1 h.2)
  ·exact .inr h
 rcases hw with hw | hw
 ·rw [hw, M.told_in (by rw [← hw]; unfold M.In wrap64; omega)]
  by_cases h0 : b = 0
  ·subst h0; simp
  ·by_cases h1 : b > 0 <;> simp [h0, h1] <;> omega
 ·rw [M.told_out hw]
  have h0 : b ≠ 0 := by rintro rfl; exact hw (by simpa using ha)
  unfold M.In at *
  have h2 : (wrap64 (a + b) > a) ↔ ¬ (b > 0) := by unfold wrap64; omega
  by_cases h1 : b > 0
  ·have h3 : ¬ (wrap64 (a + b) > a) := fun h => h2.mp h h1
   simp only [decide_eq_true h1, decide_eq_false h3]
   simp [h0]
  ·have h3 := h2.mpr h1
   simp only [decide_eq_false h1, decide_eq_true h3]
   simp [h0]
def cents_Add_s.f (a b : Int) : Option (Int × Option Int) := if M.In a ∧ M.In b then some (M.told (a + b)) else none
theorem cents_Add_s.calls (a0 : Int) (a1 : Int) (r1 : Int) (r2 : Option Int) (w : World) (h : cents_Add_s.f a0 a1 = some (r1, r2)) :
  Calls Try.prog 16 #[.int .i64 a0, .int .i64 a1] w fun e w' => e = .returned (.tuple #[.int .i64 r1, errW r2]) ∧ Drawn0 w w' := by
 unfold cents_Add_s.f at h
 split at h
 ·rename_i hr
  exact cents_Add.calls a0 a1 r1 r2 w ((cents_Add.tells a0 a1 hr.1 hr.2).trans h)
 ·cases h
theorem cents_Add_s.at_ {a b : Int} (ha : M.In a) (hb : M.In b) : cents_Add_s.f a b = some (M.told (a + b)) := by unfold cents_Add_s.f; rw [if_pos ⟨ha, hb⟩]

-- NOT PRINTED: function 35 (bits_Add64)

/-! ### cents_Sum: function 23 -/
def cents_Sum.l0 : Nat → Int → Int → List Int → Int → Int → Option (Int × Option Int)
 | 0, _, _, _, _, _ => none
 | k + 1, x4, x5, x10, x11, x12 => if x12 < x11 then (if 0 ≤ x12 then (if x12 < (x10.length : Int) then (if x5 < 18446744073709551616 then (cents_Sum.l0 k ((Add64.f x4 (IntKind.u64.wrap ((rd x10 x12) / 9223372036854775808)) ((Add64.f x5 (IntKind.u64.wrap (rd x10 x12)) 0).2)).1) ((Add64.f x5 (IntKind.u64.wrap (rd x10 x12)) 0).1) x10 x11 (wrap64 (x12 + 1))) else (none)) else (none)) else (none)) else (if x4 = (IntKind.u64.wrap ((wrap64 (x5)) / 9223372036854775808)) then (some (wrap64 (x5), none)) else (some (0, some 3)))
def cents_Sum.f (k : Nat) (l0 : List Int) : Option (Int × Option Int) := cents_Sum.l0 k 0 0 l0 (l0.length : Int) 0
theorem cents_Sum.mono_l : ∀ k, (∀ y0 y1 y2 y3 y4, LeO (cents_Sum.l0 k y0 y1 y2 y3 y4) (cents_Sum.l0 (k + 1) y0 y1 y2 y3 y4))
 | 0 => fun _ _ _ _ _ r h => by simp [cents_Sum.l0] at h
 | k + 1 => by
  have ih0 := cents_Sum.mono_l k
  ·intro y0 y1 y2 y3 y4
   unfold cents_Sum.l0
   repeat' first
   | (with_reducible exact ih0 _ _ _ _ _)
   | (with_reducible exact LeO.refl _)
   | (with_reducible exact LeO.none _)
   | (with_reducible refine LeO.ite ?_ ?_)
   | (with_reducible refine LeO.bind ?_ (fun _ => ?_))
   | exact ih0 _ _ _ _ _
   | exact LeO.none _
   | refine LeO.ite ?_ ?_
   | refine LeO.bind ?_ (fun _ => ?_)
theorem cents_Sum.mono : ∀ a0 k, LeO (cents_Sum.f k a0) (cents_Sum.f (k + 1) a0) := by
 intro a0 k
 have ih0 := cents_Sum.mono_l k
 unfold cents_Sum.f
 repeat' first
   | (with_reducible exact ih0 _ _ _ _ _)
   | (with_reducible exact LeO.refl _)
   | (with_reducible exact LeO.none _)
   | (with_reducible refine LeO.ite ?_ ?_)
   | (with_reducible refine LeO.bind ?_ (fun _ => ?_))
   | exact ih0 _ _ _ _ _
   | exact LeO.none _
   | refine LeO.ite ?_ ?_
   | refine LeO.bind ?_ (fun _ => ?_)
set_option maxHeartbeats 8000000 in
set_option maxRecDepth 100000 in
theorem cents_Sum.calls (k : Nat) (A0 : Option Addr) (c0 : Nat) (l0 : List Int) (r1 : Int) (r2 : Option Int) (w : World) (hr0 : Kd.C (Kd.int .i64) w A0 l0.length l0) (hc0 : l0.length ≤ c0) (h : cents_Sum.f k l0 = some (r1, r2)) :
  Calls Try.prog 23 #[.slice A0 l0.length c0] w fun e w' => e = .returned (.tuple #[.int .i64 r1, errW r2]) ∧ Drawn0 w w' := by
 have hu24 := Try.underlying24
 have hu27 := Try.underlying27
 have HR0 := ka hr0
 have HC0 := ka hc0
 clear hr0 hc0
 have H : (cents_Sum.l0 k 0 0 l0 (l0.length : Int) 0) = some (r1, r2) := h
 clear h
 have H' := ka H
 clear H
 go_enter Try.func23, Try.ntmps23
 go_wp2
 (try simp only [Act.put, List.setIfInBounds_toArray, List.set_cons_zero, List.set_cons_succ])
 go_loopg [4, 5, 12] k (fun kq v4 v5 v12 w' => ∃ (x4_1 : Int) (x5_1 : Int) (x12_1 : Int), v4 = .int .u64 x4_1 ∧ v5 = .int .u64 x5_1 ∧ v12 = .int .i64 x12_1 ∧ Aside0 (cents_Sum.l0 kq x4_1 x5_1 l0 (l0.length : Int) x12_1 = some (r1, r2)) ∧ Aside0 (kq ≤ k) ∧ Drawn0 w w')
 case atStart => exact ⟨(0), (0), (0), (by first | rfl | (simp; done) | (simp [*]; done)), (by first | rfl | (simp; done) | (simp [*]; done)), (by first | rfl | (simp; done) | (simp [*]; done)), H', ⟨Nat.le_refl _⟩, by repeat (first | exact Drawn0.refl _ | apply Drawn0.step)⟩
 case round =>
  clear H'
  obtain ⟨x4_1, x5_1, x12_1, rfl, rfl, rfl, HA, HK1, ⟨m1, rfl⟩⟩ := hrel
  cases gk with
  | zero => exact absurd HA.out (by simp [cents_Sum.l0])
  | succ k1 =>
   have H := HA.out
   clear HA
   simp only [cents_Sum.l0] at H
   by_cases c2 : x12_1 < (l0.length : Int)
   ·rw [if_pos c2] at H
    have c2b0 : decide (x12_1 < (l0.length : Int)) = true := decide_eq_true c2
    clear c2
    by_cases c3 : 0 ≤ x12_1
    ·rw [if_pos c3] at H
     have c3b0 : decide (0 ≤ x12_1) = true := decide_eq_true c3
     clear c3
     by_cases c4 : x12_1 < (l0.length : Int)
     ·rw [if_pos c4] at H
      have c4b0 : decide (x12_1 < (l0.length : Int)) = true := decide_eq_true c4
      clear c4
      by_cases c5 : x5_1 < 18446744073709551616
      ·rw [if_pos c5] at H
       have c5b0 := eq_true c5
       have c5b1 : decide (x5_1 < 18446744073709551616) = true := decide_eq_true c5
       clear c5
       have H' := ka H
       clear H
       have p127 : 0 ≤ (x12_1 : Int) := of_decide_eq_true (by first | (with_reducible assumption) | assumption)
       have q127 : x12_1 < (l0.length : Int) := of_decide_eq_true (by first | (with_reducible assumption) | assumption)
       obtain ⟨ad127, e127, hx127_0⟩ := Kd.at_int HR0.out x12_1 p127 q127
       cases e127
       replace p127 := eq_true p127
       replace q127 := eq_true q127
       go_wp2
       go_roundg k1
       case measure => have := HK1.out; omega
       case rel => exact ⟨((Add64.f x4_1 (IntKind.u64.wrap ((rd l0 x12_1) / 9223372036854775808)) ((Add64.f x5_1 (IntKind.u64.wrap (rd l0 x12_1)) 0).2)).1), ((Add64.f x5_1 (IntKind.u64.wrap (rd l0 x12_1)) 0).1), (wrap64 (x12_1 + 1)), (by first | rfl | (simp; done) | (simp [*]; done)), (by first | rfl | (simp; done) | (simp [*]; done)), (by first | rfl | (simp; done) | (simp [*]; done)), H', ⟨by have := HK1.out; omega⟩, by repeat (first | exact Drawn0.refl _ | apply Drawn0.step)⟩
      ·rw [if_neg c5] at H
       exact absurd H (by simp)
     ·rw [if_neg c4] at H
      exact absurd H (by simp)
    ·rw [if_neg c3] at H
     exact absurd H (by simp)
   ·rw [if_neg c2] at H
    have c2b0 : decide (x12_1 < (l0.length : Int)) = false := decide_eq_false c2
    clear c2
    by_cases c6 : x4_1 = (IntKind.u64.wrap ((wrap64 (x5_1)) / 9223372036854775808))
    ·rw [if_pos c6] at H
     have c6b0 : (x4_1 == (IntKind.u64.wrap ((wrap64 (x5_1)) / 9223372036854775808))) = true := beq_iff_eq.mpr c6
     have c6b1 : (x4_1 != (IntKind.u64.wrap ((wrap64 (x5_1)) / 9223372036854775808))) = false := bne_eq_false_iff_eq.mpr c6
     clear c6
     simp only [Option.some.injEq, Prod.mk.injEq] at H
     obtain ⟨rfl, rfl⟩ := H
     go_wp2
     go_ret2
     exact ⟨by first | rfl | (simp; done) | (simp [*]; done), by repeat (first | exact Drawn0.refl _ | apply Drawn0.step)⟩
    ·rw [if_neg c6] at H
     have c6b0 : (x4_1 == (IntKind.u64.wrap ((wrap64 (x5_1)) / 9223372036854775808))) = false := beq_eq_false_iff_ne.mpr c6
     have c6b1 : (x4_1 != (IntKind.u64.wrap ((wrap64 (x5_1)) / 9223372036854775808))) = true := bne_iff_ne.mpr c6
     simp only [Option.some.injEq, Prod.mk.injEq] at H
     obtain ⟨rfl, rfl⟩ := H
     go_wp2
     go_ret2
     exact ⟨by first | rfl | (simp; done) | (simp [*]; done), by repeat (first | exact Drawn0.refl _ | apply Drawn0.step)⟩

/-! ### cents_Sum_s: function 23, told plainly -/
theorem cents_Sum.loop (n : Nat) : ∀ (k : Nat) (l : List Int) (i : Nat) (hi lo : Int), (∀ x ∈ l, M.In x) → l.length = i + n → l.length ≤ 100000 → 0 ≤ lo ∧ lo < 18446744073709551616 → 0 ≤ hi ∧ hi < 18446744073709551616 → lo + 18446744073709551616 * hi = (l.take i).sum % 340282366920938463463374607431768211456 → n < k →
  cents_Sum.l0 k hi lo l (l.length : Int) i = some (M.told l.sum) := by
 induction n with
 | zero =>
  intro k l i hi lo hl hn hm h1 h2 h3 hk
  obtain ⟨j, rfl⟩ : ∃ j, k = j + 1 := ⟨k - 1, by omega⟩
  rw [List.take_of_length_le (by omega)] at h3
  have hs := U.sum_le l hl
  generalize l.sum = s at *
  simp only [cents_Sum.l0]
  rw [if_neg (by omega)]
  have hw : wrap64 lo = if lo < 9223372036854775808 then lo else lo - 18446744073709551616 := by unfold wrap64; split <;> omega
  have hu : IntKind.u64.wrap (wrap64 lo / 9223372036854775808) = if lo < 9223372036854775808 then 0 else 18446744073709551615 := by
   rw [hw, M.wrapu]; split <;> omega
  rw [hu, hw]
  by_cases c : lo < 9223372036854775808
  ·rw [if_pos c, if_pos c]
   by_cases d : hi = 0
   ·rw [if_pos d]
    have : s = lo := by omega
    rw [M.told_in (by unfold M.In; omega), this]
   ·rw [if_neg d, M.told_out (by unfold M.In; omega)]
  ·rw [if_neg c, if_neg c]
   by_cases d : hi = 18446744073709551615
   ·rw [if_pos d]
    have : s = lo - 18446744073709551616 := by omega
    rw [M.told_in (by unfold M.In; omega), this]
   ·rw [if_neg d, M.told_out (by unfold M.In; omega)]
 | succ n ih =>
  intro k l i hi lo hl hn hm h1 h2 h3 hk
  obtain ⟨j, rfl⟩ : ∃ j, k = j + 1 := ⟨k - 1, by omega⟩
  have hx : M.In (l.getD i 0) := by
   rw [List.getD_eq_getElem?_getD, List.getElem?_eq_getElem (by omega)]
   exact hl _ (List.getElem_mem _)
  have ht : (l.take (i + 1)).sum = (l.take i).sum + l.getD i 0 := by
   rw [List.take_add_one, List.getD_eq_getElem?_getD, List.getElem?_eq_getElem (by omega), U.sum_add]
   simp
  have hr : rd l (i : Int) = l.getD i 0 := rfl
  have ih' := fun a b => ih j l (i + 1) a b hl (by omega) hm
  simp only [cents_Sum.l0]
  rw [if_pos (by omega), if_pos (by omega), if_pos (by omega), if_pos (by omega), hr, M.w64_id (n := (i : Int) + 1) (by omega) (by omega)]
  unfold M.In at hx
  rw [ht] at ih'
  generalize l.getD i 0 = x at *
  generalize (l.take i).sum = s at *
  have e1 : 0 ≤ IntKind.u64.wrap x := by rw [M.wrapu]; omega
  have e2 : 0 ≤ IntKind.u64.wrap (x / 9223372036854775808) := by rw [M.wrapu]; omega
  have e3 : IntKind.u64.wrap x + 18446744073709551616 * IntKind.u64.wrap (x / 9223372036854775808) = x % 340282366920938463463374607431768211456 := by rw [M.wrapu, M.wrapu]; omega
  have e4 : IntKind.u64.wrap x < 18446744073709551616 := by rw [M.wrapu]; omega
  have e5 : IntKind.u64.wrap (x / 9223372036854775808) < 18446744073709551616 := by rw [M.wrapu]; omega
  generalize IntKind.u64.wrap (x / 9223372036854775808) = v at *
  generalize IntKind.u64.wrap x = u at *
  refine ih' _ _ ?_ ?_ ?_ (by omega)
  ·simp only [Add64.f]; omega
  ·simp only [Add64.f]; omega
  ·simp only [Add64.f]; omega
theorem cents_Sum.num (k : Nat) (l : List Int) (hl : ∀ x ∈ l, M.In x) (hm : l.length ≤ 100000) (hk : l.length < k) : cents_Sum.f k l = some (M.told l.sum) :=
 cents_Sum.loop l.length k l 0 0 0 hl (by omega) hm (by decide) (by decide) (by simp) hk
def cents_Sum_s.f (l : List Int) : Option (Int × Option Int) := if (∀ x ∈ l, M.In x) ∧ l.length ≤ 100000 then some (M.told l.sum) else none
theorem cents_Sum_s.calls (A0 : Option Addr) (c0 : Nat) (l0 : List Int) (r1 : Int) (r2 : Option Int) (w : World) (hr0 : Kd.C (Kd.int .i64) w A0 l0.length l0) (hc0 : l0.length ≤ c0) (h : cents_Sum_s.f l0 = some (r1, r2)) :
  Calls Try.prog 23 #[.slice A0 l0.length c0] w fun e w' => e = .returned (.tuple #[.int .i64 r1, errW r2]) ∧ Below w.heap.size w w' := by
 unfold cents_Sum_s.f at h
 split at h
 ·rename_i hr
  refine (cents_Sum.calls (l0.length + 1) A0 c0 l0 r1 r2 w hr0 hc0 ((cents_Sum.num _ l0 hr.1 hr.2 (Nat.lt_succ_self _)).trans h)).mono ?_
  rintro e w' ⟨he, ⟨n, rfl⟩⟩
  exact ⟨he, kc2 (Below.refl _ _) n⟩
 ·cases h
theorem cents_Sum_s.num {l : List Int} (hl : ∀ x ∈ l, M.In x) (hm : l.length ≤ 100000) : cents_Sum_s.f l = some (M.told l.sum) := by unfold cents_Sum_s.f; rw [if_pos ⟨hl, hm⟩]

end Go.Proofs.Ytdddiahgkpfikaa.P
