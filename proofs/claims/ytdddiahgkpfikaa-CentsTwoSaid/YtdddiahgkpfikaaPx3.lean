-- Written by a program of this session out of the translation of the seat: Lean functions and the proofs that the Go functions come to them.
import Derived.Test.YtdddiahgkpfikaaPx0
import Derived.Test.YtdddiahgkpfikaaPx1
import Derived.Test.YtdddiahgkpfikaaPx2
namespace Go.Proofs.Ytdddiahgkpfikaa.P
open Go.RowKit Go.Proofs.YtdddiahgkpfikaaW.PrintWords Go.Proofs.YtdddiahgkpfikaaW.PrintLast Go.Proofs.YtdddiahgkpfikaaW.PrintMore
attribute [local go_sem] max2_int min2_int max_two min_two max_three min_three max_four min_four   -- for this text's walks alone
set_option linter.unusedVariables false
set_option linter.unusedSimpArgs false

/-! ### cents_MulDiv_s: function 13, told plainly -/
theorem cents_MulDiv.size_tells (a : Int) (h : M.In a) : cents_size.f a = some (M.abs a, decide (a < 0)) := by
 unfold cents_size.f M.abs M.In at *
 by_cases h0 : a < 0
 ·rw [if_pos h0, if_pos h0, decide_eq_true h0]
  congr 2
  simp only [M.wrapu]
  omega
 ·rw [if_neg h0, if_neg h0, decide_eq_false h0]
  congr 2
  simp only [M.wrapu]
  omega
theorem cents_MulDiv.further_tells (q r c : Int) (minus : Bool) (mode : Int) (hm : 1 ≤ mode ∧ mode ≤ 4) (h0 : 0 ≤ q) (h1 : q < 18446744073709551616) (hr : 0 < r) (hrc : r < c) (hc : c < 18446744073709551616) :
  cents_further.f q r c minus mode = some (decide ((if minus = true then mode = 1 else mode = 2) ∨ mode = 3 ∧ 2 * r ≥ c ∨ mode = 4 ∧ (2 * r > c ∨ 2 * r = c ∧ q % 2 = 1))) := by
 unfold cents_further.f
 have hw : IntKind.u64.wrap (c - r) = c - r := M.wrapu_id (by omega) (by omega)
 rw [hw, M.and_one q h0 h1]
 have hm' : mode = 1 ∨ mode = 2 ∨ mode = 3 ∨ mode = 4 := by omega
 rcases hm' with rfl | rfl | rfl | rfl
 ·cases minus <;> simp <;> omega
 ·cases minus <;> simp <;> omega
 ·by_cases g : r > c - r
  ·have g2 : c ≤ 2 * r := by omega
   cases minus <;> simp [g, g2]
  ·by_cases g' : r = c - r
   ·have g2 : c ≤ 2 * r := by omega
    cases minus <;> simp [g, g2] <;> omega
   ·have g2 : ¬ c ≤ 2 * r := by omega
    cases minus <;> simp [g, g', g2]
 ·have h2 : 2 * r > c ↔ r > c - r := by omega
  have h3 : 2 * r = c ↔ r = c - r := by omega
  simp only [h2, h3]
  by_cases g : r > c - r
  ·cases minus <;> simp [g]
  ·by_cases g' : r = c - r
   ·have e : ∀ z : Int, (z == 1) = decide (z = 1) := fun z => by by_cases h : z = 1 <;> simp [h]
    cases minus <;> simp [g, ← g', e]
   ·cases minus <;> simp [g, g']
theorem cents_MulDiv.last (N c mode : Int) (minus : Bool) (hN : 0 ≤ N) (hc : 0 < c) (hc2 : c ≤ 9223372036854775808) (hm : 1 ≤ mode ∧ mode ≤ 4) (hq : N / c < 18446744073709551616) (n : Int) (hn : n = if minus = true then -N else N) (k : Nat) :
  (if N % c > 0 then (cents_further.f (N / c) (N % c) c minus mode).bind fun t => cents_MulDiv.j1 (k + 1) minus (N / c) t else cents_MulDiv.j1 (k + 1) minus (N / c) false) = some (M.told (M.quo n c mode)) := by
 have r0 := Int.emod_nonneg N (show c ≠ 0 by omega)
 have r1 := Int.emod_lt_of_pos N hc
 have hq0 : 0 ≤ N / c := Int.ediv_nonneg hN (by omega)
 have hs := M.quo_sized hN hc hm
 have key : ∀ (t : Bool) (v : Int), (v = if minus = true then -(N / c + (if t = true then 1 else 0)) else N / c + (if t = true then 1 else 0)) →
   cents_MulDiv.j1 (k + 1) minus (N / c) t = some (M.told v) := by
  intro t v hv
  simp only [cents_MulDiv.j1]
  generalize N / c = q at *
  unfold cents_signed.f
  cases t with
  | true =>
   simp only [if_true] at hv ⊢
   by_cases hz : IntKind.u64.wrap (q + 1) = 0
   ·rw [if_pos hz, M.told_out]
    intro hin
    unfold M.In at hin
    rw [M.wrapu] at hz
    cases minus <;> simp at hv <;> omega
   ·rw [if_neg hz]
    have hw : IntKind.u64.wrap (q + 1) = q + 1 := by rw [M.wrapu] at hz ⊢; omega
    rw [hw]
    cases minus with
    | true =>
     simp only [if_true] at hv ⊢
     rw [Option.bind_some]
     by_cases hle : q + 1 ≤ 9223372036854775808
     ·rw [if_pos (decide_eq_true hle), M.told_in (show M.In v from ⟨by omega, by omega⟩)]
      refine congrArg some (Prod.ext ?_ rfl)
      simp only [M.wrapu]; unfold wrap64; omega
     ·rw [if_neg (by simpa using hle), M.told_out (fun hin => by unfold M.In at hin; omega)]
    | false =>
     simp only [Bool.false_eq_true, if_false] at hv ⊢
     rw [Option.bind_some]
     by_cases hle : q + 1 < 9223372036854775808
     ·rw [if_pos (decide_eq_true hle), M.told_in (show M.In v from ⟨by omega, by omega⟩)]
      refine congrArg some (Prod.ext ?_ rfl)
      simp only []; unfold wrap64; omega
     ·rw [if_neg (by simpa using hle), M.told_out (fun hin => by unfold M.In at hin; omega)]
  | false =>
   simp only [Bool.false_eq_true, if_false] at hv ⊢
   cases minus with
   | true =>
    simp only [if_true] at hv ⊢
    rw [Option.bind_some]
    by_cases hle : q ≤ 9223372036854775808
    ·rw [if_pos (decide_eq_true hle), M.told_in (show M.In v from ⟨by omega, by omega⟩)]
     refine congrArg some (Prod.ext ?_ rfl)
     simp only [M.wrapu]; unfold wrap64; omega
    ·rw [if_neg (by simpa using hle), M.told_out (fun hin => by unfold M.In at hin; omega)]
   | false =>
    simp only [Bool.false_eq_true, if_false] at hv ⊢
    rw [Option.bind_some]
    by_cases hle : q < 9223372036854775808
    ·rw [if_pos (decide_eq_true hle), M.told_in (show M.In v from ⟨by omega, by omega⟩)]
     refine congrArg some (Prod.ext ?_ rfl)
     simp only []; unfold wrap64; omega
    ·rw [if_neg (by simpa using hle), M.told_out (fun hin => by unfold M.In at hin; omega)]
 by_cases hr : N % c > 0
 ·rw [if_pos hr, cents_MulDiv.further_tells _ _ _ _ _ hm hq0 hq hr r1 (by omega), Option.bind_some]
  apply key
  subst hn
  cases minus with
  | true =>
   simp only [if_true]
   rw [hs.2]
   congr 2
   simp only [hr, true_and, decide_eq_true_eq]
  | false =>
   simp only [Bool.false_eq_true, if_false]
   rw [hs.1]
   congr 2
   simp only [hr, true_and, decide_eq_true_eq]
 ·rw [if_neg hr]
  apply key
  subst hn
  cases minus with
  | true => simp only [if_true]; rw [hs.2]; simp [hr]
  | false => simp only [Bool.false_eq_true, if_false]; rw [hs.1]; simp [hr]
theorem cents_MulDiv.quo_over {N c mode : Int} (hN : 0 ≤ N) (hc : 0 < c) (hm : 1 ≤ mode ∧ mode ≤ 4) (hq : 18446744073709551616 ≤ N / c) : ¬ M.In (M.quo N c mode) ∧ ¬ M.In (M.quo (-N) c mode) := by
 have hs := M.quo_sized hN hc hm
 rw [hs.1, hs.2]
 unfold M.In
 constructor <;> split <;> omega
theorem cents_MulDiv.quo_neg (n c mode : Int) (hc : c < 0) : M.quo n c mode = M.quo (-n) (-c) mode := by
 unfold M.quo
 simp only [if_pos hc, if_neg (show ¬ -c < 0 by omega)]
theorem cents_MulDiv.abs_mul (a b : Int) : a * b = if (decide (a < 0) == decide (b < 0)) = true then M.abs a * M.abs b else -(M.abs a * M.abs b) := by
 unfold M.abs
 by_cases ha : a < 0 <;> by_cases hb : b < 0 <;> simp [ha, hb, Int.neg_mul, Int.mul_neg]
theorem cents_MulDiv.tells (a b c mode : Int) (ha : M.In a) (hb : M.In b) (hc : M.In c) (k : Nat) (hk : 4 ≤ k) :
  cents_MulDiv.f k a b c mode = some (if c = 0 ∨ mode < 1 ∨ mode > 4 then (0, some 1) else M.told (M.quo (a * b) c mode)) := by
 obtain ⟨k, rfl⟩ : ∃ m, k = m + 2 := ⟨k - 2, by omega⟩
 unfold cents_MulDiv.f
 by_cases hc0 : c = 0
 ·rw [if_pos hc0, if_pos (.inl hc0)]
  simp [cents_MulDiv.j0]
 rw [if_neg hc0]
 by_cases hm1 : mode < 1
 ·rw [if_pos hm1, if_pos (.inr (.inl hm1))]
  simp [cents_MulDiv.j0]
 rw [if_neg hm1]
 by_cases hm4 : mode > 4
 ·rw [decide_eq_true hm4, if_pos (.inr (.inr hm4))]
  simp [cents_MulDiv.j0]
 rw [decide_eq_false hm4, if_neg (by omega)]
 have hm : 1 ≤ mode ∧ mode ≤ 4 := by omega
 simp only [cents_MulDiv.j0]
 rw [if_neg (by decide), cents_MulDiv.size_tells a ha, cents_MulDiv.size_tells b hb, cents_MulDiv.size_tells c hc]
 simp only [Option.bind_some]
 have ba : 0 ≤ M.abs a ∧ M.abs a ≤ 9223372036854775808 := by unfold M.abs M.In at *; split <;> omega
 have bb : 0 ≤ M.abs b ∧ M.abs b ≤ 9223372036854775808 := by unfold M.abs M.In at *; split <;> omega
 have bc : 0 < M.abs c ∧ M.abs c ≤ 9223372036854775808 := by unfold M.abs M.In at *; split <;> omega
 have hN : 0 ≤ M.abs a * M.abs b := Int.mul_nonneg ba.1 bb.1
 unfold bits_Mul64_s.f
 rw [if_pos ⟨ba.1, by omega, bb.1, by omega⟩]
 simp only [Option.bind_some]
 have hcq : M.quo (a * b) c mode = M.quo (if (!((!(decide (a < 0) == decide (b < 0))) == decide (c < 0))) = true then -(M.abs a * M.abs b) else M.abs a * M.abs b) (M.abs c) mode := by
  rw [cents_MulDiv.abs_mul a b]
  by_cases h : c < 0
  ·rw [cents_MulDiv.quo_neg _ _ _ h]
   have : M.abs c = -c := by unfold M.abs; rw [if_pos h]
   rw [this, decide_eq_true h]
   cases hd : (decide (a < 0) == decide (b < 0)) <;> simp
  ·have : M.abs c = c := by unfold M.abs; rw [if_neg h]
   rw [this, decide_eq_false h]
   cases hd : (decide (a < 0) == decide (b < 0)) <;> simp
 rw [hcq]
 generalize (!((!(decide (a < 0) == decide (b < 0))) == decide (c < 0))) = minus at *
 generalize M.abs a * M.abs b = N at *
 generalize M.abs c = z at *
 by_cases hov : N / 18446744073709551616 ≥ z
 ·rw [if_pos hov, M.told_out]
  have hq : 18446744073709551616 ≤ N / z := by
   apply M.le_div bc.1
   rw [Int.mul_comm]
   omega
  have := cents_MulDiv.quo_over hN bc.1 hm hq
  cases minus
  ·exact this.1
  ·exact this.2
 ·rw [if_neg hov]
  unfold bits_Div64_s.f
  rw [if_pos ⟨by omega, by omega, by omega, by omega, by omega⟩]
  simp only [Option.bind_some]
  have e : N / 18446744073709551616 * 18446744073709551616 + N % 18446744073709551616 = N := by omega
  rw [e]
  refine cents_MulDiv.last N z mode minus hN bc.1 bc.2 hm ?_ _ rfl k
  apply M.div_lt bc.1
  rw [Int.mul_comm]
  omega
def cents_MulDiv_s.f (a b c mode : Int) : Option (Int × Option Int) :=
 if M.In a ∧ M.In b ∧ M.In c then some (if c = 0 ∨ mode < 1 ∨ mode > 4 then (0, some 1) else M.told (M.quo (a * b) c mode)) else none
theorem cents_MulDiv_s.calls (a0 : Int) (a1 : Int) (a2 : Int) (a3 : Int) (r1 : Int) (r2 : Option Int) (w : World) (h : cents_MulDiv_s.f a0 a1 a2 a3 = some (r1, r2)) :
  Calls Try.prog 13 #[.int .i64 a0, .int .i64 a1, .int .i64 a2, .int .i64 a3] w fun e w' => e = .returned (.tuple #[.int .i64 r1, errW r2]) ∧ Drawn0 w w' := by
 unfold cents_MulDiv_s.f at h
 split at h
 ·rename_i hr
  exact cents_MulDiv.calls 4 a0 a1 a2 a3 r1 r2 w ((cents_MulDiv.tells a0 a1 a2 a3 hr.1 hr.2.1 hr.2.2 4 (Nat.le_refl _)).trans h)
 ·cases h
theorem cents_MulDiv_s.at_ {a b c mode : Int} (ha : M.In a) (hb : M.In b) (hc : M.In c) : cents_MulDiv_s.f a b c mode = some (if c = 0 ∨ mode < 1 ∨ mode > 4 then (0, some 1) else M.told (M.quo (a * b) c mode)) := by unfold cents_MulDiv_s.f; rw [if_pos ⟨ha, hb, hc⟩]

/-! ### trivetlaw01_up: function 12 -/
def trivetlaw01_up.f  : Option (Bool) := (cents_MulDiv_s.f (-7) 1 2 1).bind fun bt118 => ((cents_MulDiv_s.f 5 1 2 4).bind fun bt120 => ((cents_MulDiv_s.f 1 1 0 2).bind fun bt122 => (if bt118.2.isNone = true then (if bt118.1 = (-4) then (if bt120.2.isNone = true then (if bt120.1 = 2 then (if bt122.2.isNone = true then (some false) else (some ((bt122.2.getD 0) == 1))) else (some false)) else (some false)) else (some false)) else (some false))))
set_option maxHeartbeats 8000000 in
set_option maxRecDepth 100000 in
theorem trivetlaw01_up.calls  (r : Bool) (w : World) (h : trivetlaw01_up.f  = some r) :
  Calls Try.prog 12 #[] w fun e w' => e = .returned (.bool r) ∧ Drawn0 w w' := by
 have hu24 := Try.underlying24
 have hu27 := Try.underlying27
 have H : ((cents_MulDiv_s.f (-7) 1 2 1).bind fun bt118 => ((cents_MulDiv_s.f 5 1 2 4).bind fun bt120 => ((cents_MulDiv_s.f 1 1 0 2).bind fun bt122 => (if bt118.2.isNone = true then (if bt118.1 = (-4) then (if bt120.2.isNone = true then (if bt120.1 = 2 then (if bt122.2.isNone = true then (some false) else (some ((bt122.2.getD 0) == 1))) else (some false)) else (some false)) else (some false)) else (some false))))) = some r := h
 clear h
 replace H := Option.bind_eq_some_iff.mp H
 obtain ⟨⟨t118, t119⟩, A10, H⟩ := H
 replace H : ((cents_MulDiv_s.f 5 1 2 4).bind fun bt120 => ((cents_MulDiv_s.f 1 1 0 2).bind fun bt122 => (if t119.isNone = true then (if t118 = (-4) then (if bt120.2.isNone = true then (if bt120.1 = 2 then (if bt122.2.isNone = true then (some false) else (some ((bt122.2.getD 0) == 1))) else (some false)) else (some false)) else (some false)) else (some false)))) = some r := H
 have A1 := ka A10
 clear A10
 replace H := Option.bind_eq_some_iff.mp H
 obtain ⟨⟨t120, t121⟩, A20, H⟩ := H
 replace H : ((cents_MulDiv_s.f 1 1 0 2).bind fun bt122 => (if t119.isNone = true then (if t118 = (-4) then (if t121.isNone = true then (if t120 = 2 then (if bt122.2.isNone = true then (some false) else (some ((bt122.2.getD 0) == 1))) else (some false)) else (some false)) else (some false)) else (some false))) = some r := H
 have A2 := ka A20
 clear A20
 replace H := Option.bind_eq_some_iff.mp H
 obtain ⟨⟨t122, t123⟩, A30, H⟩ := H
 replace H : (if t119.isNone = true then (if t118 = (-4) then (if t121.isNone = true then (if t120 = 2 then (if t123.isNone = true then (some false) else (some ((t123.getD 0) == 1))) else (some false)) else (some false)) else (some false)) else (some false)) = some r := H
 have A3 := ka A30
 clear A30
 rcases t119 with _ | q124
 ·have H1 : (if t118 = (-4) then (if t121.isNone = true then (if t120 = 2 then (if t123.isNone = true then (some false) else (some ((t123.getD 0) == 1))) else (some false)) else (some false)) else (some false)) = some r := by rw [if_pos (show (none : Option Int).isNone = true by rfl)] at H; exact H
  clear H
  have H := H1
  clear H1
  try simp only [errW_none, errW_some]
  by_cases c4 : t118 = (-4)
  ·rw [if_pos c4] at H
   have c4b0 : (t118 == (-4)) = true := beq_iff_eq.mpr c4
   have c4b1 : (t118 != (-4)) = false := bne_eq_false_iff_eq.mpr c4
   clear c4
   rcases t121 with _ | q125
   ·have H1 : (if t120 = 2 then (if t123.isNone = true then (some false) else (some ((t123.getD 0) == 1))) else (some false)) = some r := by rw [if_pos (show (none : Option Int).isNone = true by rfl)] at H; exact H
    clear H
    have H := H1
    clear H1
    try simp only [errW_none, errW_some]
    by_cases c5 : t120 = 2
    ·rw [if_pos c5] at H
     have c5b0 : (t120 == 2) = true := beq_iff_eq.mpr c5
     have c5b1 : (t120 != 2) = false := bne_eq_false_iff_eq.mpr c5
     clear c5
     rcases t123 with _ | q126
     ·have H1 : (some false) = some r := by rw [if_pos (show (none : Option Int).isNone = true by rfl)] at H; exact H
      clear H
      have H := H1
      clear H1
      try simp only [errW_none, errW_some]
      obtain rfl := Option.some.inj H
      go_enter Try.func12, Try.ntmps12
      go_wp2_with (first | ((with_reducible refine gate_callee (f := 13) rfl ?_); refine kg (some 8) rfl rfl Try.func13 (by kernel_rfl) rfl #[.int .i64 (-7), .int .i64 1, .int .i64 2, .int .i64 1] rfl ?_; (with_reducible refine (cents_MulDiv_s.calls (-7) 1 2 1 t118 none _ A1.out).mono ?_); rintro e w' ⟨rfl, ⟨nd, rfl⟩⟩; refine ⟨_, rfl, ?_⟩; (try simp only [errW_none, errW_some])) | ((with_reducible refine gate_callee (f := 13) rfl ?_); refine kg (some 12) rfl rfl Try.func13 (by kernel_rfl) rfl #[.int .i64 5, .int .i64 1, .int .i64 2, .int .i64 4] rfl ?_; (with_reducible refine (cents_MulDiv_s.calls 5 1 2 4 t120 none _ A2.out).mono ?_); rintro e w' ⟨rfl, ⟨nd, rfl⟩⟩; refine ⟨_, rfl, ?_⟩; (try simp only [errW_none, errW_some])) | ((with_reducible refine gate_callee (f := 13) rfl ?_); refine kg (some 16) rfl rfl Try.func13 (by kernel_rfl) rfl #[.int .i64 1, .int .i64 1, .int .i64 0, .int .i64 2] rfl ?_; (with_reducible refine (cents_MulDiv_s.calls 1 1 0 2 t122 none _ A3.out).mono ?_); rintro e w' ⟨rfl, ⟨nd, rfl⟩⟩; refine ⟨_, rfl, ?_⟩; (try simp only [errW_none, errW_some])))
      go_ret
      exact ⟨by first | rfl | (simp; done) | (simp [*]; done), by repeat (first | exact Drawn0.refl _ | apply Drawn0.step)⟩
     ·have H1 : (some (q126 == 1)) = some r := by rw [if_neg (show ¬ (some q126).isNone = true by simp)] at H; exact H
      clear H
      have H := H1
      clear H1
      try simp only [errW_none, errW_some]
      obtain rfl := Option.some.inj H
      go_enter Try.func12, Try.ntmps12
      go_wp2_with (first | ((with_reducible refine gate_callee (f := 13) rfl ?_); refine kg (some 8) rfl rfl Try.func13 (by kernel_rfl) rfl #[.int .i64 (-7), .int .i64 1, .int .i64 2, .int .i64 1] rfl ?_; (with_reducible refine (cents_MulDiv_s.calls (-7) 1 2 1 t118 none _ A1.out).mono ?_); rintro e w' ⟨rfl, ⟨nd, rfl⟩⟩; refine ⟨_, rfl, ?_⟩; (try simp only [errW_none, errW_some])) | ((with_reducible refine gate_callee (f := 13) rfl ?_); refine kg (some 12) rfl rfl Try.func13 (by kernel_rfl) rfl #[.int .i64 5, .int .i64 1, .int .i64 2, .int .i64 4] rfl ?_; (with_reducible refine (cents_MulDiv_s.calls 5 1 2 4 t120 none _ A2.out).mono ?_); rintro e w' ⟨rfl, ⟨nd, rfl⟩⟩; refine ⟨_, rfl, ?_⟩; (try simp only [errW_none, errW_some])) | ((with_reducible refine gate_callee (f := 13) rfl ?_); refine kg (some 16) rfl rfl Try.func13 (by kernel_rfl) rfl #[.int .i64 1, .int .i64 1, .int .i64 0, .int .i64 2] rfl ?_; (with_reducible refine (cents_MulDiv_s.calls 1 1 0 2 t122 (some q126) _ A3.out).mono ?_); rintro e w' ⟨rfl, ⟨nd, rfl⟩⟩; refine ⟨_, rfl, ?_⟩; (try simp only [errW_none, errW_some])))
      go_ret
      exact ⟨by first | rfl | (simp; done) | (simp [*]; done), by repeat (first | exact Drawn0.refl _ | apply Drawn0.step)⟩
    ·rw [if_neg c5] at H
     have c5b0 : (t120 == 2) = false := beq_eq_false_iff_ne.mpr c5
     have c5b1 : (t120 != 2) = true := bne_iff_ne.mpr c5
     obtain rfl := Option.some.inj H
     go_enter Try.func12, Try.ntmps12
     go_wp2_with (first | ((with_reducible refine gate_callee (f := 13) rfl ?_); refine kg (some 8) rfl rfl Try.func13 (by kernel_rfl) rfl #[.int .i64 (-7), .int .i64 1, .int .i64 2, .int .i64 1] rfl ?_; (with_reducible refine (cents_MulDiv_s.calls (-7) 1 2 1 t118 none _ A1.out).mono ?_); rintro e w' ⟨rfl, ⟨nd, rfl⟩⟩; refine ⟨_, rfl, ?_⟩; (try simp only [errW_none, errW_some])) | ((with_reducible refine gate_callee (f := 13) rfl ?_); refine kg (some 12) rfl rfl Try.func13 (by kernel_rfl) rfl #[.int .i64 5, .int .i64 1, .int .i64 2, .int .i64 4] rfl ?_; (with_reducible refine (cents_MulDiv_s.calls 5 1 2 4 t120 none _ A2.out).mono ?_); rintro e w' ⟨rfl, ⟨nd, rfl⟩⟩; refine ⟨_, rfl, ?_⟩; (try simp only [errW_none, errW_some])) | ((with_reducible refine gate_callee (f := 13) rfl ?_); refine kg (some 16) rfl rfl Try.func13 (by kernel_rfl) rfl #[.int .i64 1, .int .i64 1, .int .i64 0, .int .i64 2] rfl ?_; (with_reducible refine (cents_MulDiv_s.calls 1 1 0 2 t122 t123 _ A3.out).mono ?_); rintro e w' ⟨rfl, ⟨nd, rfl⟩⟩; refine ⟨_, rfl, ?_⟩; (try simp only [errW_none, errW_some])))
     go_ret
     exact ⟨by first | rfl | (simp; done) | (simp [*]; done), by repeat (first | exact Drawn0.refl _ | apply Drawn0.step)⟩
   ·have H1 : (some false) = some r := by rw [if_neg (show ¬ (some q125).isNone = true by simp)] at H; exact H
    clear H
    have H := H1
    clear H1
    try simp only [errW_none, errW_some]
    obtain rfl := Option.some.inj H
    go_enter Try.func12, Try.ntmps12
    go_wp2_with (first | ((with_reducible refine gate_callee (f := 13) rfl ?_); refine kg (some 8) rfl rfl Try.func13 (by kernel_rfl) rfl #[.int .i64 (-7), .int .i64 1, .int .i64 2, .int .i64 1] rfl ?_; (with_reducible refine (cents_MulDiv_s.calls (-7) 1 2 1 t118 none _ A1.out).mono ?_); rintro e w' ⟨rfl, ⟨nd, rfl⟩⟩; refine ⟨_, rfl, ?_⟩; (try simp only [errW_none, errW_some])) | ((with_reducible refine gate_callee (f := 13) rfl ?_); refine kg (some 12) rfl rfl Try.func13 (by kernel_rfl) rfl #[.int .i64 5, .int .i64 1, .int .i64 2, .int .i64 4] rfl ?_; (with_reducible refine (cents_MulDiv_s.calls 5 1 2 4 t120 (some q125) _ A2.out).mono ?_); rintro e w' ⟨rfl, ⟨nd, rfl⟩⟩; refine ⟨_, rfl, ?_⟩; (try simp only [errW_none, errW_some])) | ((with_reducible refine gate_callee (f := 13) rfl ?_); refine kg (some 16) rfl rfl Try.func13 (by kernel_rfl) rfl #[.int .i64 1, .int .i64 1, .int .i64 0, .int .i64 2] rfl ?_; (with_reducible refine (cents_MulDiv_s.calls 1 1 0 2 t122 t123 _ A3.out).mono ?_); rintro e w' ⟨rfl, ⟨nd, rfl⟩⟩; refine ⟨_, rfl, ?_⟩; (try simp only [errW_none, errW_some])))
    go_ret
    exact ⟨by first | rfl | (simp; done) | (simp [*]; done), by repeat (first | exact Drawn0.refl _ | apply Drawn0.step)⟩
  ·rw [if_neg c4] at H
   have c4b0 : (t118 == (-4)) = false := beq_eq_false_iff_ne.mpr c4
   have c4b1 : (t118 != (-4)) = true := bne_iff_ne.mpr c4
   obtain rfl := Option.some.inj H
   go_enter Try.func12, Try.ntmps12
   go_wp2_with (first | ((with_reducible refine gate_callee (f := 13) rfl ?_); refine kg (some 8) rfl rfl Try.func13 (by kernel_rfl) rfl #[.int .i64 (-7), .int .i64 1, .int .i64 2, .int .i64 1] rfl ?_; (with_reducible refine (cents_MulDiv_s.calls (-7) 1 2 1 t118 none _ A1.out).mono ?_); rintro e w' ⟨rfl, ⟨nd, rfl⟩⟩; refine ⟨_, rfl, ?_⟩; (try simp only [errW_none, errW_some])) | ((with_reducible refine gate_callee (f := 13) rfl ?_); refine kg (some 12) rfl rfl Try.func13 (by kernel_rfl) rfl #[.int .i64 5, .int .i64 1, .int .i64 2, .int .i64 4] rfl ?_; (with_reducible refine (cents_MulDiv_s.calls 5 1 2 4 t120 t121 _ A2.out).mono ?_); rintro e w' ⟨rfl, ⟨nd, rfl⟩⟩; refine ⟨_, rfl, ?_⟩; (try simp only [errW_none, errW_some])) | ((with_reducible refine gate_callee (f := 13) rfl ?_); refine kg (some 16) rfl rfl Try.func13 (by kernel_rfl) rfl #[.int .i64 1, .int .i64 1, .int .i64 0, .int .i64 2] rfl ?_; (with_reducible refine (cents_MulDiv_s.calls 1 1 0 2 t122 t123 _ A3.out).mono ?_); rintro e w' ⟨rfl, ⟨nd, rfl⟩⟩; refine ⟨_, rfl, ?_⟩; (try simp only [errW_none, errW_some])))
   go_ret
   exact ⟨by first | rfl | (simp; done) | (simp [*]; done), by repeat (first | exact Drawn0.refl _ | apply Drawn0.step)⟩
 ·have H1 : (some false) = some r := by rw [if_neg (show ¬ (some q124).isNone = true by simp)] at H; exact H
  clear H
  have H := H1
  clear H1
  try simp only [errW_none, errW_some]
  obtain rfl := Option.some.inj H
  go_enter Try.func12, Try.ntmps12
  go_wp2_with (first | ((with_reducible refine gate_callee (f := 13) rfl ?_); refine kg (some 8) rfl rfl Try.func13 (by kernel_rfl) rfl #[.int .i64 (-7), .int .i64 1, .int .i64 2, .int .i64 1] rfl ?_; (with_reducible refine (cents_MulDiv_s.calls (-7) 1 2 1 t118 (some q124) _ A1.out).mono ?_); rintro e w' ⟨rfl, ⟨nd, rfl⟩⟩; refine ⟨_, rfl, ?_⟩; (try simp only [errW_none, errW_some])) | ((with_reducible refine gate_callee (f := 13) rfl ?_); refine kg (some 12) rfl rfl Try.func13 (by kernel_rfl) rfl #[.int .i64 5, .int .i64 1, .int .i64 2, .int .i64 4] rfl ?_; (with_reducible refine (cents_MulDiv_s.calls 5 1 2 4 t120 t121 _ A2.out).mono ?_); rintro e w' ⟨rfl, ⟨nd, rfl⟩⟩; refine ⟨_, rfl, ?_⟩; (try simp only [errW_none, errW_some])) | ((with_reducible refine gate_callee (f := 13) rfl ?_); refine kg (some 16) rfl rfl Try.func13 (by kernel_rfl) rfl #[.int .i64 1, .int .i64 1, .int .i64 0, .int .i64 2] rfl ?_; (with_reducible refine (cents_MulDiv_s.calls 1 1 0 2 t122 t123 _ A3.out).mono ?_); rintro e w' ⟨rfl, ⟨nd, rfl⟩⟩; refine ⟨_, rfl, ?_⟩; (try simp only [errW_none, errW_some])))
  go_ret
  exact ⟨by first | rfl | (simp; done) | (simp [*]; done), by repeat (first | exact Drawn0.refl _ | apply Drawn0.step)⟩

/-! ### trivetlaw01_up_s: function 12, told plainly -/
theorem trivetlaw01_up.tells : trivetlaw01_up.f = some true := by decide
def trivetlaw01_up_s.f : Option Bool := some true
theorem trivetlaw01_up_s.calls (r : Bool) (w : World) (h : trivetlaw01_up_s.f = some r) :
  Calls Try.prog 12 #[] w fun e w' => e = .returned (.bool r) ∧ Drawn0 w w' := trivetlaw01_up.calls r w (trivetlaw01_up.tells.trans h)

/-! ### cents_Mul: function 15 -/
def cents_Mul.f (a0 : Int) (a1 : Int) : Option (Int × Option Int) := (cents_MulDiv_s.f a0 a1 1 1).bind fun bt127 => (some (bt127.1, bt127.2))
set_option maxHeartbeats 8000000 in
set_option maxRecDepth 100000 in
theorem cents_Mul.calls (a0 : Int) (a1 : Int) (r1 : Int) (r2 : Option Int) (w : World) (h : cents_Mul.f a0 a1 = some (r1, r2)) :
  Calls Try.prog 15 #[.int .i64 a0, .int .i64 a1] w fun e w' => e = .returned (.tuple #[.int .i64 r1, errW r2]) ∧ Drawn0 w w' := by
 have H : ((cents_MulDiv_s.f a0 a1 1 1).bind fun bt127 => (some (bt127.1, bt127.2))) = some (r1, r2) := h
 clear h
 replace H := Option.bind_eq_some_iff.mp H
 obtain ⟨⟨t127, t128⟩, A30, H⟩ := H
 replace H : (some (t127, t128)) = some (r1, r2) := H
 have A3 := ka A30
 clear A30
 simp only [Option.some.injEq, Prod.mk.injEq] at H
 obtain ⟨rfl, rfl⟩ := H
 go_enter Try.func15, Try.ntmps15
 go_wp2_with (first | ((with_reducible refine gate_callee (f := 13) rfl ?_); refine kg (some 8) rfl rfl Try.func13 (by kernel_rfl) rfl #[.int .i64 a0, .int .i64 a1, .int .i64 1, .int .i64 1] rfl ?_; (with_reducible refine (cents_MulDiv_s.calls a0 a1 1 1 t127 t128 _ A3.out).mono ?_); rintro e w' ⟨rfl, ⟨nd, rfl⟩⟩; refine ⟨_, rfl, ?_⟩; (try simp only [errW_none, errW_some])))
 go_ret2
 exact ⟨by first | rfl | (simp; done) | (simp [*]; done), by repeat (first | exact Drawn0.refl _ | apply Drawn0.step)⟩

/-! ### cents_Mul_s: function 15, told plainly -/
theorem cents_Mul.tells (a b : Int) (ha : M.In a) (hb : M.In b) : cents_Mul.f a b = some (M.told (a * b)) := by
 unfold cents_Mul.f cents_MulDiv_s.f
 rw [if_pos ⟨ha, hb, by decide⟩, Option.bind_some]
 have h : M.quo (a * b) 1 1 = a * b := by simp [M.quo]
 rw [h, if_neg (by decide)]
def cents_Mul_s.f (a b : Int) : Option (Int × Option Int) := if M.In a ∧ M.In b then some (M.told (a * b)) else none
theorem cents_Mul_s.calls (a0 : Int) (a1 : Int) (r1 : Int) (r2 : Option Int) (w : World) (h : cents_Mul_s.f a0 a1 = some (r1, r2)) :
  Calls Try.prog 15 #[.int .i64 a0, .int .i64 a1] w fun e w' => e = .returned (.tuple #[.int .i64 r1, errW r2]) ∧ Drawn0 w w' := by
 unfold cents_Mul_s.f at h
 split at h
 ·rename_i hr
  exact cents_Mul.calls a0 a1 r1 r2 w ((cents_Mul.tells a0 a1 hr.1 hr.2).trans h)
 ·cases h
theorem cents_Mul_s.at_ {a b : Int} (ha : M.In a) (hb : M.In b) : cents_Mul_s.f a b = some (M.told (a * b)) := by unfold cents_Mul_s.f; rw [if_pos ⟨ha, hb⟩]

/-! ### cents_Add: function 16 -/
def cents_Add.f (a0 : Int) (a1 : Int) : Option (Int × Option Int) := if ((decide ((wrap64 (a0 + a1)) > a0)) == (decide (a1 > 0))) = true then (some (wrap64 (a0 + a1), none)) else (if a1 = 0 then (some (wrap64 (a0 + a1), none)) else (some (0, some 3)))
set_option maxHeartbeats 8000000 in
set_option maxRecDepth 100000 in
theorem cents_Add.calls (a0 : Int) (a1 : Int) (r1 : Int) (r2 : Option Int) (w : World) (h : cents_Add.f a0 a1 = some (r1, r2)) :
  Calls Try.prog 16 #[.int .i64 a0, .int .i64 a1] w fun e w' => e = .returned (.tuple #[.int .i64 r1, errW r2]) ∧ Drawn0 w w' := by
 have hu24 := Try.underlying24
 have hu27 := Try.underlying27
 have H : (if ((decide ((wrap64 (a0 + a1)) > a0)) == (decide (a1 > 0))) = true then (some (wrap64 (a0 + a1), none)) else (if a1 = 0 then (some (wrap64 (a0 + a1), none)) else (some (0, some 3)))) = some (r1, r2) := h
 clear h
 by_cases c3 : ((decide ((wrap64 (a0 + a1)) > a0)) == (decide (a1 > 0))) = true
 ·rw [if_pos c3] at H
  have c3b0 : ((decide ((wrap64 (a0 + a1)) > a0)) == (decide (a1 > 0))) = true := c3
  (try (have c3b1 : decide ((decide ((wrap64 (a0 + a1)) > a0)) = (decide (a1 > 0))) = true := by simpa using c3))
  (try (have c3b2 : ((decide ((wrap64 (a0 + a1)) > a0)) == (decide (a1 > 0))) = true := by simpa using c3))
  clear c3
  simp only [Option.some.injEq, Prod.mk.injEq] at H
  obtain ⟨rfl, rfl⟩ := H
  go_enter Try.func16, Try.ntmps16
  go_wp2
  go_ret2
  exact ⟨by first | rfl | (simp; done) | (simp [*]; done), by repeat (first | exact Drawn0.refl _ | apply Drawn0.step)⟩
 ·rw [if_neg c3] at H
  have c3b0 : ((decide ((wrap64 (a0 + a1)) > a0)) == (decide (a1 > 0))) = false := by simpa using c3
  (try (have c3b1 : decide ((decide ((wrap64 (a0 + a1)) > a0)) = (decide (a1 > 0))) = false := by simpa using c3))
  (try (have c3b2 : ((decide ((wrap64 (a0 + a1)) > a0)) == (decide (a1 > 0))) = false := by simpa using c3))
  (try (have c3b3 : ¬ ((decide ((wrap64 (a0 + a1)) > a0)) = (decide (a1 > 0))) := by simpa using c3))
  clear c3
  by_cases c4 : a1 = 0
  ·rw [if_pos c4] at H
   have c4b0 : (a1 == 0) = true := beq_iff_eq.mpr c4
   have c4b1 : (a1 != 0) = false := bne_eq_false_iff_eq.mpr c4
   clear c4
   simp only [Option.some.injEq, Prod.mk.injEq] at H
   obtain ⟨rfl, rfl⟩ := H
   go_enter Try.func16, Try.ntmps16
   go_wp2
   go_ret2
   exact ⟨by first | rfl | (simp; done) | (simp [*]; done), by repeat (first | exact Drawn0.refl _ | apply Drawn0.step)⟩
  ·rw [if_neg c4] at H
   have c4b0 : (a1 == 0) = false := beq_eq_false_iff_ne.mpr c4
   have c4b1 : (a1 != 0) = true := bne_iff_ne.mpr c4
   simp only [Option.some.injEq, Prod.mk.injEq] at H
   obtain ⟨rfl, rfl⟩ := H
   go_enter Try.func16, Try.ntmps16
   go_wp2
   go_ret2
   exact ⟨by first | rfl | (simp; done) | (simp [*]; done), by repeat (first | exact Drawn0.refl _ | apply Drawn0.step)⟩

/-! ### cents_Add_s: function 16, told plainly -/
theorem cents_Add.tells (a b : Int) (ha : M.In a) (hb : M.In b) : cents_Add.f a b = some (M.told (a + b)) := by
 unfold cents_Add.f
 have hw : wrap64 (a + b) = a + b ∨ ¬ M.In (a + b) := by
  by_cases h : M.In (a + b)
  ·exact .inl (M.w64_id h.1 h.2)
  ·exact .inr h
 rcases hw with hw | hw
 ·rw [hw, M.told_in (by rw [← hw]; unfold M.In wrap64; omega)]
  by_cases h0 : b = 0
  ·subst h0; simp
  ·by_cases h1 : b > 0 <;> simp [h0, h1] <;> omega
 ·rw [M.told_out hw]
  have h0 : b ≠ 0 := by rintro rfl; exact hw (by simpa using ha)
  unfold M.In at *
  have h2 : (wrap64 (a + b) > a) ↔ ¬ (b > 0) := by unfold wrap64; omega
  by_cases h1 : b > 0
  ·have h3 : ¬ (wrap64 (a + b) > a) := fun h => h2.mp h h1
   simp only [decide_eq_true h1, decide_eq_false h3]
   simp [h0]
  ·have h3 := h2.mpr h1
   simp only [decide_eq_false h1, decide_eq_true h3]
   simp [h0]
def cents_Add_s.f (a b : Int) : Option (Int × Option Int) := if M.In a ∧ M.In b then some (M.told (a + b)) else none
theorem cents_Add_s.calls (a0 : Int) (a1 : Int) (r1 : Int) (r2 : Option Int) (w : World) (h : cents_Add_s.f a0 a1 = some (r1, r2)) :
  Calls Try.prog 16 #[.int .i64 a0, .int .i64 a1] w fun e w' => e = .returned (.tuple #[.int .i64 r1, errW r2]) ∧ Drawn0 w w' := by
 unfold cents_Add_s.f at h
 split at h
 ·rename_i hr
  exact cents_Add.calls a0 a1 r1 r2 w ((cents_Add.tells a0 a1 hr.1 hr.2).trans h)
 ·cases h
theorem cents_Add_s.at_ {a b : Int} (ha : M.In a) (hb : M.In b) : cents_Add_s.f a b = some (M.told (a + b)) := by unfold cents_Add_s.f; rw [if_pos ⟨ha, hb⟩]

/-! ### cents_Sub: function 17 -/
def cents_Sub.f (a0 : Int) (a1 : Int) : Option (Int × Option Int) := if ((decide ((wrap64 (a0 - a1)) < a0)) == (decide (a1 > 0))) = true then (some (wrap64 (a0 - a1), none)) else (if a1 = 0 then (some (wrap64 (a0 - a1), none)) else (some (0, some 3)))
set_option maxHeartbeats 8000000 in
set_option maxRecDepth 100000 in
theorem cents_Sub.calls (a0 : Int) (a1 : Int) (r1 : Int) (r2 : Option Int) (w : World) (h : cents_Sub.f a0 a1 = some (r1, r2)) :
  Calls Try.prog 17 #[.int .i64 a0, .int .i64 a1] w fun e w' => e = .returned (.tuple #[.int .i64 r1, errW r2]) ∧ Drawn0 w w' := by
 have hu24 := Try.underlying24
 have hu27 := Try.underlying27
 have H : (if ((decide ((wrap64 (a0 - a1)) < a0)) == (decide (a1 > 0))) = true then (some (wrap64 (a0 - a1), none)) else (if a1 = 0 then (some (wrap64 (a0 - a1), none)) else (some (0, some 3)))) = some (r1, r2) := h
 clear h
 by_cases c3 : ((decide ((wrap64 (a0 - a1)) < a0)) == (decide (a1 > 0))) = true
 ·rw [if_pos c3] at H
  have c3b0 : ((decide ((wrap64 (a0 - a1)) < a0)) == (decide (a1 > 0))) = true := c3
  (try (have c3b1 : decide ((decide ((wrap64 (a0 - a1)) < a0)) = (decide (a1 > 0))) = true := by simpa using c3))
  (try (have c3b2 : ((decide ((wrap64 (a0 - a1)) < a0)) == (decide (a1 > 0))) = true := by simpa using c3))
  clear c3
  simp only [Option.some.injEq, Prod.mk.injEq] at H
  obtain ⟨rfl, rfl⟩ := H
  go_enter Try.func17, Try.ntmps17
  go_wp2
  go_ret2
  exact ⟨by first | rfl | (simp; done) | (simp [*]; done), by repeat (first | exact Drawn0.refl _ | apply Drawn0.step)⟩
 ·rw [if_neg c3] at H
  have c3b0 : ((decide ((wrap64 (a0 - a1)) < a0)) == (decide (a1 > 0))) = false := by simpa using c3
  (try (have c3b1 : decide ((decide ((wrap64 (a0 - a1)) < a0)) = (decide (a1 > 0))) = false := by simpa using c3))
  (try (have c3b2 : ((decide ((wrap64 (a0 - a1)) < a0)) == (decide (a1 > 0))) = false := by simpa using c3))
  (try (have c3b3 : ¬ ((decide ((wrap64 (a0 - a1)) < a0)) = (decide (a1 > 0))) := by simpa using c3))
  clear c3
  by_cases c4 : a1 = 0
  ·rw [if_pos c4] at H
   have c4b0 : (a1 == 0) = true := beq_iff_eq.mpr c4
   have c4b1 : (a1 != 0) = false := bne_eq_false_iff_eq.mpr c4
   clear c4
   simp only [Option.some.injEq, Prod.mk.injEq] at H
   obtain ⟨rfl, rfl⟩ := H
   go_enter Try.func17, Try.ntmps17
   go_wp2
   go_ret2
   exact ⟨by first | rfl | (simp; done) | (simp [*]; done), by repeat (first | exact Drawn0.refl _ | apply Drawn0.step)⟩
  ·rw [if_neg c4] at H
   have c4b0 : (a1 == 0) = false := beq_eq_false_iff_ne.mpr c4
   have c4b1 : (a1 != 0) = true := bne_iff_ne.mpr c4
   simp only [Option.some.injEq, Prod.mk.injEq] at H
   obtain ⟨rfl, rfl⟩ := H
   go_enter Try.func17, Try.ntmps17
   go_wp2
   go_ret2
   exact ⟨by first | rfl | (simp; done) | (simp [*]; done), by repeat (first | exact Drawn0.refl _ | apply Drawn0.step)⟩

/-! ### cents_Sub_s: function 17, told plainly -/
theorem cents_Sub.tells (a b : Int) (ha : M.In a) (hb : M.In b) : cents_Sub.f a b = some (M.told (a - b)) := by
 unfold cents_Sub.f
 have hw : wrap64 (a - b) = a - b ∨ ¬ M.In (a - b) := by
  by_cases h : M.In (a - b)
  ·exact .inl (M.w64_id h.1 h.2)
  ·exact .inr h
 rcases hw with hw | hw
 ·rw [hw, M.told_in (by rw [← hw]; unfold M.In wrap64; omega)]
  by_cases h0 : b = 0
  ·subst h0; simp
  ·by_cases h1 : b > 0 <;> simp [h0, h1] <;> omega
 ·rw [M.told_out hw]
  have h0 : b ≠ 0 := by rintro rfl; exact hw (by simpa using ha)
  unfold M.In at *
  have h2 : (wrap64 (a - b) < a) ↔ ¬ (b > 0) := by unfold wrap64; omega
  by_cases h1 : b > 0
  ·have h3 : ¬ (wrap64 (a - b) < a) := fun h => h2.mp h h1
   simp only [decide_eq_true h1, decide_eq_false h3]
   simp [h0]
  ·have h3 := h2.mpr h1
   simp only [decide_eq_false h1, decide_eq_true h3]
   simp [h0]
def cents_Sub_s.f (a b : Int) : Option (Int × Option Int) := if M.In a ∧ M.In b then some (M.told (a - b)) else none
theorem cents_Sub_s.calls (a0 : Int) (a1 : Int) (r1 : Int) (r2 : Option Int) (w : World) (h : cents_Sub_s.f a0 a1 = some (r1, r2)) :
  Calls Try.prog 17 #[.int .i64 a0, .int .i64 a1] w fun e w' => e = .returned (.tuple #[.int .i64 r1, errW r2]) ∧ Drawn0 w w' := by
 unfold cents_Sub_s.f at h
 split at h
 ·rename_i hr
  exact cents_Sub.calls a0 a1 r1 r2 w ((cents_Sub.tells a0 a1 hr.1 hr.2).trans h)
 ·cases h
theorem cents_Sub_s.at_ {a b : Int} (ha : M.In a) (hb : M.In b) : cents_Sub_s.f a b = some (M.told (a - b)) := by unfold cents_Sub_s.f; rw [if_pos ⟨ha, hb⟩]

/-! ### trivetref01_norm: function 31 -/
def trivetref01_norm.l0 : Nat → List Int → Bool → Option (List Int × Bool)
 | 0, _, _ => none
 | k + 1, x0, x1 => if (x0.length : Int) > 0 then (if 0 ≤ (wrap64 ((x0.length : Int) - 1)) then (if (wrap64 ((x0.length : Int) - 1)) < (x0.length : Int) then (if (rd x0 (wrap64 ((x0.length : Int) - 1))) = 0 then (if (wrap64 ((x0.length : Int) - 1)) ≤ (x0.length : Int) then (trivetref01_norm.l0 k (x0.take ((wrap64 ((x0.length : Int) - 1)) : Int).toNat) x1) else (none)) else (if x1 = true then (some (x0, true)) else (some (x0, false)))) else (none)) else (none)) else (if x1 = true then (some (x0, false)) else (some (x0, false)))
def trivetref01_norm.f (k : Nat) (l0 : List Int) (a1 : Bool) : Option (List Int × Bool) := trivetref01_norm.l0 k l0 a1
theorem trivetref01_norm.mono_l : ∀ k, (∀ y0 y1, LeO (trivetref01_norm.l0 k y0 y1) (trivetref01_norm.l0 (k + 1) y0 y1))
 | 0 => fun _ _ r h => by simp [trivetref01_norm.l0] at h
 | k + 1 => by
  have ih0 := trivetref01_norm.mono_l k
  ·intro y0 y1
   unfold trivetref01_norm.l0
   repeat' first
   | (with_reducible exact ih0 _ _)
   | (with_reducible exact LeO.refl _)
   | (with_reducible exact LeO.none _)
   | (with_reducible refine LeO.ite ?_ ?_)
   | (with_reducible refine LeO.bind ?_ (fun _ => ?_))
   | exact ih0 _ _
   | exact LeO.none _
   | refine LeO.ite ?_ ?_
   | refine LeO.bind ?_ (fun _ => ?_)
theorem trivetref01_norm.mono : ∀ a0 a1 k, LeO (trivetref01_norm.f k a0 a1) (trivetref01_norm.f (k + 1) a0 a1) := by
 intro a0 a1 k
 have ih0 := trivetref01_norm.mono_l k
 unfold trivetref01_norm.f
 repeat' first
   | (with_reducible exact ih0 _ _)
   | (with_reducible exact LeO.refl _)
   | (with_reducible exact LeO.none _)
   | (with_reducible refine LeO.ite ?_ ?_)
   | (with_reducible refine LeO.bind ?_ (fun _ => ?_))
   | exact ih0 _ _
   | exact LeO.none _
   | refine LeO.ite ?_ ?_
   | refine LeO.bind ?_ (fun _ => ?_)
set_option maxHeartbeats 8000000 in
set_option maxRecDepth 100000 in
theorem trivetref01_norm.calls (k : Nat) (P0_ : Nat → Prop) (A0 : Option Addr) (c0 : Nat) (l0 : List Int) (a1 : Bool) (r1 : List Int) (r2 : Bool) (w : World) (hs0 : Kd.V (Kd.int .u64) 46 w w.heap.size (fun k_ => P0_ k_) (.slice A0 l0.length c0) l0) (h : trivetref01_norm.f k l0 a1 = some (r1, r2)) :
  Calls Try.prog 31 #[.slice A0 l0.length c0, .bool a1] w fun e w' => ∃ v0_ : Value, e = .returned (.agg #[v0_, .bool r2]) ∧ Kd.V (Kd.int .u64) 46 w' w.heap.size (fun k_ => (P0_ k_ ∨ w.heap.size ≤ k_)) v0_ r1 ∧ Below w.heap.size w w' := by
 have hu37 := Try.underlying37
 have HO0 := ka (show Kd.V (Kd.int .u64) 46 w w.heap.size (fun k_ => (P0_ k_ ∨ w.heap.size ≤ k_)) (.slice A0 l0.length c0) l0 from Kd.V_mono hs0 (fun k_ hk => .inl hk))
 have HB := ka (Below.refl w.heap.size w)
 have H : (trivetref01_norm.l0 k l0 a1) = some (r1, r2) := h
 clear h
 have H' := ka H
 clear H
 go_enter Try.func31, Try.ntmps31
 go_wp2_with (first | ((with_reducible refine gate_dst (N := 4) rfl ?_); (try (refine gate_guard (by rfl) ?_; dsimp only)); refine kx (N := 4) (cs := #[.slice none 0 0, .bool false]) (t := 37) ?_; intro gb129 hg w3 hbox hb; have n0_ := ka (Kd.V_below (Kd.V_elderB (by (with_reducible repeat (first | apply Kd.V_alloc | apply Kd.V_drewN | apply Kd.V_drew)); exact HO0.out) gb129 (Nat.le_of_eq hg.symm)) hb); have n1_ := ka (below_step (kw HB.out) hb); have n2_ := ka (hbox); have n3_ := ka ((by rw [hg]; exact (below_size (kw HB.out)) : w.heap.size ≤ gb129)); have n4_ := n3_; clear HO0; clear HB; have HO0 := n0_; have HB := n1_; have BK129 := n2_; have GW129 := n3_; have GE129 := n4_; clear n0_ n1_ n2_ n3_ n4_; clear hb hbox hg))
 (try simp only [Act.put, List.setIfInBounds_toArray, List.set_cons_zero, List.set_cons_succ])
 go_loopg [0] k (fun kq v0 w' => ∃ (x0_1 : List Int), Aside0 (trivetref01_norm.l0 kq x0_1 a1 = some (r1, r2)) ∧ Aside0 (kq ≤ k) ∧ Aside0 (Kd.V (Kd.int .u64) 46 w' w.heap.size (fun k_ => (P0_ k_ ∨ w.heap.size ≤ k_) ∧ k_ ≠ gb129) v0 x0_1) ∧ Aside0 (w'.heap[gb129]? = some (.cells #[(.slice none 0 0), .bool false] 37 (0, 0))) ∧ Aside0 (Below w.heap.size w w'))
 case atStart => exact ⟨(l0), H', ⟨Nat.le_refl _⟩, ⟨by (with_reducible repeat (first | apply Kd.V_alloc | apply Kd.V_drewN | apply Kd.V_drew)); exact HO0.out⟩, ⟨by (with_reducible repeat (first | apply kb1 | apply kb2 | apply kb3)); exact BK129.out⟩, ⟨by repeat (first | (with_reducible first | exact HB.out | apply kc1 | apply kc2 | apply kc3 | refine kc4 ?_ GE129.out) | exact HB.out)⟩⟩
 case round =>
  clear H'
  try clear p2
  try clear c3
  obtain ⟨x0_1, HA, HK1, HO_0, BK129, HB⟩ := hrel
  cases gk with
  | zero => exact absurd HA.out (by simp [trivetref01_norm.l0])
  | succ k1 =>
   have H := HA.out
   clear HA
   simp only [trivetref01_norm.l0] at H
   by_cases c4 : (x0_1.length : Int) > 0
   ·rw [if_pos c4] at H
    have c4b0 : decide (0 < (x0_1.length : Int)) = true := decide_eq_true c4
    have c4b1 : decide (0 < x0_1.length) = true := decide_eq_true (by omega)
    clear c4
    obtain ⟨ji5, hji5⟩ : ∃ j_ : Int, (wrap64 ((x0_1.length : Int) - 1)) = j_ := ⟨_, rfl⟩
    replace H : (if 0 ≤ (ji5) then (if (ji5) < (x0_1.length : Int) then (if (rd x0_1 (ji5)) = 0 then (if (ji5) ≤ (x0_1.length : Int) then (trivetref01_norm.l0 k1 (x0_1.take ((ji5) : Int).toNat) a1) else (none)) else (if a1 = true then (some (x0_1, true)) else (some (x0_1, false)))) else (none)) else (none)) = some (r1, r2) := by first | (rw [hji5] at H; exact H) | (simp only [hji5] at H ⊢; exact H)
    have hji5w : (IntKind.i64.wrap ((x0_1.length : Int) - 1)) = ji5 := (i64_w _).trans hji5
    by_cases c6 : 0 ≤ (ji5)
    ·rw [if_pos c6] at H
     have c6b0 : decide (0 ≤ (ji5)) = true := decide_eq_true c6
     clear c6
     by_cases c7 : (ji5) < (x0_1.length : Int)
     ·rw [if_pos c7] at H
      have c7b0 : decide ((ji5) < (x0_1.length : Int)) = true := decide_eq_true c7
      clear c7
      by_cases c8 : (rd x0_1 (ji5)) = 0
      ·rw [if_pos c8] at H
       have c8b0 : ((rd x0_1 (ji5)) == 0) = true := beq_iff_eq.mpr c8
       have c8b1 : ((rd x0_1 (ji5)) != 0) = false := bne_eq_false_iff_eq.mpr c8
       clear c8
       have c9b0 := eq_true (of_decide_eq_true (by first | (with_reducible assumption) | assumption) : 0 ≤ (ji5))
       by_cases c10 : (ji5) ≤ (x0_1.length : Int)
       ·rw [if_pos c10] at H
        have c10b0 := eq_true c10
        have c10b1 : decide ((ji5) ≤ (x0_1.length : Int)) = true := decide_eq_true c10
        clear c10
        obtain ⟨y131, hy131⟩ : ∃ y_ : List Int, y_ = (x0_1.take ((ji5) : Int).toNat) := ⟨_, rfl⟩
        replace H : (trivetref01_norm.l0 k1 y131 a1) = some (r1, r2) := by first | (rw [hy131]; with_reducible exact H) | (have H2_ := (Option.bind_some _ _).symm.trans H; rw [hy131]; with_reducible exact H2_) | (have H2_ := (Option.bind_some _ _).symm.trans H; with_reducible exact H2_) | with_reducible exact H | (rw [hy131]; exact H) | exact H
        have Ny131 := ka hy131
        clear hy131
        have H' := ka H
        clear H
        obtain ⟨Ao11, co11, eo11⟩ := Kd.V_slice HO_0.out
        subst eo11
        have p130 : 0 ≤ ((ji5) : Int) := of_decide_eq_true (by first | (with_reducible assumption) | assumption)
        have q130 : (ji5) < (x0_1.length : Int) := of_decide_eq_true (by first | (with_reducible assumption) | assumption)
        obtain ⟨ad130, e130, hx130_0⟩ := Kd.at_int (Kd.V_reads' HO_0.out).2.2 (ji5) p130 q130
        cases e130
        replace p130 := eq_true p130
        replace q130 := eq_true q130
        have q12 : ((ji5) : Int) ≤ ((x0_1.length : Int) : Int) := of_decide_eq_true (by first | (with_reducible assumption) | assumption)
        obtain ⟨i012, hi012, _, hsz12, _⟩ := info_parts info46
        have hroom12 : x0_1.length ≤ co11 := (Kd.V_reads' HO_0.out).2.1
        have hC12 : Kd.F (Kd.int .u64) _ _ (some ad130) x0_1.length x0_1 := (Kd.V_at (base := w.heap.size) HO_0.out).2.2
        have hcut12 := cut_to (P := Try.prog) 35 46 .i64 Try.underlying35 hi012 (some ad130) x0_1.length co11 (ji5) (of_decide_eq_true (by first | (with_reducible assumption) | assumption)) q12 hroom12
        have hr12 := Kd.F_take (m := ((ji5) : Int).toNat) hC12 (by omega)
        have hy12 : y131.length = ((ji5) : Int).toNat := (by rw [Ny131.out, List.length_take]; omega)
        rw [← Ny131.out] at hr12
        rw [← hy12] at hcut12
        have HO135 := ka (show Kd.V (Kd.int .u64) 46 _ w.heap.size _ (.slice (some ad130) y131.length co11) y131 from Kd.V_mk (by omega) hr12)
        have HC135 := ka (show y131.length ≤ co11 from by omega)
        clear hr12 hC12 hroom12 hi012 hsz12
        have KY12 := ka hy12
        clear hy12
        replace q12 := eq_true q12
        go_wp2
        go_roundg k1
        case measure => have := HK1.out; omega
        case rel => exact ⟨(y131), H', ⟨by have := HK1.out; omega⟩, ⟨by (with_reducible repeat (first | apply Kd.V_alloc | apply Kd.V_drewN | apply Kd.V_drew)); exact HO135.out⟩, ⟨by (with_reducible repeat (first | apply kb1 | apply kb2 | apply kb3)); exact BK129.out⟩, ⟨by repeat (first | (with_reducible first | exact HB.out | apply kc1 | apply kc2 | apply kc3 | refine kc4 ?_ GE129.out) | exact HB.out)⟩⟩
       ·rw [if_neg c10] at H
        exact absurd H (by simp)
      ·rw [if_neg c8] at H
       have c8b0 : ((rd x0_1 (ji5)) == 0) = false := beq_eq_false_iff_ne.mpr c8
       have c8b1 : ((rd x0_1 (ji5)) != 0) = true := bne_iff_ne.mpr c8
       by_cases c13 : a1 = true
       ·subst c13
        have H1 : (some (x0_1, true)) = some (r1, r2) := by rw [if_pos rfl] at H; exact H
        clear H
        have H := H1
        clear H1
        simp only [Option.some.injEq, Prod.mk.injEq] at H
        obtain ⟨rfl, rfl⟩ := H
        obtain ⟨Ao14, co14, eo14⟩ := Kd.V_slice HO_0.out
        subst eo14
        have p130 : 0 ≤ ((ji5) : Int) := of_decide_eq_true (by first | (with_reducible assumption) | assumption)
        have q130 : (ji5) < (x0_1.length : Int) := of_decide_eq_true (by first | (with_reducible assumption) | assumption)
        obtain ⟨ad130, e130, hx130_0⟩ := Kd.at_int (Kd.V_reads' HO_0.out).2.2 (ji5) p130 q130
        cases e130
        replace p130 := eq_true p130
        replace q130 := eq_true q130
        have hcz15 := blkAll2 BK129.out
        go_wp2
        refine bodyPost_ret (results_cell_row rfl _ _ gb129 37 #[.slice (some ad130) x0_1.length co14, .bool true] (0, 0) _ rfl (by (with_reducible repeat (first | apply kb1 | apply kb2 | apply kb3 | apply blkPut2_1 | apply blkPut2_0)); exact BK129.out) Try.underlying37 rfl (by kernel_rfl)) rfl ?_
        exact ⟨_, by first | rfl | (simp [errW_none, errW_some] <;> rfl) | (simp only [← hji5]; first | rfl | (simp [errW_none, errW_some] <;> rfl)) | (simp [*, errW_none, errW_some] <;> rfl), by (with_reducible repeat (first | apply Kd.V_alloc | apply Kd.V_drewN | apply Kd.V_drew)); exact Kd.V_mono (Kd.V_far (p := ⟨gb129, 1, none⟩) (Kd.V_far (p := ⟨gb129, 0, none⟩) (Kd.V_mono HO_0.out (fun k_ hk => (⟨hk, hk.2⟩ : _ ∧ k_ ≠ gb129))) (fun _ hk => hk.2) (.slice (some ad130) x0_1.length co14)) (fun _ hk => hk.2) (.bool true)) (fun _ hk => hk.1.1), by repeat (first | (with_reducible first | exact HB.out | apply kc1 | apply kc2 | apply kc3 | refine kc4 ?_ GE129.out) | exact HB.out)⟩
       ·replace c13 := Bool.eq_false_iff.mpr c13
        subst c13
        have H1 : (some (x0_1, false)) = some (r1, r2) := by rw [if_neg (show ¬ (false = true) by decide)] at H; exact H
        clear H
        have H := H1
        clear H1
        simp only [Option.some.injEq, Prod.mk.injEq] at H
        obtain ⟨rfl, rfl⟩ := H
        obtain ⟨Ao16, co16, eo16⟩ := Kd.V_slice HO_0.out
        subst eo16
        have p130 : 0 ≤ ((ji5) : Int) := of_decide_eq_true (by first | (with_reducible assumption) | assumption)
        have q130 : (ji5) < (x0_1.length : Int) := of_decide_eq_true (by first | (with_reducible assumption) | assumption)
        obtain ⟨ad130, e130, hx130_0⟩ := Kd.at_int (Kd.V_reads' HO_0.out).2.2 (ji5) p130 q130
        cases e130
        replace p130 := eq_true p130
        replace q130 := eq_true q130
        have hcz17 := blkAll2 BK129.out
        go_wp2
        refine bodyPost_ret (results_cell_row rfl _ _ gb129 37 #[.slice (some ad130) x0_1.length co16, .bool false] (0, 0) _ rfl (by (with_reducible repeat (first | apply kb1 | apply kb2 | apply kb3 | apply blkPut2_1 | apply blkPut2_0)); exact BK129.out) Try.underlying37 rfl (by kernel_rfl)) rfl ?_
        exact ⟨_, by first | rfl | (simp [errW_none, errW_some] <;> rfl) | (simp only [← hji5]; first | rfl | (simp [errW_none, errW_some] <;> rfl)) | (simp [*, errW_none, errW_some] <;> rfl), by (with_reducible repeat (first | apply Kd.V_alloc | apply Kd.V_drewN | apply Kd.V_drew)); exact Kd.V_mono (Kd.V_far (p := ⟨gb129, 1, none⟩) (Kd.V_far (p := ⟨gb129, 0, none⟩) (Kd.V_mono HO_0.out (fun k_ hk => (⟨hk, hk.2⟩ : _ ∧ k_ ≠ gb129))) (fun _ hk => hk.2) (.slice (some ad130) x0_1.length co16)) (fun _ hk => hk.2) (.bool false)) (fun _ hk => hk.1.1), by repeat (first | (with_reducible first | exact HB.out | apply kc1 | apply kc2 | apply kc3 | refine kc4 ?_ GE129.out) | exact HB.out)⟩
     ·rw [if_neg c7] at H
      exact absurd H (by simp)
    ·rw [if_neg c6] at H
     exact absurd H (by simp)
   ·rw [if_neg c4] at H
    have c4b0 : decide (0 < (x0_1.length : Int)) = false := decide_eq_false c4
    have c4b1 : decide (0 < x0_1.length) = false := decide_eq_false (by omega)
    clear c4
    by_cases c18 : a1 = true
    ·subst c18
     have H1 : (some (x0_1, false)) = some (r1, r2) := by rw [if_pos rfl] at H; exact H
     clear H
     have H := H1
     clear H1
     simp only [Option.some.injEq, Prod.mk.injEq] at H
     obtain ⟨rfl, rfl⟩ := H
     obtain ⟨Ao19, co19, eo19⟩ := Kd.V_slice HO_0.out
     subst eo19
     have hcz20 := blkAll2 BK129.out
     go_wp2
     refine bodyPost_ret (results_cell_row rfl _ _ gb129 37 #[.slice Ao19 x0_1.length co19, .bool false] (0, 0) _ rfl (by (with_reducible repeat (first | apply kb1 | apply kb2 | apply kb3 | apply blkPut2_1 | apply blkPut2_0)); exact BK129.out) Try.underlying37 rfl (by kernel_rfl)) rfl ?_
     exact ⟨_, by first | rfl | (simp [errW_none, errW_some] <;> rfl) | (simp [*, errW_none, errW_some] <;> rfl), by (with_reducible repeat (first | apply Kd.V_alloc | apply Kd.V_drewN | apply Kd.V_drew)); exact Kd.V_mono (Kd.V_far (p := ⟨gb129, 1, none⟩) (Kd.V_far (p := ⟨gb129, 0, none⟩) (Kd.V_mono HO_0.out (fun k_ hk => (⟨hk, hk.2⟩ : _ ∧ k_ ≠ gb129))) (fun _ hk => hk.2) (.slice Ao19 x0_1.length co19)) (fun _ hk => hk.2) (.bool false)) (fun _ hk => hk.1.1), by repeat (first | (with_reducible first | exact HB.out | apply kc1 | apply kc2 | apply kc3 | refine kc4 ?_ GE129.out) | exact HB.out)⟩
    ·replace c18 := Bool.eq_false_iff.mpr c18
     subst c18
     have H1 : (some (x0_1, false)) = some (r1, r2) := by rw [if_neg (show ¬ (false = true) by decide)] at H; exact H
     clear H
     have H := H1
     clear H1
     simp only [Option.some.injEq, Prod.mk.injEq] at H
     obtain ⟨rfl, rfl⟩ := H
     obtain ⟨Ao21, co21, eo21⟩ := Kd.V_slice HO_0.out
     subst eo21
     have hcz22 := blkAll2 BK129.out
     go_wp2
     refine bodyPost_ret (results_cell_row rfl _ _ gb129 37 #[.slice Ao21 x0_1.length co21, .bool false] (0, 0) _ rfl (by (with_reducible repeat (first | apply kb1 | apply kb2 | apply kb3 | apply blkPut2_1 | apply blkPut2_0)); exact BK129.out) Try.underlying37 rfl (by kernel_rfl)) rfl ?_
     exact ⟨_, by first | rfl | (simp [errW_none, errW_some] <;> rfl) | (simp [*, errW_none, errW_some] <;> rfl), by (with_reducible repeat (first | apply Kd.V_alloc | apply Kd.V_drewN | apply Kd.V_drew)); exact Kd.V_mono (Kd.V_far (p := ⟨gb129, 1, none⟩) (Kd.V_far (p := ⟨gb129, 0, none⟩) (Kd.V_mono HO_0.out (fun k_ hk => (⟨hk, hk.2⟩ : _ ∧ k_ ≠ gb129))) (fun _ hk => hk.2) (.slice Ao21 x0_1.length co21)) (fun _ hk => hk.2) (.bool false)) (fun _ hk => hk.1.1), by repeat (first | (with_reducible first | exact HB.out | apply kc1 | apply kc2 | apply kc3 | refine kc4 ?_ GE129.out) | exact HB.out)⟩

/-! ### trivetref01_norm: function 31, its laws -/
theorem trivetref01_norm.tells (k : Nat) : ∀ (d : List Int) (m : Bool), U.Dg d → d.length < k → (d.length : Int) < 9223372036854775808 → trivetref01_norm.f k d m = some (U.dig (U.val d), m && !(U.dig (U.val d)).isEmpty) := by
 induction k with
 | zero => intro d m _ h _; omega
 | succ k ih =>
  intro d m hd h hl
  unfold trivetref01_norm.f
  simp only [trivetref01_norm.l0]
  rcases List.eq_nil_or_concat d with rfl | ⟨r, x, rfl⟩
  ·rw [if_neg (by simp)]
   simp only [U.val, U.dig_zero]
   cases m <;> simp
  ·rw [List.concat_eq_append] at *
   have hlen : (r ++ [x]).length = r.length + 1 := by simp
   have hw : wrap64 (((r ++ [x]).length : Int) - 1) = r.length := by rw [hlen, M.w64_id (by omega) (by omega)]; omega
   rw [if_pos (by omega), hw, if_pos (by omega), if_pos (by omega)]
   have hr : rd (r ++ [x]) (r.length : Int) = x := by simp [rd]
   rw [hr]
   by_cases hx : x = 0
   ·subst hx
    rw [if_pos rfl, if_pos (by omega)]
    have ht : (r ++ [(0 : Int)]).take ((r.length : Int)).toNat = r := by simp
    rw [ht, U.val_append, U.val_one, Int.mul_zero, Int.add_zero]
    exact ih r m hd.left (by omega) (by omega)
   ·rw [if_neg hx, U.dig_val_top hd hx]
    cases m <;> simp
theorem trivetref01_norm.num (k : Nat) (d : List Int) (m : Bool) (z : Int) (hd : U.Dg d) (h : d.length < k) (hl : (d.length : Int) < 9223372036854775808) (hz : z = if m = true then -U.val d else U.val d) : trivetref01_norm.f k d m = some (U.num z) := by
 rw [trivetref01_norm.tells k d m hd h hl, U.num_of (U.val_nonneg hd) hz]

end Go.Proofs.Ytdddiahgkpfikaa.P
