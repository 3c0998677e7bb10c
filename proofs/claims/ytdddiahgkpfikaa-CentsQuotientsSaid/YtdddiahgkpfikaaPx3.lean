-- Written by a program of this session out of the translation of the seat: Lean functions and the proofs that the Go functions come to them.
import Derived.Test.YtdddiahgkpfikaaPx0
import Derived.Test.YtdddiahgkpfikaaPx1
import Derived.Test.YtdddiahgkpfikaaPx2
namespace Go.Proofs.Ytdddiahgkpfikaa.P
open Go.RowKit Go.Proofs.YtdddiahgkpfikaaW.PrintWords Go.Proofs.YtdddiahgkpfikaaW.PrintLast Go.Proofs.YtdddiahgkpfikaaW.PrintMore
attribute [local go_sem] max2_int min2_int max_two min_two max_three min_three max_four min_four   -- for this text's walks alone
set_option linter.unusedVariables false
set_option linter.unusedSimpArgs false

/-! ### cents_MulDiv_s: function 13, told plainly -/
theorem cents_MulDiv.size_tells (a : Int) (h : M.In a) : cents_size.f a = some (M.abs a, decide (a < 0)) := by
 unfold cents_size.f M.abs M.In at *
 by_cases h0 : a < 0
 ·rw [if_pos h0, if_pos h0, decide_eq_true h0]
  congr 2
  simp only [M.wrapu]
  omega
 ·rw [if_neg h0, if_neg h0, decide_eq_false h0]
  congr 2
  simp only [M.wrapu]
  omega
theorem cents_MulDiv.further_tells (q r c : Int) (minus : Bool) (mode : Int) (hm : 1 ≤ mode ∧ mode ≤ 4) (h0 : 0 ≤ q) (h1 : q < 18446744073709551616) (hr : 0 < r) (hrc : r < c) (hc : c < 18446744073709551616) :
  cents_further.f q r c minus mode = some (decide ((if minus = true then mode = 1 else mode = 2) ∨ mode = 3 ∧ 2 * r ≥ c ∨ mode = 4 ∧ (2 * r > c ∨ 2 * r = c ∧ q % 2 = 1))) := by
 unfold cents_further.f
 have hw : IntKind.u64.wrap (c - r) = c - r := M.wrapu_id (by omega) (by omega)
 rw [hw, M.and_one q h0 h1]
 have hm' : mode = 1 ∨ mode = 2 ∨ mode = 3 ∨ mode = 4 := by omega
 rcases hm' with rfl | rfl | rfl | rfl
 ·cases minus <;> simp <;> omega
 ·cases minus <;> simp <;> omega
 ·by_cases g : r > c - r
  ·have g2 : c ≤ 2 * r := by omega
   cases minus <;> simp [g, g2]
  ·by_cases g' : r = c - r
   ·have g2 : c ≤ 2 * r := by omega
    cases minus <;> simp [g, g2] <;> omega
   ·have g2 : ¬ c ≤ 2 * r := by omega
    cases minus <;> simp [g, g', g2]
 ·have h2 : 2 * r > c ↔ r > c - r := by omega
  have h3 : 2 * r = c ↔ r = c - r := by omega
  simp only [h2, h3]
  by_cases g : r > c - r
  ·cases minus <;> simp [g]
  ·by_cases g' : r = c - r
   ·have e : ∀ z : Int, (z == 1) = decide (z = 1) := fun z => by by_cases h : z = 1 <;> simp [h]
    cases minus <;> simp [g, ← g', e]
   ·cases minus <;> simp [g, g']
theorem cents_MulDiv.last (N c mode : Int) (minus : Bool) (hN : 0 ≤ N) (hc : 0 < c) (hc2 : c ≤ 9223372036854775808) (hm : 1 ≤ mode ∧ mode ≤ 4) (hq : N / c < 18446744073709551616) (n : Int) (hn : n = if minus = true then -N else N) (k : Nat) :
  (if N % c > 0 then (cents_further.f (N / c) (N % c) c minus mode).bind fun t => cents_MulDiv.j1 (k + 1) minus (N / c) t else cents_MulDiv.j1 (k + 1) minus (N / c) false) = some (M.told (M.quo n c mode)) := by
 have r0 := Int.emod_nonneg N (show c ≠ 0 by omega)
 have r1 := Int.emod_lt_of_pos N hc
 have hq0 : 0 ≤ N / c := Int.ediv_nonneg hN (by omega)
 have hs := M.quo_sized hN hc hm
 have key : ∀ (t : Bool) (v : Int), (v = if minus = true then -(N / c + (if t = true then 1 else 0)) else N / c + (if t = true then 1 else 0)) →
   cents_MulDiv.j1 (k + 1) minus (N / c) t = some (M.told v) := by
  intro t v hv
  simp only [cents_MulDiv.j1]
  generalize N / c = q at *
  unfold cents_signed.f
  cases t with
  | true =>
   simp only [if_true] at hv ⊢
   by_cases hz : IntKind.u64.wrap (q + 1) = 0
   ·rw [if_pos hz, M.told_out]
    intro hin
    unfold M.In at hin
    rw [M.wrapu] at hz
    cases minus <;> simp at hv <;> omega
   ·rw [if_neg hz]
    have hw : IntKind.u64.wrap (q + 1) = q + 1 := by rw [M.wrapu] at hz ⊢; omega
    rw [hw]
    cases minus with
    | true =>
     simp only [if_true] at hv ⊢
     rw [Option.bind_some]
     by_cases hle : q + 1 ≤ 9223372036854775808
     ·rw [if_pos (decide_eq_true hle), M.told_in (show M.In v from ⟨by omega, by omega⟩)]
      refine congrArg some (Prod.ext ?_ rfl)
      simp only [M.wrapu]; unfold wrap64; omega
     ·rw [if_neg (by simpa using hle), M.told_out (fun hin => by unfold M.In at hin; omega)]
    | false =>
     simp only [Bool.false_eq_true, if_false] at hv ⊢
     rw [Option.bind_some]
     by_cases hle : q + 1 < 9223372036854775808
     ·rw [if_pos (decide_eq_true hle), M.told_in (show M.In v from ⟨by omega, by omega⟩)]
      refine congrArg some (Prod.ext ?_ rfl)
      simp only []; unfold wrap64; omega
     ·rw [if_neg (by simpa using hle), M.told_out (fun hin => by unfold M.In at hin; omega)]
  | false =>
   simp only [Bool.false_eq_true, if_false] at hv ⊢
   cases minus with
   | true =>
    simp only [if_true] at hv ⊢
    rw [Option.bind_some]
    by_cases hle : q ≤ 9223372036854775808
    ·rw [if_pos (decide_eq_true hle), M.told_in (show M.In v from ⟨by omega, by omega⟩)]
     refine congrArg some (Prod.ext ?_ rfl)
     simp only [M.wrapu]; unfold wrap64; omega
    ·rw [if_neg (by simpa using hle), M.told_out (fun hin => by unfold M.In at hin; omega)]
   | false =>
    simp only [Bool.false_eq_true, if_false] at hv ⊢
    rw [Option.bind_some]
    by_cases hle : q < 9223372036854775808
    ·rw [if_pos (decide_eq_true hle), M.told_in (show M.In v from ⟨by omega, by omega⟩)]
     refine congrArg some (Prod.ext ?_ rfl)
     simp only []; unfold wrap64; omega
    ·rw [if_neg (by simpa using hle), M.told_out (fun hin => by unfold M.In at hin; omega)]
 by_cases hr : N % c > 0
 ·rw [if_pos hr, cents_MulDiv.further_tells _ _ _ _ _ hm hq0 hq hr r1 (by omega), Option.bind_some]
  apply key
  subst hn
  cases minus with
  | true =>
   simp only [if_true]
   rw [hs.2]
   congr 2
   simp only [hr, true_and, decide_eq_true_eq]
  | false =>
   simp only [Bool.false_eq_true, if_false]
   rw [hs.1]
   congr 2
   simp only [hr, true_and, decide_eq_true_eq]
 ·rw [if_neg hr]
  apply key
  subst hn
  cases minus with
  | true => simp only [if_true]; rw [hs.2]; simp [hr]
  | false => simp only [Bool.false_eq_true, if_false]; rw [hs.1]; simp [hr]
theorem cents_MulDiv.quo_over {N c mode : Int} (hN : 0 ≤ N) (hc : 0 < c) (hm : 1 ≤ mode ∧ mode ≤ 4) (hq : 18446744073709551616 ≤ N / c) : ¬ M.In (M.quo N c mode) ∧ ¬ M.In (M.quo (-N) c mode) := by
 have hs := M.quo_sized hN hc hm
 rw [hs.1, hs.2]
 unfold M.In
 constructor <;> split <;> omega
theorem cents_MulDiv.quo_neg (n c mode : Int) (hc : c < 0) : M.quo n c mode = M.quo (-n) (-c) mode := by
 unfold M.quo
 simp only [if_pos hc, if_neg (show ¬ -c < 0 by omega)]
theorem cents_MulDiv.abs_mul (a b : Int) : a * b = if (decide (a < 0) == decide (b < 0)) = true then M.abs a * M.abs b else -(M.abs a * M.abs b) := by
 unfold M.abs
 by_cases ha : a < 0 <;> by_cases hb : b < 0 <;> simp [ha, hb, Int.neg_mul, Int.mul_neg]
theorem cents_MulDiv.tells (a b c mode : Int) (ha : M.In a) (hb : M.In b) (hc : M.In c) (k : Nat) (hk : 4 ≤ k) :
  cents_MulDiv.f k a b c mode = some (if c = 0 ∨ mode < 1 ∨ mode > 4 then (0, some 1) else M.told (M.quo (a * b) c mode)) := by
 obtain ⟨k, rfl⟩ : ∃ m, k = m + 2 := ⟨k - 2, by omega⟩
 unfold cents_MulDiv.f
 by_cases hc0 : c = 0
 ·rw [if_pos hc0, if_pos (.inl hc0)]
  simp [cents_MulDiv.j0]
 rw [if_neg hc0]
 by_cases hm1 : mode < 1
 ·rw [if_pos hm1, if_pos (.inr (.inl hm1))]
  simp [cents_MulDiv.j0]
 rw [if_neg hm1]
 by_cases hm4 : mode > 4
 ·rw [decide_eq_true hm4, if_pos (.inr (.inr hm4))]
  simp [cents_MulDiv.j0]
 rw [decide_eq_false hm4, if_neg (by omega)]
 have hm : 1 ≤ mode ∧ mode ≤ 4 := by omega
 simp only [cents_MulDiv.j0]
 rw [if_neg (by decide), cents_MulDiv.size_tells a ha, cents_MulDiv.size_tells b hb, cents_MulDiv.size_tells c hc]
 simp only [Option.bind_some]
 have ba : 0 ≤ M.abs a ∧ M.abs a ≤ 9223372036854775808 := by unfold M.abs M.In at *; split <;> omega
 have bb : 0 ≤ M.abs b ∧ M.abs b ≤ 9223372036854775808 := by unfold M.abs M.In at *; split <;> omega
 have bc : 0 < M.abs c ∧ M.abs c ≤ 9223372036854775808 := by unfold M.abs M.In at *; split <;> omega
 have hN : 0 ≤ M.abs a * M.abs b := Int.mul_nonneg ba.1 bb.1
 unfold bits_Mul64_s.f
 rw [if_pos ⟨ba.1, by omega, bb.1, by omega⟩]
 simp only [Option.bind_some]
 have hcq : M.quo (a * b) c mode = M.quo (if (!((!(decide (a < 0) == decide (b < 0))) == decide (c < 0))) = true then -(M.abs a * M.abs b) else M.abs a * M.abs b) (M.abs c) mode := by
  rw [cents_MulDiv.abs_mul a b]
  by_cases h : c < 0
  ·rw [cents_MulDiv.quo_neg _ _ _ h]
   have : M.abs c = -c := by unfold M.abs; rw [if_pos h]
   rw [this, decide_eq_true h]
   cases hd : (decide (a < 0) == decide (b < 0)) <;> simp
  ·have : M.abs c = c := by unfold M.abs; rw [if_neg h]
   rw [this, decide_eq_false h]
   cases hd : (decide (a < 0) == decide (b < 0)) <;> simp
 rw [hcq]
 generalize (!((!(decide (a < 0) == decide (b < 0))) == decide (c < 0))) = minus at *
 generalize M.abs a * M.abs b = N at *
 generalize M.abs c = z at *
 by_cases hov : N / 18446744073709551616 ≥ z
 ·rw [if_pos hov, M.told_out]
  have hq : 18446744073709551616 ≤ N / z := by
   apply M.le_div bc.1
   rw [Int.mul_comm]
   omega
  have := cents_MulDiv.quo_over hN bc.1 hm hq
  cases minus
  ·exact this.1
  ·exact this.2
 ·rw [if_neg hov]
  unfold bits_Div64_s.f
  rw [if_pos ⟨by omega, by omega, by omega, by omega, by omega⟩]
  simp only [Option.bind_some]
  have e : N / 18446744073709551616 * 18446744073709551616 + N % 18446744073709551616 = N := by omega
  rw [e]
  refine cents_MulDiv.last N z mode minus hN bc.1 bc.2 hm ?_ _ rfl k
  apply M.div_lt bc.1
  rw [Int.mul_comm]
  omega
def cents_MulDiv_s.f (a b c mode : Int) : Option (Int × Option Int) :=
 if M.In a ∧ M.In b ∧ M.In c then some (if c = 0 ∨ mode < 1 ∨ mode > 4 then (0, some 1) else M.told (M.quo (a * b) c mode)) else none
theorem cents_MulDiv_s.calls (a0 : Int) (a1 : Int) (a2 : Int) (a3 : Int) (r1 : Int) (r2 : Option Int) (w : World) (h : cents_MulDiv_s.f a0 a1 a2 a3 = some (r1, r2)) :
  Calls Try.prog 13 #[.int .i64 a0, .int .i64 a1, .int .i64 a2, .int .i64 a3] w fun e w' => e = .returned (.tuple #[.int .i64 r1, errW r2]) ∧ Drawn0 w w' := by
 unfold cents_MulDiv_s.f at h
 split at h
 ·rename_i hr
  exact cents_MulDiv.calls 4 a0 a1 a2 a3 r1 r2 w ((cents_MulDiv.tells a0 a1 a2 a3 hr.1 hr.2.1 hr.2.2 4 (Nat.le_refl _)).trans h)
 ·cases h
theorem cents_MulDiv_s.at_ {a b c mode : Int} (ha : M.In a) (hb : M.In b) (hc : M.In c) : cents_MulDiv_s.f a b c mode = some (if c = 0 ∨ mode < 1 ∨ mode > 4 then (0, some 1) else M.told (M.quo (a * b) c mode)) := by unfold cents_MulDiv_s.f; rw [if_pos ⟨ha, hb, hc⟩]

/-! ### trivetlaw01_up: function 12 -/
def trivetlaw01_up.f  : Option (Bool) := (cents_MulDiv_s.f (-7) 1 2 1).bind fun bt418 => ((cents_MulDiv_s.f 5 1 2 4).bind fun bt420 => ((cents_MulDiv_s.f 1 1 0 2).bind fun bt422 => (if bt418.2.isNone = true then (if bt418.1 = (-4) then (if bt420.2.isNone = true then (if bt420.1 = 2 then (if bt422.2.isNone = true then (some false) else (some ((bt422.2.getD 0) == 1))) else (some false)) else (some false)) else (some false)) else (some false))))
set_option maxHeartbeats 8000000 in
set_option maxRecDepth 100000 in
theorem trivetlaw01_up.calls  (r : Bool) (w : World) (h : trivetlaw01_up.f  = some r) :
  Calls Try.prog 12 #[] w fun e w' => e = .returned (.bool r) ∧ Drawn0 w w' := by
 have hu24 := Try.underlying24
 have hu27 := Try.underlying27
 have H : ((cents_MulDiv_s.f (-7) 1 2 1).bind fun bt418 => ((cents_MulDiv_s.f 5 1 2 4).bind fun bt420 => ((cents_MulDiv_s.f 1 1 0 2).bind fun bt422 => (if bt418.2.isNone = true then (if bt418.1 = (-4) then (if bt420.2.isNone = true then (if bt420.1 = 2 then (if bt422.2.isNone = true then (some false) else (some ((bt422.2.getD 0) == 1))) else (some false)) else (some false)) else (some false)) else (some false))))) = some r := h
 clear h
 replace H := Option.bind_eq_some_iff.mp H
 obtain ⟨⟨t418, t419⟩, A10, H⟩ := H
 replace H : ((cents_MulDiv_s.f 5 1 2 4).bind fun bt420 => ((cents_MulDiv_s.f 1 1 0 2).bind fun bt422 => (if t419.isNone = true then (if t418 = (-4) then (if bt420.2.isNone = true then (if bt420.1 = 2 then (if bt422.2.isNone = true then (some false) else (some ((bt422.2.getD 0) == 1))) else (some false)) else (some false)) else (some false)) else (some false)))) = some r := H
 have A1 := ka A10
 clear A10
 replace H := Option.bind_eq_some_iff.mp H
 obtain ⟨⟨t420, t421⟩, A20, H⟩ := H
 replace H : ((cents_MulDiv_s.f 1 1 0 2).bind fun bt422 => (if t419.isNone = true then (if t418 = (-4) then (if t421.isNone = true then (if t420 = 2 then (if bt422.2.isNone = true then (some false) else (some ((bt422.2.getD 0) == 1))) else (some false)) else (some false)) else (some false)) else (some false))) = some r := H
 have A2 := ka A20
 clear A20
 replace H := Option.bind_eq_some_iff.mp H
 obtain ⟨⟨t422, t423⟩, A30, H⟩ := H
 replace H : (if t419.isNone = true then (if t418 = (-4) then (if t421.isNone = true then (if t420 = 2 then (if t423.isNone = true then (some false) else (some ((t423.getD 0) == 1))) else (some false)) else (some false)) else (some false)) else (some false)) = some r := H
 have A3 := ka A30
 clear A30
 rcases t419 with _ | q424
 ·have H1 : (if t418 = (-4) then (if t421.isNone = true then (if t420 = 2 then (if t423.isNone = true then (some false) else (some ((t423.getD 0) == 1))) else (some false)) else (some false)) else (some false)) = some r := by rw [if_pos (show (none : Option Int).isNone = true by rfl)] at H; exact H
  clear H
  have H := H1
  clear H1
  try simp only [errW_none, errW_some]
  by_cases c4 : t418 = (-4)
  ·rw [if_pos c4] at H
   have c4b0 : (t418 == (-4)) = true := beq_iff_eq.mpr c4
   have c4b1 : (t418 != (-4)) = false := bne_eq_false_iff_eq.mpr c4
   clear c4
   rcases t421 with _ | q425
   ·have H1 : (if t420 = 2 then (if t423.isNone = true then (some false) else (some ((t423.getD 0) == 1))) else (some false)) = some r := by rw [if_pos (show (none : Option Int).isNone = true by rfl)] at H; exact H
    clear H
    have H := H1
    clear H1
    try simp only [errW_none, errW_some]
    by_cases c5 : t420 = 2
    ·rw [if_pos c5] at H
     have c5b0 : (t420 == 2) = true := beq_iff_eq.mpr c5
     have c5b1 : (t420 != 2) = false := bne_eq_false_iff_eq.mpr c5
     clear c5
     rcases t423 with _ | q426
     ·have H1 : (some false) = some r := by rw [if_pos (show (none : Option Int).isNone = true by rfl)] at H; exact H
      clear H
      have H := H1
      clear H1
      try simp only [errW_none, errW_some]
      obtain rfl := Option.some.inj H
      go_enter Try.func12, Try.ntmps12
      go_wp2_with (first | ((with_reducible refine gate_callee (f := 13) rfl ?_); refine kg (some 8) rfl rfl Try.func13 (by kernel_rfl) rfl #[.int .i64 (-7), .int .i64 1, .int .i64 2, .int .i64 1] rfl ?_; (with_reducible refine (cents_MulDiv_s.calls (-7) 1 2 1 t418 none _ A1.out).mono ?_); rintro e w' ⟨rfl, ⟨nd, rfl⟩⟩; refine ⟨_, rfl, ?_⟩; (try simp only [errW_none, errW_some])) | ((with_reducible refine gate_callee (f := 13) rfl ?_); refine kg (some 12) rfl rfl Try.func13 (by kernel_rfl) rfl #[.int .i64 5, .int .i64 1, .int .i64 2, .int .i64 4] rfl ?_; (with_reducible refine (cents_MulDiv_s.calls 5 1 2 4 t420 none _ A2.out).mono ?_); rintro e w' ⟨rfl, ⟨nd, rfl⟩⟩; refine ⟨_, rfl, ?_⟩; (try simp only [errW_none, errW_some])) | ((with_reducible refine gate_callee (f := 13) rfl ?_); refine kg (some 16) rfl rfl Try.func13 (by kernel_rfl) rfl #[.int .i64 1, .int .i64 1, .int .i64 0, .int .i64 2] rfl ?_; (with_reducible refine (cents_MulDiv_s.calls 1 1 0 2 t422 none _ A3.out).mono ?_); rintro e w' ⟨rfl, ⟨nd, rfl⟩⟩; refine ⟨_, rfl, ?_⟩; (try simp only [errW_none, errW_some])))
      go_ret
      exact ⟨by first | rfl | (simp; done) | (simp [*]; done), by repeat (first | exact Drawn0.refl _ | apply Drawn0.step)⟩
     ·have H1 : (some (q426 == 1)) = some r := by rw [if_neg (show ¬ (some q426).isNone = true by simp)] at H; exact H
      clear H
      have H := H1
      clear H1
      try simp only [errW_none, errW_some]
      obtain rfl := Option.some.inj H
      go_enter Try.func12, Try.ntmps12
      go_wp2_with (first | ((with_reducible refine gate_callee (f := 13) rfl ?_); refine kg (some 8) rfl rfl Try.func13 (by kernel_rfl) rfl #[.int .i64 (-7), .int .i64 1, .int .i64 2, .int .i64 1] rfl ?_; (with_reducible refine (cents_MulDiv_s.calls (-7) 1 2 1 t418 none _ A1.out).mono ?_); rintro e w' ⟨rfl, ⟨nd, rfl⟩⟩; refine ⟨_, rfl, ?_⟩; (try simp only [errW_none, errW_some])) | ((with_reducible refine gate_callee (f := 13) rfl ?_); refine kg (some 12) rfl rfl Try.func13 (by kernel_rfl) rfl #[.int .i64 5, .int .i64 1, .int .i64 2, .int .i64 4] rfl ?_; (with_reducible refine (cents_MulDiv_s.calls 5 1 2 4 t420 none _ A2.out).mono ?_); rintro e w' ⟨rfl, ⟨nd, rfl⟩⟩; refine ⟨_, rfl, ?_⟩; (try simp only [errW_none, errW_some])) | ((with_reducible refine gate_callee (f := 13) rfl ?_); refine kg (some 16) rfl rfl Try.func13 (by kernel_rfl) rfl #[.int .i64 1, .int .i64 1, .int .i64 0, .int .i64 2] rfl ?_; (with_reducible refine (cents_MulDiv_s.calls 1 1 0 2 t422 (some q426) _ A3.out).mono ?_); rintro e w' ⟨rfl, ⟨nd, rfl⟩⟩; refine ⟨_, rfl, ?_⟩; (try simp only [errW_none, errW_some])))
      go_ret
      exact ⟨by first | rfl | (simp; done) | (simp [*]; done), by repeat (first | exact Drawn0.refl _ | apply Drawn0.step)⟩
    ·rw [if_neg c5] at H
     have c5b0 : (t420 == 2) = false := beq_eq_false_iff_ne.mpr c5
     have c5b1 : (t420 != 2) = true := bne_iff_ne.mpr c5
     obtain rfl := Option.some.inj H
     go_enter Try.func12, Try.ntmps12
     go_wp2_with (first | ((with_reducible refine gate_callee (f := 13) rfl ?_); refine kg (some 8) rfl rfl Try.func13 (by kernel_rfl) rfl #[.int .i64 (-7), .int .i64 1, .int .i64 2, .int .i64 1] rfl ?_; (with_reducible refine (cents_MulDiv_s.calls (-7) 1 2 1 t418 none _ A1.out).mono ?_); rintro e w' ⟨rfl, ⟨nd, rfl⟩⟩; refine ⟨_, rfl, ?_⟩; (try simp only [errW_none, errW_some])) | ((with_reducible refine gate_callee (f := 13) rfl ?_); refine kg (some 12) rfl rfl Try.func13 (by kernel_rfl) rfl #[.int .i64 5, .int .i64 1, .int .i64 2, .int .i64 4] rfl ?_; (with_reducible refine (cents_MulDiv_s.calls 5 1 2 4 t420 none _ A2.out).mono ?_); rintro e w' ⟨rfl, ⟨nd, rfl⟩⟩; refine ⟨_, rfl, ?_⟩; (try simp only [errW_none, errW_some])) | ((with_reducible refine gate_callee (f := 13) rfl ?_); refine kg (some 16) rfl rfl Try.func13 (by kernel_rfl) rfl #[.int .i64 1, .int .i64 1, .int .i64 0, .int .i64 2] rfl ?_; (with_reducible refine (cents_MulDiv_s.calls 1 1 0 2 t422 t423 _ A3.out).mono ?_); rintro e w' ⟨rfl, ⟨nd, rfl⟩⟩; refine ⟨_, rfl, ?_⟩; (try simp only [errW_none, errW_some])))
     go_ret
     exact ⟨by first | rfl | (simp; done) | (simp [*]; done), by repeat (first | exact Drawn0.refl _ | apply Drawn0.step)⟩
   ·have H1 : (some false) = some r := by rw [if_neg (show ¬ (some q425).isNone = true by simp)] at H; exact H
    clear H
    have H := H1
    clear H1
    try simp only [errW_none, errW_some]
    obtain rfl := Option.some.inj H
    go_enter Try.func12, Try.ntmps12
    go_wp2_with (first | ((with_reducible refine gate_callee (f := 13) rfl ?_); refine kg (some 8) rfl rfl Try.func13 (by kernel_rfl) rfl #[.int .i64 (-7), .int .i64 1, .int .i64 2, .int .i64 1] rfl ?_; (with_reducible refine (cents_MulDiv_s.calls (-7) 1 2 1 t418 none _ A1.out).mono ?_); rintro e w' ⟨rfl, ⟨nd, rfl⟩⟩; refine ⟨_, rfl, ?_⟩; (try simp only [errW_none, errW_some])) | ((with_reducible refine gate_callee (f := 13) rfl ?_); refine kg (some 12) rfl rfl Try.func13 (by kernel_rfl) rfl #[.int .i64 5, .int .i64 1, .int .i64 2, .int .i64 4] rfl ?_; (with_reducible refine (cents_MulDiv_s.calls 5 1 2 4 t420 (some q425) _ A2.out).mono ?_); rintro e w' ⟨rfl, ⟨nd, rfl⟩⟩; refine ⟨_, rfl, ?_⟩; (try simp only [errW_none, errW_some])) | ((with_reducible refine gate_callee (f := 13) rfl ?_); refine kg (some 16) rfl rfl Try.func13 (by kernel_rfl) rfl #[.int .i64 1, .int .i64 1, .int .i64 0, .int .i64 2] rfl ?_; (with_reducible refine (cents_MulDiv_s.calls 1 1 0 2 t422 t423 _ A3.out).mono ?_); rintro e w' ⟨rfl, ⟨nd, rfl⟩⟩; refine ⟨_, rfl, ?_⟩; (try simp only [errW_none, errW_some])))
    go_ret
    exact ⟨by first | rfl | (simp; done) | (simp [*]; done), by repeat (first | exact Drawn0.refl _ | apply Drawn0.step)⟩
  ·rw [if_neg c4] at H
   have c4b0 : (t418 == (-4)) = false := beq_eq_false_iff_ne.mpr c4
   have c4b1 : (t418 != (-4)) = true := bne_iff_ne.mpr c4
   obtain rfl := Option.some.inj H
   go_enter Try.func12, Try.ntmps12
   go_wp2_with (first | ((with_reducible refine gate_callee (f := 13) rfl ?_); refine kg (some 8) rfl rfl Try.func13 (by kernel_rfl) rfl #[.int .i64 (-7), .int .i64 1, .int .i64 2, .int .i64 1] rfl ?_; (with_reducible refine (cents_MulDiv_s.calls (-7) 1 2 1 t418 none _ A1.out).mono ?_); rintro e w' ⟨rfl, ⟨nd, rfl⟩⟩; refine ⟨_, rfl, ?_⟩; (try simp only [errW_none, errW_some])) | ((with_reducible refine gate_callee (f := 13) rfl ?_); refine kg (some 12) rfl rfl Try.func13 (by kernel_rfl) rfl #[.int .i64 5, .int .i64 1, .int .i64 2, .int .i64 4] rfl ?_; (with_reducible refine (cents_MulDiv_s.calls 5 1 2 4 t420 t421 _ A2.out).mono ?_); rintro e w' ⟨rfl, ⟨nd, rfl⟩⟩; refine ⟨_, rfl, ?_⟩; (try simp only [errW_none, errW_some])) | ((with_reducible refine gate_callee (f := 13) rfl ?_); refine kg (some 16) rfl rfl Try.func13 (by kernel_rfl) rfl #[.int .i64 1, .int .i64 1, .int .i64 0, .int .i64 2] rfl ?_; (with_reducible refine (cents_MulDiv_s.calls 1 1 0 2 t422 t423 _ A3.out).mono ?_); rintro e w' ⟨rfl, ⟨nd, rfl⟩⟩; refine ⟨_, rfl, ?_⟩; (try simp only [errW_none, errW_some])))
   go_ret
   exact ⟨by first | rfl | (simp; done) | (simp [*]; done), by repeat (first | exact Drawn0.refl _ | apply Drawn0.step)⟩
 ·have H1 : (some false) = some r := by rw [if_neg (show ¬ (some q424).isNone = true by simp)] at H; exact H
  clear H
  have H := H1
  clear H1
  try simp only [errW_none, errW_some]
  obtain rfl := Option.some.inj H
  go_enter Try.func12, Try.ntmps12
  go_wp2_with (first | ((with_reducible refine gate_callee (f := 13) rfl ?_); refine kg (some 8) rfl rfl Try.func13 (by kernel_rfl) rfl #[.int .i64 (-7), .int .i64 1, .int .i64 2, .int .i64 1] rfl ?_; (with_reducible refine (cents_MulDiv_s.calls (-7) 1 2 1 t418 (some q424) _ A1.out).mono ?_); rintro e w' ⟨rfl, ⟨nd, rfl⟩⟩; refine ⟨_, rfl, ?_⟩; (try simp only [errW_none, errW_some])) | ((with_reducible refine gate_callee (f := 13) rfl ?_); refine kg (some 12) rfl rfl Try.func13 (by kernel_rfl) rfl #[.int .i64 5, .int .i64 1, .int .i64 2, .int .i64 4] rfl ?_; (with_reducible refine (cents_MulDiv_s.calls 5 1 2 4 t420 t421 _ A2.out).mono ?_); rintro e w' ⟨rfl, ⟨nd, rfl⟩⟩; refine ⟨_, rfl, ?_⟩; (try simp only [errW_none, errW_some])) | ((with_reducible refine gate_callee (f := 13) rfl ?_); refine kg (some 16) rfl rfl Try.func13 (by kernel_rfl) rfl #[.int .i64 1, .int .i64 1, .int .i64 0, .int .i64 2] rfl ?_; (with_reducible refine (cents_MulDiv_s.calls 1 1 0 2 t422 t423 _ A3.out).mono ?_); rintro e w' ⟨rfl, ⟨nd, rfl⟩⟩; refine ⟨_, rfl, ?_⟩; (try simp only [errW_none, errW_some])))
  go_ret
  exact ⟨by first | rfl | (simp; done) | (simp [*]; done), by repeat (first | exact Drawn0.refl _ | apply Drawn0.step)⟩

/-! ### trivetlaw01_up_s: function 12, told plainly -/
theorem trivetlaw01_up.tells : trivetlaw01_up.f = some true := by decide
def trivetlaw01_up_s.f : Option Bool := some true
theorem trivetlaw01_up_s.calls (r : Bool) (w : World) (h : trivetlaw01_up_s.f = some r) :
  Calls Try.prog 12 #[] w fun e w' => e = .returned (.bool r) ∧ Drawn0 w w' := trivetlaw01_up.calls r w (trivetlaw01_up.tells.trans h)

/-! ### trivetref01_norm: function 31 -/
def trivetref01_norm.l0 : Nat → List Int → Bool → Option (List Int × Bool)
 | 0, _, _ => none
 | k + 1, x0, x1 => if (x0.length : Int) > 0 then (if 0 ≤ (wrap64 ((x0.length : Int) - 1)) then (if (wrap64 ((x0.length : Int) - 1)) < (x0.length : Int) then (if (rd x0 (wrap64 ((x0.length : Int) - 1))) = 0 then (if (wrap64 ((x0.length : Int) - 1)) ≤ (x0.length : Int) then (trivetref01_norm.l0 k (x0.take ((wrap64 ((x0.length : Int) - 1)) : Int).toNat) x1) else (none)) else (if x1 = true then (some (x0, true)) else (some (x0, false)))) else (none)) else (none)) else (if x1 = true then (some (x0, false)) else (some (x0, false)))
def trivetref01_norm.f (k : Nat) (l0 : List Int) (a1 : Bool) : Option (List Int × Bool) := trivetref01_norm.l0 k l0 a1
theorem trivetref01_norm.mono_l : ∀ k, (∀ y0 y1, LeO (trivetref01_norm.l0 k y0 y1) (trivetref01_norm.l0 (k + 1) y0 y1))
 | 0 => fun _ _ r h => by simp [trivetref01_norm.l0] at h
 | k + 1 => by
  have ih0 := trivetref01_norm.mono_l k
  ·intro y0 y1
   unfold trivetref01_norm.l0
   repeat' first
   | (with_reducible exact ih0 _ _)
   | (with_reducible exact LeO.refl _)
   | (with_reducible exact LeO.none _)
   | (with_reducible refine LeO.ite ?_ ?_)
   | (with_reducible refine LeO.bind ?_ (fun _ => ?_))
   | exact ih0 _ _
   | exact LeO.none _
   | refine LeO.ite ?_ ?_
   | refine LeO.bind ?_ (fun _ => ?_)
theorem trivetref01_norm.mono : ∀ a0 a1 k, LeO (trivetref01_norm.f k a0 a1) (trivetref01_norm.f (k + 1) a0 a1) := by
 intro a0 a1 k
 have ih0 := trivetref01_norm.mono_l k
 unfold trivetref01_norm.f
 repeat' first
   | (with_reducible exact ih0 _ _)
   | (with_reducible exact LeO.refl _)
   | (with_reducible exact LeO.none _)
   | (with_reducible refine LeO.ite ?_ ?_)
   | (with_reducible refine LeO.bind ?_ (fun _ => ?_))
   | exact ih0 _ _
   | exact LeO.none _
   | refine LeO.ite ?_ ?_
   | refine LeO.bind ?_ (fun _ => ?_)
set_option maxHeartbeats 8000000 in
set_option maxRecDepth 100000 in
theorem trivetref01_norm.calls (k : Nat) (P0_ : Nat → Prop) (A0 : Option Addr) (c0 : Nat) (l0 : List Int) (a1 : Bool) (r1 : List Int) (r2 : Bool) (w : World) (hs0 : Kd.V (Kd.int .u64) 46 w w.heap.size (fun k_ => P0_ k_) (.slice A0 l0.length c0) l0) (h : trivetref01_norm.f k l0 a1 = some (r1, r2)) :
  Calls Try.prog 31 #[.slice A0 l0.length c0, .bool a1] w fun e w' => ∃ v0_ : Value, e = .returned (.agg #[v0_, .bool r2]) ∧ Kd.V (Kd.int .u64) 46 w' w.heap.size (fun k_ => (P0_ k_ ∨ w.heap.size ≤ k_)) v0_ r1 ∧ Below w.heap.size w w' := by
 have hu37 := Try.underlying37
 have HO0 := ka (show Kd.V (Kd.int .u64) 46 w w.heap.size (fun k_ => (P0_ k_ ∨ w.heap.size ≤ k_)) (.slice A0 l0.length c0) l0 from Kd.V_mono hs0 (fun k_ hk => .inl hk))
 have HB := ka (Below.refl w.heap.size w)
 have H : (trivetref01_norm.l0 k l0 a1) = some (r1, r2) := h
 clear h
 have H' := ka H
 clear H
 go_enter Try.func31, Try.ntmps31
 go_wp2_with (first | ((with_reducible refine gate_dst (N := 4) rfl ?_); (try (refine gate_guard (by rfl) ?_; dsimp only)); refine kx (N := 4) (cs := #[.slice none 0 0, .bool false]) (t := 37) ?_; intro gb427 hg w3 hbox hb; have n0_ := ka (Kd.V_below (Kd.V_elderB (kv HO0.out) gb427 (Nat.le_of_eq hg.symm)) hb); have n1_ := ka (below_step (kw HB.out) hb); have n2_ := ka (hbox); have n3_ := ka ((by rw [hg]; exact (below_size (kw HB.out)) : w.heap.size ≤ gb427)); have n4_ := n3_; clear HO0; clear HB; have HO0 := n0_; have HB := n1_; have BK427 := n2_; have GW427 := n3_; have GE427 := n4_; clear n0_ n1_ n2_ n3_ n4_; clear hb hbox hg))
 (try simp only [Act.put, List.setIfInBounds_toArray, List.set_cons_zero, List.set_cons_succ])
 go_loopg [0] k (fun kq v0 w' => ∃ (x0_1 : List Int), Aside0 (trivetref01_norm.l0 kq x0_1 a1 = some (r1, r2)) ∧ Aside0 (kq ≤ k) ∧ Aside0 (Kd.V (Kd.int .u64) 46 w' w.heap.size (fun k_ => (P0_ k_ ∨ w.heap.size ≤ k_) ∧ k_ ≠ gb427) v0 x0_1) ∧ Aside0 (w'.heap[gb427]? = some (.cells #[(.slice none 0 0), .bool false] 37 (0, 0))) ∧ Aside0 (Below w.heap.size w w'))
 case atStart => exact ⟨(l0), H', ⟨Nat.le_refl _⟩, ⟨kv HO0.out⟩, ⟨by (with_reducible repeat (first | apply kb1 | apply kb2 | apply kb3)); exact BK427.out⟩, ⟨by repeat (first | (with_reducible first | exact HB.out | apply kc1 | apply kc2 | apply kc3 | refine kc4 ?_ GE427.out) | exact HB.out)⟩⟩
 case round =>
  clear H'
  try clear p2
  try clear c3
  obtain ⟨x0_1, HA, HK1, HO_0, BK427, HB⟩ := hrel
  cases gk with
  | zero => exact absurd HA.out (by simp [trivetref01_norm.l0])
  | succ k1 =>
   have H := HA.out
   clear HA
   simp only [trivetref01_norm.l0] at H
   by_cases c4 : (x0_1.length : Int) > 0
   ·rw [if_pos c4] at H
    have c4b0 : decide (0 < (x0_1.length : Int)) = true := decide_eq_true c4
    have c4b1 : decide (0 < x0_1.length) = true := decide_eq_true (by omega)
    clear c4
    obtain ⟨ji5, hji5⟩ : ∃ j_ : Int, (wrap64 ((x0_1.length : Int) - 1)) = j_ := ⟨_, rfl⟩
    replace H : (if 0 ≤ (ji5) then (if (ji5) < (x0_1.length : Int) then (if (rd x0_1 (ji5)) = 0 then (if (ji5) ≤ (x0_1.length : Int) then (trivetref01_norm.l0 k1 (x0_1.take ((ji5) : Int).toNat) a1) else (none)) else (if a1 = true then (some (x0_1, true)) else (some (x0_1, false)))) else (none)) else (none)) = some (r1, r2) := by first | (rw [hji5] at H; exact H) | (simp only [hji5] at H ⊢; exact H)
    have hji5w : (IntKind.i64.wrap ((x0_1.length : Int) - 1)) = ji5 := (i64_w _).trans hji5
    by_cases c6 : 0 ≤ (ji5)
    ·rw [if_pos c6] at H
     have c6b0 : decide (0 ≤ (ji5)) = true := decide_eq_true c6
     clear c6
     by_cases c7 : (ji5) < (x0_1.length : Int)
     ·rw [if_pos c7] at H
      have c7b0 : decide ((ji5) < (x0_1.length : Int)) = true := decide_eq_true c7
      clear c7
      by_cases c8 : (rd x0_1 (ji5)) = 0
      ·rw [if_pos c8] at H
       have c8b0 : ((rd x0_1 (ji5)) == 0) = true := beq_iff_eq.mpr c8
       have c8b1 : ((rd x0_1 (ji5)) != 0) = false := bne_eq_false_iff_eq.mpr c8
       clear c8
       have c9b0 := eq_true (of_decide_eq_true (by first | (with_reducible assumption) | assumption) : 0 ≤ (ji5))
       by_cases c10 : (ji5) ≤ (x0_1.length : Int)
       ·rw [if_pos c10] at H
        have c10b0 := eq_true c10
        have c10b1 : decide ((ji5) ≤ (x0_1.length : Int)) = true := decide_eq_true c10
        clear c10
        obtain ⟨y429, hy429⟩ : ∃ y_ : List Int, y_ = (x0_1.take ((ji5) : Int).toNat) := ⟨_, rfl⟩
        replace H : (trivetref01_norm.l0 k1 y429 a1) = some (r1, r2) := by first | (rw [hy429]; with_reducible exact H) | (have H2_ := (Option.bind_some _ _).symm.trans H; rw [hy429]; with_reducible exact H2_) | (have H2_ := (Option.bind_some _ _).symm.trans H; with_reducible exact H2_) | with_reducible exact H | (rw [hy429]; exact H) | exact H
        have Ny429 := ka hy429
        clear hy429
        have H' := ka H
        clear H
        obtain ⟨Ao11, co11, eo11⟩ := Kd.V_slice HO_0.out
        subst eo11
        have p428 : 0 ≤ ((ji5) : Int) := of_decide_eq_true (by first | (with_reducible assumption) | assumption)
        have q428 : (ji5) < (x0_1.length : Int) := of_decide_eq_true (by first | (with_reducible assumption) | assumption)
        obtain ⟨ad428, e428, hx428_0⟩ := Kd.at_int (Kd.V_reads' HO_0.out).2.2 (ji5) p428 q428
        cases e428
        replace p428 := eq_true p428
        replace q428 := eq_true q428
        have q12 : ((ji5) : Int) ≤ ((x0_1.length : Int) : Int) := of_decide_eq_true (by first | (with_reducible assumption) | assumption)
        obtain ⟨i012, hi012, _, hsz12, _⟩ := info_parts info46
        have hroom12 : x0_1.length ≤ co11 := (Kd.V_reads' HO_0.out).2.1
        have hC12 : Kd.F (Kd.int .u64) _ _ (some ad428) x0_1.length x0_1 := (Kd.V_at (base := w.heap.size) HO_0.out).2.2
        have hcut12 := cut_to (P := Try.prog) 35 46 .i64 Try.underlying35 hi012 (some ad428) x0_1.length co11 (ji5) (of_decide_eq_true (by first | (with_reducible assumption) | assumption)) q12 hroom12
        have hr12 := Kd.F_take (m := ((ji5) : Int).toNat) hC12 (by omega)
        have hy12 : y429.length = ((ji5) : Int).toNat := (by rw [Ny429.out, List.length_take]; omega)
        rw [← Ny429.out] at hr12
        rw [← hy12] at hcut12
        have HO433 := ka (show Kd.V (Kd.int .u64) 46 _ w.heap.size _ (.slice (some ad428) y429.length co11) y429 from Kd.V_mk (by omega) hr12)
        have HC433 := ka (show y429.length ≤ co11 from by omega)
        clear hr12 hC12 hroom12 hi012 hsz12
        have KY12 := ka hy12
        clear hy12
        replace q12 := eq_true q12
        go_wp2
        go_roundg k1
        case measure => have := HK1.out; omega
        case rel => exact ⟨(y429), H', ⟨by have := HK1.out; omega⟩, ⟨kv HO433.out⟩, ⟨by (with_reducible repeat (first | apply kb1 | apply kb2 | apply kb3)); exact BK427.out⟩, ⟨by repeat (first | (with_reducible first | exact HB.out | apply kc1 | apply kc2 | apply kc3 | refine kc4 ?_ GE427.out) | exact HB.out)⟩⟩
       ·rw [if_neg c10] at H
        exact absurd H (by simp)
      ·rw [if_neg c8] at H
       have c8b0 : ((rd x0_1 (ji5)) == 0) = false := beq_eq_false_iff_ne.mpr c8
       have c8b1 : ((rd x0_1 (ji5)) != 0) = true := bne_iff_ne.mpr c8
       by_cases c13 : a1 = true
       ·subst c13
        have H1 : (some (x0_1, true)) = some (r1, r2) := by rw [if_pos rfl] at H; exact H
        clear H
        have H := H1
        clear H1
        simp only [Option.some.injEq, Prod.mk.injEq] at H
        obtain ⟨rfl, rfl⟩ := H
        obtain ⟨Ao14, co14, eo14⟩ := Kd.V_slice HO_0.out
        subst eo14
        have p428 : 0 ≤ ((ji5) : Int) := of_decide_eq_true (by first | (with_reducible assumption) | assumption)
        have q428 : (ji5) < (x0_1.length : Int) := of_decide_eq_true (by first | (with_reducible assumption) | assumption)
        obtain ⟨ad428, e428, hx428_0⟩ := Kd.at_int (Kd.V_reads' HO_0.out).2.2 (ji5) p428 q428
        cases e428
        replace p428 := eq_true p428
        replace q428 := eq_true q428
        have hcz15 := blkAll2 BK427.out
        go_wp2
        refine bodyPost_ret (results_cell_row rfl _ _ gb427 37 #[.slice (some ad428) x0_1.length co14, .bool true] (0, 0) _ rfl (by (with_reducible repeat (first | apply kb1 | apply kb2 | apply kb3 | apply blkPut2_1 | apply blkPut2_0)); exact BK427.out) Try.underlying37 rfl (by kernel_rfl)) rfl ?_
        exact ⟨_, by first | rfl | (simp [errW_none, errW_some] <;> rfl) | (simp only [← hji5]; first | rfl | (simp [errW_none, errW_some] <;> rfl)) | (simp [*, errW_none, errW_some] <;> rfl), by (with_reducible repeat (first | apply Kd.V_alloc | apply Kd.V_drewN | apply Kd.V_drew)); exact Kd.V_mono (Kd.V_far (p := ⟨gb427, 1, none⟩) (Kd.V_far (p := ⟨gb427, 0, none⟩) (Kd.V_mono HO_0.out (fun k_ hk => (⟨hk, hk.2⟩ : _ ∧ k_ ≠ gb427))) (fun _ hk => hk.2) (.slice (some ad428) x0_1.length co14)) (fun _ hk => hk.2) (.bool true)) (fun _ hk => hk.1.1), by repeat (first | (with_reducible first | exact HB.out | apply kc1 | apply kc2 | apply kc3 | refine kc4 ?_ GE427.out) | exact HB.out)⟩
       ·replace c13 := Bool.eq_false_iff.mpr c13
        subst c13
        have H1 : (some (x0_1, false)) = some (r1, r2) := by rw [if_neg (show ¬ (false = true) by decide)] at H; exact H
        clear H
        have H := H1
        clear H1
        simp only [Option.some.injEq, Prod.mk.injEq] at H
        obtain ⟨rfl, rfl⟩ := H
        obtain ⟨Ao16, co16, eo16⟩ := Kd.V_slice HO_0.out
        subst eo16
        have p428 : 0 ≤ ((ji5) : Int) := of_decide_eq_true (by first | (with_reducible assumption) | assumption)
        have q428 : (ji5) < (x0_1.length : Int) := of_decide_eq_true (by first | (with_reducible assumption) | assumption)
        obtain ⟨ad428, e428, hx428_0⟩ := Kd.at_int (Kd.V_reads' HO_0.out).2.2 (ji5) p428 q428
        cases e428
        replace p428 := eq_true p428
        replace q428 := eq_true q428
        have hcz17 := blkAll2 BK427.out
        go_wp2
        refine bodyPost_ret (results_cell_row rfl _ _ gb427 37 #[.slice (some ad428) x0_1.length co16, .bool false] (0, 0) _ rfl (by (with_reducible repeat (first | apply kb1 | apply kb2 | apply kb3 | apply blkPut2_1 | apply blkPut2_0)); exact BK427.out) Try.underlying37 rfl (by kernel_rfl)) rfl ?_
        exact ⟨_, by first | rfl | (simp [errW_none, errW_some] <;> rfl) | (simp only [← hji5]; first | rfl | (simp [errW_none, errW_some] <;> rfl)) | (simp [*, errW_none, errW_some] <;> rfl), by (with_reducible repeat (first | apply Kd.V_alloc | apply Kd.V_drewN | apply Kd.V_drew)); exact Kd.V_mono (Kd.V_far (p := ⟨gb427, 1, none⟩) (Kd.V_far (p := ⟨gb427, 0, none⟩) (Kd.V_mono HO_0.out (fun k_ hk => (⟨hk, hk.2⟩ : _ ∧ k_ ≠ gb427))) (fun _ hk => hk.2) (.slice (some ad428) x0_1.length co16)) (fun _ hk => hk.2) (.bool false)) (fun _ hk => hk.1.1), by repeat (first | (with_reducible first | exact HB.out | apply kc1 | apply kc2 | apply kc3 | refine kc4 ?_ GE427.out) | exact HB.out)⟩
     ·rw [if_neg c7] at H
      exact absurd H (by simp)
    ·rw [if_neg c6] at H
     exact absurd H (by simp)
   ·rw [if_neg c4] at H
    have c4b0 : decide (0 < (x0_1.length : Int)) = false := decide_eq_false c4
    have c4b1 : decide (0 < x0_1.length) = false := decide_eq_false (by omega)
    clear c4
    by_cases c18 : a1 = true
    ·subst c18
     have H1 : (some (x0_1, false)) = some (r1, r2) := by rw [if_pos rfl] at H; exact H
     clear H
     have H := H1
     clear H1
     simp only [Option.some.injEq, Prod.mk.injEq] at H
     obtain ⟨rfl, rfl⟩ := H
     obtain ⟨Ao19, co19, eo19⟩ := Kd.V_slice HO_0.out
     subst eo19
     have hcz20 := blkAll2 BK427.out
     go_wp2
     refine bodyPost_ret (results_cell_row rfl _ _ gb427 37 #[.slice Ao19 x0_1.length co19, .bool false] (0, 0) _ rfl (by (with_reducible repeat (first | apply kb1 | apply kb2 | apply kb3 | apply blkPut2_1 | apply blkPut2_0)); exact BK427.out) Try.underlying37 rfl (by kernel_rfl)) rfl ?_
     exact ⟨_, by first | rfl | (simp [errW_none, errW_some] <;> rfl) | (simp [*, errW_none, errW_some] <;> rfl), by (with_reducible repeat (first | apply Kd.V_alloc | apply Kd.V_drewN | apply Kd.V_drew)); exact Kd.V_mono (Kd.V_far (p := ⟨gb427, 1, none⟩) (Kd.V_far (p := ⟨gb427, 0, none⟩) (Kd.V_mono HO_0.out (fun k_ hk => (⟨hk, hk.2⟩ : _ ∧ k_ ≠ gb427))) (fun _ hk => hk.2) (.slice Ao19 x0_1.length co19)) (fun _ hk => hk.2) (.bool false)) (fun _ hk => hk.1.1), by repeat (first | (with_reducible first | exact HB.out | apply kc1 | apply kc2 | apply kc3 | refine kc4 ?_ GE427.out) | exact HB.out)⟩
    ·replace c18 := Bool.eq_false_iff.mpr c18
     subst c18
     have H1 : (some (x0_1, false)) = some (r1, r2) := by rw [if_neg (show ¬ (false = true) by decide)] at H; exact H
     clear H
     have H := H1
     clear H1
     simp only [Option.some.injEq, Prod.mk.injEq] at H
     obtain ⟨rfl, rfl⟩ := H
     obtain ⟨Ao21, co21, eo21⟩ := Kd.V_slice HO_0.out
     subst eo21
     have hcz22 := blkAll2 BK427.out
     go_wp2
     refine bodyPost_ret (results_cell_row rfl _ _ gb427 37 #[.slice Ao21 x0_1.length co21, .bool false] (0, 0) _ rfl (by (with_reducible repeat (first | apply kb1 | apply kb2 | apply kb3 | apply blkPut2_1 | apply blkPut2_0)); exact BK427.out) Try.underlying37 rfl (by kernel_rfl)) rfl ?_
     exact ⟨_, by first | rfl | (simp [errW_none, errW_some] <;> rfl) | (simp [*, errW_none, errW_some] <;> rfl), by (with_reducible repeat (first | apply Kd.V_alloc | apply Kd.V_drewN | apply Kd.V_drew)); exact Kd.V_mono (Kd.V_far (p := ⟨gb427, 1, none⟩) (Kd.V_far (p := ⟨gb427, 0, none⟩) (Kd.V_mono HO_0.out (fun k_ hk => (⟨hk, hk.2⟩ : _ ∧ k_ ≠ gb427))) (fun _ hk => hk.2) (.slice Ao21 x0_1.length co21)) (fun _ hk => hk.2) (.bool false)) (fun _ hk => hk.1.1), by repeat (first | (with_reducible first | exact HB.out | apply kc1 | apply kc2 | apply kc3 | refine kc4 ?_ GE427.out) | exact HB.out)⟩

/-! ### trivetref01_norm: function 31, its laws -/
theorem trivetref01_norm.tells (k : Nat) : ∀ (d : List Int) (m : Bool), U.Dg d → d.length < k → (d.length : Int) < 9223372036854775808 → trivetref01_norm.f k d m = some (U.dig (U.val d), m && !(U.dig (U.val d)).isEmpty) := by
 induction k with
 | zero => intro d m _ h _; omega
 | succ k ih =>
  intro d m hd h hl
  unfold trivetref01_norm.f
  simp only [trivetref01_norm.l0]
  rcases List.eq_nil_or_concat d with rfl | ⟨r, x, rfl⟩
  ·rw [if_neg (by simp)]
   simp only [U.val, U.dig_zero]
   cases m <;> simp
  ·rw [List.concat_eq_append] at *
   have hlen : (r ++ [x]).length = r.length + 1 := by simp
   have hw : wrap64 (((r ++ [x]).length : Int) - 1) = r.length := by rw [hlen, M.w64_id (by omega) (by omega)]; omega
   rw [if_pos (by omega), hw, if_pos (by omega), if_pos (by omega)]
   have hr : rd (r ++ [x]) (r.length : Int) = x := by simp [rd]
   rw [hr]
   by_cases hx : x = 0
   ·subst hx
    rw [if_pos rfl, if_pos (by omega)]
    have ht : (r ++ [(0 : Int)]).take ((r.length : Int)).toNat = r := by simp
    rw [ht, U.val_append, U.val_one, Int.mul_zero, Int.add_zero]
    exact ih r m hd.left (by omega) (by omega)
   ·rw [if_neg hx, U.dig_val_top hd hx]
    cases m <;> simp
theorem trivetref01_norm.num (k : Nat) (d : List Int) (m : Bool) (z : Int) (hd : U.Dg d) (h : d.length < k) (hl : (d.length : Int) < 9223372036854775808) (hz : z = if m = true then -U.val d else U.val d) : trivetref01_norm.f k d m = some (U.num z) := by
 rw [trivetref01_norm.tells k d m hd h hl, U.num_of (U.val_nonneg hd) hz]

/-! ### trivetref01_Of: function 18 -/
mutual
def trivetref01_Of.j0 : Nat → Int → Int → Option (List Int × Bool)
 | 0, _, _ => none
 | k + 1, x0, x3 => trivetref01_Of.l0 k x0 x3 ([] : List Int) 0
def trivetref01_Of.l0 : Nat → Int → Int → List Int → Int → Option (List Int × Bool)
 | 0, _, _, _, _ => none
 | k + 1, x0, x3, x4, x5 => if x5 < 4 then (if x4.length < 17592186044416 then (trivetref01_Of.l0 k x0 (IntKind.u64.wrap (Int.tdiv x3 65536)) (x4 ++ [Int.tmod x3 65536]) (wrap64 (x5 + 1))) else (none)) else ((trivetref01_norm.f k x4 (decide (x0 < 0))).bind fun bt438 => (some (bt438.1, bt438.2)))
end
def trivetref01_Of.f (k : Nat) (a0 : Int) : Option (List Int × Bool) := if a0 < 0 then (trivetref01_Of.j0 k a0 (IntKind.u64.wrap ((Go.bits .xor .u64 18446744073709551615 (IntKind.u64.wrap (a0))) + 1))) else (trivetref01_Of.j0 k a0 (IntKind.u64.wrap (a0)))
theorem trivetref01_Of.mono_l : ∀ k, (∀ y0 y1, LeO (trivetref01_Of.j0 k y0 y1) (trivetref01_Of.j0 (k + 1) y0 y1)) ∧ (∀ y0 y1 y2 y3, LeO (trivetref01_Of.l0 k y0 y1 y2 y3) (trivetref01_Of.l0 (k + 1) y0 y1 y2 y3))
 | 0 => ⟨fun _ _ r h => by simp [trivetref01_Of.j0] at h, fun _ _ _ _ r h => by simp [trivetref01_Of.l0] at h⟩
 | k + 1 => by
  obtain ⟨ih0, ih1⟩ := trivetref01_Of.mono_l k
  refine ⟨?_, ?_⟩
  ·intro y0 y1
   unfold trivetref01_Of.j0
   repeat' first
   | (with_reducible exact ih0 _ _)
   | (with_reducible exact ih1 _ _ _ _)
   | (with_reducible exact trivetref01_norm.mono _ _ _)
   | (with_reducible exact LeO.refl _)
   | (with_reducible exact LeO.none _)
   | (with_reducible refine LeO.ite ?_ ?_)
   | (with_reducible refine LeO.bind ?_ (fun _ => ?_))
   | exact ih0 _ _
   | exact ih1 _ _ _ _
   | exact trivetref01_norm.mono _ _ _
   | exact LeO.none _
   | refine LeO.ite ?_ ?_
   | refine LeO.bind ?_ (fun _ => ?_)
  ·intro y0 y1 y2 y3
   unfold trivetref01_Of.l0
   repeat' first
   | (with_reducible exact ih0 _ _)
   | (with_reducible exact ih1 _ _ _ _)
   | (with_reducible exact trivetref01_norm.mono _ _ _)
   | (with_reducible exact LeO.refl _)
   | (with_reducible exact LeO.none _)
   | (with_reducible refine LeO.ite ?_ ?_)
   | (with_reducible refine LeO.bind ?_ (fun _ => ?_))
   | exact ih0 _ _
   | exact ih1 _ _ _ _
   | exact trivetref01_norm.mono _ _ _
   | exact LeO.none _
   | refine LeO.ite ?_ ?_
   | refine LeO.bind ?_ (fun _ => ?_)
theorem trivetref01_Of.mono : ∀ a0 k, LeO (trivetref01_Of.f k a0) (trivetref01_Of.f (k + 1) a0) := by
 intro a0 k
 obtain ⟨ih0, ih1⟩ := trivetref01_Of.mono_l k
 unfold trivetref01_Of.f
 repeat' first
   | (with_reducible exact ih0 _ _)
   | (with_reducible exact ih1 _ _ _ _)
   | (with_reducible exact trivetref01_norm.mono _ _ _)
   | (with_reducible exact LeO.refl _)
   | (with_reducible exact LeO.none _)
   | (with_reducible refine LeO.ite ?_ ?_)
   | (with_reducible refine LeO.bind ?_ (fun _ => ?_))
   | exact ih0 _ _
   | exact ih1 _ _ _ _
   | exact trivetref01_norm.mono _ _ _
   | exact LeO.none _
   | refine LeO.ite ?_ ?_
   | refine LeO.bind ?_ (fun _ => ?_)
set_option maxHeartbeats 8000000 in
set_option maxRecDepth 100000 in
theorem trivetref01_Of.calls (k : Nat) (a0 : Int) (r1 : List Int) (r2 : Bool) (w : World) (h : trivetref01_Of.f k a0 = some (r1, r2)) :
  Calls Try.prog 18 #[.int .i64 a0] w fun e w' => ∃ v0_ : Value, e = .returned (.agg #[v0_, .bool r2]) ∧ Kd.V (Kd.int .u64) 46 w' w.heap.size (fun k_ => (w.heap.size ≤ k_)) v0_ r1 ∧ Below w.heap.size w w' := by
 have hu37 := Try.underlying37
 have HB := ka (Below.refl w.heap.size w)
 have H : (if a0 < 0 then (trivetref01_Of.j0 k a0 (IntKind.u64.wrap ((Go.bits .xor .u64 18446744073709551615 (IntKind.u64.wrap (a0))) + 1))) else (trivetref01_Of.j0 k a0 (IntKind.u64.wrap (a0)))) = some (r1, r2) := h
 clear h
 have HC2 := ka H
 clear H
 go_enter Try.func18, Try.ntmps18
 go_upto_if 9 with (first | ((with_reducible refine gate_dst (N := 2) rfl ?_); refine kx (N := 2) (cs := #[.slice none 0 0, .bool false]) (t := 37) ?_; intro gb434 hg w3 hbox hb; have n0_ := ka (below_step (kw HB.out) hb); have n1_ := ka (hbox); have n2_ := ka ((by rw [hg]; exact (below_size (kw HB.out)) : w.heap.size ≤ gb434)); have n3_ := n2_; clear HB; have HB := n0_; have BK434 := n1_; have GW434 := n2_; have GE434 := n3_; clear n0_ n1_ n2_ n3_; clear hb hbox hg))
 (try simp only [Act.put, List.setIfInBounds_toArray, List.set_cons_zero, List.set_cons_succ])
 go_cut [3] (fun v3 wc => ∃ (kq : Nat) (x3_1 : Int), v3 = .int .u64 x3_1 ∧ Aside0 (trivetref01_Of.j0 kq a0 x3_1 = some (r1, r2)) ∧ Aside0 (kq ≤ k) ∧ Aside0 (wc.heap[gb434]? = some (.cells #[(.slice none 0 0), .bool false] 37 (0, 0))) ∧ Aside0 (Below w.heap.size w wc))
 case first =>
  have H := HC2.out
  clear HC2
  by_cases c4 : a0 < 0
  ·rw [if_pos c4] at H
   have c4b0 : decide (a0 < 0) = true := decide_eq_true c4
   clear c4
   (first | rw [c4b0] | (simp only [i64_w, i32_w]; rw [c4b0]) | skip)
   have H' := ka H
   clear H
   go_wp2
   go_meet
   case rel => exact ⟨_, (IntKind.u64.wrap ((Go.bits .xor .u64 18446744073709551615 (IntKind.u64.wrap (a0))) + 1)), (by first | rfl | (simp; done) | (simp [*]; done)), H', ⟨by first | omega | exact Nat.le_refl _⟩, ⟨by (with_reducible repeat (first | apply kb1 | apply kb2 | apply kb3)); exact BK434.out⟩, ⟨by repeat (first | (with_reducible first | exact HB.out | apply kc1 | apply kc2 | apply kc3 | refine kc4 ?_ GE434.out) | exact HB.out)⟩⟩
  ·rw [if_neg c4] at H
   have c4b0 : decide (a0 < 0) = false := decide_eq_false c4
   clear c4
   (first | rw [c4b0] | (simp only [i64_w, i32_w]; rw [c4b0]) | skip)
   have H' := ka H
   clear H
   go_wp2
   go_meet
   case rel => exact ⟨_, (IntKind.u64.wrap (a0)), (by first | rfl | (simp; done) | (simp [*]; done)), H', ⟨by first | omega | exact Nat.le_refl _⟩, ⟨by (with_reducible repeat (first | apply kb1 | apply kb2 | apply kb3)); exact BK434.out⟩, ⟨by repeat (first | (with_reducible first | exact HB.out | apply kc1 | apply kc2 | apply kc3 | refine kc4 ?_ GE434.out) | exact HB.out)⟩⟩
 case rest =>
  clear HC2
  try clear c1
  try clear p2
  try clear c4
  try clear c4b0
  obtain ⟨kq, x3_1, rfl, HA, HJ1, BK434, HB⟩ := hcut
  cases kq with
  | zero => exact absurd HA.out (by simp [trivetref01_Of.j0])
  | succ kj1 =>
   have H := HA.out
   clear HA
   simp only [trivetref01_Of.j0] at H
   have H' := ka H
   clear H
   go_wp2
   (try simp only [Act.put, List.setIfInBounds_toArray, List.set_cons_zero, List.set_cons_succ])
   go_loopg [3, 4, 5] kj1 (fun kq v3 v4 v5 w' => ∃ (x3_2 : Int) (x4_2 : List Int) (x5_2 : Int), v3 = .int .u64 x3_2 ∧ v5 = .int .i64 x5_2 ∧ Aside0 (trivetref01_Of.l0 kq a0 x3_2 x4_2 x5_2 = some (r1, r2)) ∧ Aside0 (kq ≤ kj1) ∧ Aside0 (Kd.R (Kd.int .u64) 46 w' w.heap.size (fun k_ => (w.heap.size ≤ k_)) v4 x4_2) ∧ Aside0 (w'.heap[gb434]? = some (.cells #[(.slice none 0 0), .bool false] 37 (0, 0))) ∧ Aside0 (Below w.heap.size w w'))
   case atStart => exact ⟨(x3_1), (([] : List Int)), (0), (by first | rfl | (simp; done) | (simp [*]; done)), (by first | rfl | (simp; done) | (simp [*]; done)), H', ⟨Nat.le_refl _⟩, ⟨by first | exact Kd.R_nil _ _ _ _ _ | exact Kd.N_nil _ _ _ _ _ | exact Kd.V_nil _ _ _ _ _ | exact Kd.Q_nil _ _ _ _ _ | exact Kd.S_nil _ _ _ _ _⟩, ⟨by (with_reducible repeat (first | apply kb1 | apply kb2 | apply kb3)); exact BK434.out⟩, ⟨by repeat (first | (with_reducible first | exact HB.out | apply kc1 | apply kc2 | apply kc3 | refine kc4 ?_ GE434.out) | exact HB.out)⟩⟩
   case round =>
    clear H'
    try clear c1
    try clear p2
    try clear c4
    try clear c4b0
    try clear p2
    obtain ⟨x3_2, x4_2, x5_2, rfl, rfl, HA, HK2, HO_4, BK434, HB⟩ := hrel
    cases gk with
    | zero => exact absurd HA.out (by simp [trivetref01_Of.l0])
    | succ k2 =>
     have H := HA.out
     clear HA
     simp only [trivetref01_Of.l0] at H
     by_cases c5 : x5_2 < 4
     ·rw [if_pos c5] at H
      have c5b0 : decide (x5_2 < 4) = true := decide_eq_true c5
      clear c5
      by_cases c6 : x4_2.length < 17592186044416
      ·rw [if_pos c6] at H
       have LMc6 := ka c6
       clear c6
       obtain ⟨y435, hy435⟩ : ∃ y_ : List Int, y_ = (x4_2 ++ [Int.tmod x3_2 65536]) := ⟨_, rfl⟩
       replace H : (trivetref01_Of.l0 k2 a0 (IntKind.u64.wrap (Int.tdiv x3_2 65536)) y435 (wrap64 (x5_2 + 1))) = some (r1, r2) := by first | (rw [hy435]; with_reducible exact H) | (have H2_ := (Option.bind_some _ _).symm.trans H; rw [hy435]; with_reducible exact H2_) | (have H2_ := (Option.bind_some _ _).symm.trans H; with_reducible exact H2_) | with_reducible exact H | (rw [hy435]; exact H) | exact H
       have Ny435 := ka hy435
       clear hy435
       have H' := ka H
       clear H
       go_wp2_with (first | ((with_reducible refine gate_builtin (b := .append) (xs := #[.tmp 17, .tmp 20]) rfl ?_); at_builtin; refine Kd.R_append (Kd.int .u64) (w0 := w) w.heap.size rfl (.tmp 17) (.tmp 20) 35 46 (.int .u64 0) 8 rfl Try.underlying35 info46 rfl (by decide) (by omega) u4 x4_2 (Int.tmod x3_2 65536) [.int .u64 (Int.tmod x3_2 65536)] (fun k_ => (w.heap.size ≤ k_)) (fun _ => False) rfl rfl ?aP (fun _ hk => hk.elim) ?aF ?aO ?aB ?aS ?aL ?_; (case aP => exact rfl); (case aB => exact (kw HB.out)); (case aF => exact (fun k_ hk => (Nat.le_trans (below_size (kw HB.out)) hk))); (case aO => exact (kr HO_4.out)); (case aS => exact (below_size (kw HB.out))); (case aL => have := LMc6.out; omega); intro v436 w7 ho hb hg hat; rw [← Ny435.out] at ho; replace BK434 := ka (blk_grown (g := gb434) (kz BK434.out) hg (Kd.R_ne HO_4.out BK434.out (by decide))); replace HB := ka (hb); have HO437 := ka (ho); clear HO_4; clear ho hb hg hat))
       go_roundg k2
       case measure => have := HJ1.out; have := HK2.out; omega
       case rel => exact ⟨(IntKind.u64.wrap (Int.tdiv x3_2 65536)), (y435), (wrap64 (x5_2 + 1)), (by first | rfl | (simp; done) | (simp [*]; done)), (by first | rfl | (simp; done) | (simp [*]; done)), H', ⟨by have := HJ1.out; have := HK2.out; omega⟩, ⟨kr HO437.out⟩, ⟨by (with_reducible repeat (first | apply kb1 | apply kb2 | apply kb3)); exact BK434.out⟩, ⟨by repeat (first | (with_reducible first | exact HB.out | apply kc1 | apply kc2 | apply kc3 | refine kc4 ?_ GE434.out) | exact HB.out)⟩⟩
      ·rw [if_neg c6] at H
       exact absurd H (by simp)
     ·rw [if_neg c5] at H
      have c5b0 : decide (x5_2 < 4) = false := decide_eq_false c5
      clear c5
      replace H := Option.bind_eq_some_iff.mp H
      obtain ⟨⟨t438, t441⟩, A80, H⟩ := H
      replace H : (some (t438, t441)) = some (r1, r2) := H
      have A8 := ka A80
      clear A80
      simp only [Option.some.injEq, Prod.mk.injEq] at H
      obtain ⟨rfl, rfl⟩ := H
      obtain ⟨Ao9, co9, eo9⟩ := Kd.R_slice HO_4.out
      subst eo9
      go_wp2_with (first | ((with_reducible refine gate_callee (f := 31) rfl ?_); refine kg (some 27) rfl rfl Try.func31 (by kernel_rfl) rfl #[.slice Ao9 x4_2.length co9, .bool (decide (a0 < 0))] rfl ?_; (with_reducible refine (trivetref01_norm.calls k2 (fun k_ => some k_ = (.slice Ao9 x4_2.length co9 : Value).ownBlock) _ _ x4_2 (decide (a0 < 0)) t438 t441 _ ?side1 A8.out).mono ?_); (case side1 => exact Kd.R_V (Kd.R_tight rfl (Kd.R_types (HO_4.out) BK434.out (by decide)))); rintro e w10 ⟨v439, rfl, ho0, hb⟩; refine ⟨_, rfl, ?_⟩; have HO440 := ka (Kd.V_lower (Kd.V_mono (ok' := fun k_ => (w.heap.size ≤ k_) ∧ k_ ≠ gb434) ho0 (fun k_ hk_ => ⟨Or.elim hk_ (fun hs_ => ((Kd.R_types (HO_4.out) BK434.out (by decide)).1 k_ hs_.symm).1) (fun hn_ => (Nat.le_trans (below_size (kw HB.out)) hn_)), Or.elim hk_ (fun hs_ => ((Kd.R_types (HO_4.out) BK434.out (by decide)).1 k_ hs_.symm).2) (fun hn_ => (kf BK434 hn_))⟩)) (below_size (kw HB.out))); replace HO_4 := ka (Kd.R_below (kr HO_4.out) hb); replace BK434 := kbb BK434 hb; replace HB := ka (below_step (kw HB.out) hb); (try clear hb); (try clear hb2); (try clear hk); (try clear hi); (try clear ho0); obtain ⟨Ao11, co11, eo11⟩ := Kd.V_slice HO440.out; subst eo11; have hcz12 := blkAll2 BK434.out))
      refine bodyPost_ret (results_cell_row rfl _ _ gb434 37 #[.slice Ao11 t438.length co11, .bool t441] (0, 0) _ rfl (by (with_reducible repeat (first | apply kb1 | apply kb2 | apply kb3 | apply blkPut2_1 | apply blkPut2_0)); exact BK434.out) Try.underlying37 rfl (by kernel_rfl)) rfl ?_
      exact ⟨_, by first | rfl | (simp [errW_none, errW_some] <;> rfl) | (simp [*, errW_none, errW_some] <;> rfl), by (with_reducible repeat (first | apply Kd.V_alloc | apply Kd.V_drewN | apply Kd.V_drew)); exact Kd.V_mono (Kd.V_far (p := ⟨gb434, 1, none⟩) (Kd.V_far (p := ⟨gb434, 0, none⟩) (Kd.V_mono HO440.out (fun k_ hk => (⟨hk, hk.2⟩ : _ ∧ k_ ≠ gb434))) (fun _ hk => hk.2) (.slice Ao11 t438.length co11)) (fun _ hk => hk.2) (.bool t441)) (fun _ hk => hk.1.1), by repeat (first | (with_reducible first | exact HB.out | apply kc1 | apply kc2 | apply kc3 | refine kc4 ?_ GE434.out) | exact HB.out)⟩

/-! ### trivetref01_Of: function 18, its laws -/
theorem trivetref01_Of.sized (k : Nat) (a u : Int) (hu : 0 ≤ u ∧ u < 18446744073709551616) (ha : u = M.abs a) (hk : 12 ≤ k) : trivetref01_Of.j0 k a u = some (U.num a) := by
 obtain ⟨j, rfl⟩ : ∃ j, k = j + 6 + 6 := ⟨k - 12, by omega⟩
 have d0 := Int.emod_nonneg u (show (65536 : Int) ≠ 0 by decide)
 simp only [trivetref01_Of.j0, trivetref01_Of.l0]
 rw [M.tdivu (show 0 ≤ u by omega), M.tmodu (show 0 ≤ u by omega), M.wrapu_id (n := u / 65536) (by omega) (by omega)]
 rw [M.tdivu (show 0 ≤ u / 65536 by omega), M.tmodu (show 0 ≤ u / 65536 by omega), M.wrapu_id (n := u / 65536 / 65536) (by omega) (by omega)]
 rw [M.tdivu (show 0 ≤ u / 65536 / 65536 by omega), M.tmodu (show 0 ≤ u / 65536 / 65536 by omega), M.wrapu_id (n := u / 65536 / 65536 / 65536) (by omega) (by omega)]
 rw [M.tmodu (show 0 ≤ u / 65536 / 65536 / 65536 by omega)]
 have w1 : wrap64 (0 + 1) = 1 := by unfold wrap64; decide
 have w2 : wrap64 (1 + 1) = 2 := by unfold wrap64; decide
 have w3 : wrap64 (2 + 1) = 3 := by unfold wrap64; decide
 have w4 : wrap64 (3 + 1) = 4 := by unfold wrap64; decide
 simp only [w1, w2, w3, w4]
 rw [if_pos (by decide), if_pos (by simp), if_pos (by decide), if_pos (by simp), if_pos (by decide), if_pos (by simp), if_pos (by decide), if_pos (by simp), if_neg (by decide)]
 rw [trivetref01_norm.num _ _ _ a]
 ·rfl
 ·intro x hx
  simp at hx
  rcases hx with rfl | rfl | rfl | rfl <;> omega
 ·simp
 ·simp
 ·simp only [List.nil_append, List.cons_append, U.val]
  unfold M.abs at ha
  by_cases h : a < 0
  ·rw [if_pos h] at ha; rw [if_pos (decide_eq_true h)]; omega
  ·rw [if_neg h] at ha; rw [if_neg (by simpa using h)]; omega
theorem trivetref01_Of.num (k : Nat) (a : Int) (ha : M.In a) (hk : 12 ≤ k) : trivetref01_Of.f k a = some (U.num a) := by
 unfold M.In at ha
 unfold trivetref01_Of.f
 by_cases h : a < 0
 ·rw [if_pos h]
  have e : IntKind.u64.wrap (Go.bits .xor .u64 18446744073709551615 (IntKind.u64.wrap a) + 1) = -a := by
   have e1 : IntKind.u64.wrap a = a + 18446744073709551616 := by rw [M.wrapu]; omega
   rw [e1, M.xor_all _ (by omega) (by omega), M.wrapu]; omega
  rw [e]
  exact trivetref01_Of.sized k a (-a) (by omega) (by unfold M.abs; rw [if_pos h]) hk
 ·rw [if_neg h, M.wrapu_id (by omega) (by omega)]
  exact trivetref01_Of.sized k a a (by omega) (by unfold M.abs; rw [if_neg h]) hk

/-! ### trivetref01_at: function 39 -/
def trivetref01_at.f (l0 : List Int) (a1 : Int) : Option (Int) := if a1 < (l0.length : Int) then (if 0 ≤ a1 then (some (rd l0 a1)) else (none)) else (some 0)
set_option maxHeartbeats 8000000 in
set_option maxRecDepth 100000 in
theorem trivetref01_at.calls (A0 : Option Addr) (c0 : Nat) (l0 : List Int) (a1 : Int) (r : Int) (w : World) (hr0 : Kd.C (Kd.int .u64) w A0 l0.length l0) (hc0 : l0.length ≤ c0) (h : trivetref01_at.f l0 a1 = some r) :
  Calls Try.prog 39 #[.slice A0 l0.length c0, .int .i64 a1] w fun e w' => e = .returned (.int .u64 r) ∧ Drawn0 w w' := by
 have HR0 := ka hr0
 have HC0 := ka hc0
 clear hr0 hc0
 have H : (if a1 < (l0.length : Int) then (if 0 ≤ a1 then (some (rd l0 a1)) else (none)) else (some 0)) = some r := h
 clear h
 by_cases c3 : a1 < (l0.length : Int)
 ·rw [if_pos c3] at H
  have c3b0 : decide (a1 < (l0.length : Int)) = true := decide_eq_true c3
  clear c3
  by_cases c4 : 0 ≤ a1
  ·rw [if_pos c4] at H
   have c4b0 : decide (0 ≤ a1) = true := decide_eq_true c4
   clear c4
   obtain rfl := Option.some.inj H
   have p442 : 0 ≤ (a1 : Int) := of_decide_eq_true (by first | (with_reducible assumption) | assumption)
   have q442 : a1 < (l0.length : Int) := of_decide_eq_true (by first | (with_reducible assumption) | assumption)
   obtain ⟨ad442, e442, hx442_0⟩ := Kd.at_int HR0.out a1 p442 q442
   cases e442
   replace p442 := eq_true p442
   replace q442 := eq_true q442
   go_enter Try.func39, Try.ntmps39
   go_wp2
   go_ret
   exact ⟨by first | rfl | (simp; done) | (simp [*]; done), by repeat (first | exact Drawn0.refl _ | apply Drawn0.step)⟩
  ·rw [if_neg c4] at H
   exact absurd H (by simp)
 ·rw [if_neg c3] at H
  have c3b0 : decide (a1 < (l0.length : Int)) = false := decide_eq_false c3
  clear c3
  obtain rfl := Option.some.inj H
  go_enter Try.func39, Try.ntmps39
  go_wp2
  go_ret
  exact ⟨by first | rfl | (simp; done) | (simp [*]; done), by repeat (first | exact Drawn0.refl _ | apply Drawn0.step)⟩

/-! ### trivetref01_at: function 39, its laws -/
theorem trivetref01_at.num (d : List Int) (i : Nat) : trivetref01_at.f d i = some (d.getD i 0) := by
 unfold trivetref01_at.f
 by_cases h : (i : Int) < d.length
 ·rw [if_pos h, if_pos (by omega)]
  simp [rd]
 ·rw [if_neg h, List.getD_eq_getElem?_getD, List.getElem?_eq_none (by omega)]; rfl

end Go.Proofs.Ytdddiahgkpfikaa.P
