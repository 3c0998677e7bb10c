-- Written by a program of this session out of the translation of the seat: Lean functions and the proofs that the Go functions come to them.
import Derived.Test.YtfkokgnfciifgaaPx0
import Derived.Test.YtfkokgnfciifgaaPx1
import Derived.Test.YtfkokgnfciifgaaPx2
namespace Go.Proofs.Ytfkokgnfciifgaa.P
open Go.RowKit Go.Proofs.YtfkokgnfciifgaaW.PrintWords Go.Proofs.YtfkokgnfciifgaaW.PrintLast Go.Proofs.YtfkokgnfciifgaaW.PrintMore
attribute [local go_sem] max2_int min2_int max_two min_two max_three min_three max_four min_four   -- for this text's walks alone
set_option linter.unusedVariables false
set_option linter.unusedSimpArgs false

/-! ### cents_MulDiv_s: function 20, told plainly -/
theorem cents_MulDiv.size_tells (a : Int) (h : M.In a) : cents_size.f a = some (M.abs a, decide (a < 0)) := by
  unfold cents_size.f M.abs M.In at *
  by_cases h0 : a < 0
  · rw [if_pos h0, if_pos h0, decide_eq_true h0]
    congr 2
    simp only [M.wrapu]
    omega
  · rw [if_neg h0, if_neg h0, decide_eq_false h0]
    congr 2
    simp only [M.wrapu]
    omega
theorem cents_MulDiv.further_tells (q r c : Int) (minus : Bool) (mode : Int) (hm : 1 ≤ mode ∧ mode ≤ 4) (h0 : 0 ≤ q) (h1 : q < 18446744073709551616) (hr : 0 < r) (hrc : r < c) (hc : c < 18446744073709551616) :
    cents_further.f q r c minus mode = some (decide ((if minus = true then mode = 1 else mode = 2) ∨ mode = 3 ∧ 2 * r ≥ c ∨ mode = 4 ∧ (2 * r > c ∨ 2 * r = c ∧ q % 2 = 1))) := by
  unfold cents_further.f
  have hw : IntKind.u64.wrap (c - r) = c - r := M.wrapu_id (by omega) (by omega)
  rw [hw, M.and_one q h0 h1]
  have hm' : mode = 1 ∨ mode = 2 ∨ mode = 3 ∨ mode = 4 := by omega
  rcases hm' with rfl | rfl | rfl | rfl
  · cases minus <;> simp <;> omega
  · cases minus <;> simp <;> omega
  · by_cases g : r > c - r
    · have g2 : c ≤ 2 * r := by omega
      cases minus <;> simp [g, g2]
    · by_cases g' : r = c - r
      · have g2 : c ≤ 2 * r := by omega
        cases minus <;> simp [g, g2] <;> omega
      · have g2 : ¬ c ≤ 2 * r := by omega
        cases minus <;> simp [g, g', g2]
  · have h2 : 2 * r > c ↔ r > c - r := by omega
    have h3 : 2 * r = c ↔ r = c - r := by omega
    simp only [h2, h3]
    by_cases g : r > c - r
    · cases minus <;> simp [g]
    · by_cases g' : r = c - r
      · have e : ∀ z : Int, (z == 1) = decide (z = 1) := fun z => by by_cases h : z = 1 <;> simp [h]
        cases minus <;> simp [g, ← g', e]
      · cases minus <;> simp [g, g']
theorem cents_MulDiv.last (N c mode : Int) (minus : Bool) (hN : 0 ≤ N) (hc : 0 < c) (hc2 : c ≤ 9223372036854775808) (hm : 1 ≤ mode ∧ mode ≤ 4) (hq : N / c < 18446744073709551616) (n : Int) (hn : n = if minus = true then -N else N) (k : Nat) :
    (if N % c > 0 then (cents_further.f (N / c) (N % c) c minus mode).bind fun t => cents_MulDiv.j1 (k + 1) minus (N / c) t else cents_MulDiv.j1 (k + 1) minus (N / c) false) = some (M.told (M.quo n c mode)) := by
  have r0 := Int.emod_nonneg N (show c ≠ 0 by omega)
  have r1 := Int.emod_lt_of_pos N hc
  have hq0 : 0 ≤ N / c := Int.ediv_nonneg hN (by omega)
  have hs := M.quo_sized hN hc hm
  have key : ∀ (t : Bool) (v : Int), (v = if minus = true then -(N / c + (if t = true then 1 else 0)) else N / c + (if t = true then 1 else 0)) →
      cents_MulDiv.j1 (k + 1) minus (N / c) t = some (M.told v) := by
    intro t v hv
    simp only [cents_MulDiv.j1]
    generalize N / c = q at *
    unfold cents_signed.f
    cases t with
    | true =>
      simp only [if_true] at hv ⊢
      by_cases hz : IntKind.u64.wrap (q + 1) = 0
      · rw [if_pos hz, M.told_out]
        intro hin
        unfold M.In at hin
        rw [M.wrapu] at hz
        cases minus <;> simp at hv <;> omega
      · rw [if_neg hz]
        have hw : IntKind.u64.wrap (q + 1) = q + 1 := by rw [M.wrapu] at hz ⊢; omega
        rw [hw]
        cases minus with
        | true =>
          simp only [if_true] at hv ⊢
          rw [Option.bind_some]
          by_cases hle : q + 1 ≤ 9223372036854775808
          · rw [if_pos (decide_eq_true hle), M.told_in (show M.In v from ⟨by omega, by omega⟩)]
            refine congrArg some (Prod.ext ?_ rfl)
            simp only [M.wrapu]; unfold wrap64; omega
          · rw [if_neg (by simpa using hle), M.told_out (fun hin => by unfold M.In at hin; omega)]
        | false =>
          simp only [Bool.false_eq_true, if_false] at hv ⊢
          rw [Option.bind_some]
          by_cases hle : q + 1 < 9223372036854775808
          · rw [if_pos (decide_eq_true hle), M.told_in (show M.In v from ⟨by omega, by omega⟩)]
            refine congrArg some (Prod.ext ?_ rfl)
            simp only []; unfold wrap64; omega
          · rw [if_neg (by simpa using hle), M.told_out (fun hin => by unfold M.In at hin; omega)]
    | false =>
      simp only [Bool.false_eq_true, if_false] at hv ⊢
      cases minus with
      | true =>
        simp only [if_true] at hv ⊢
        rw [Option.bind_some]
        by_cases hle : q ≤ 9223372036854775808
        · rw [if_pos (decide_eq_true hle), M.told_in (show M.In v from ⟨by omega, by omega⟩)]
          refine congrArg some (Prod.ext ?_ rfl)
          simp only [M.wrapu]; unfold wrap64; omega
        · rw [if_neg (by simpa using hle), M.told_out (fun hin => by unfold M.In at hin; omega)]
      | false =>
        simp only [Bool.false_eq_true, if_false] at hv ⊢
        rw [Option.bind_some]
        by_cases hle : q < 9223372036854775808
        · rw [if_pos (decide_eq_true hle), M.told_in (show M.In v from ⟨by omega, by omega⟩)]
          refine congrArg some (Prod.ext ?_ rfl)
          simp only []; unfold wrap64; omega
        · rw [if_neg (by simpa using hle), M.told_out (fun hin => by unfold M.In at hin; omega)]
  by_cases hr : N % c > 0
  · rw [if_pos hr, cents_MulDiv.further_tells _ _ _ _ _ hm hq0 hq hr r1 (by omega), Option.bind_some]
    apply key
    subst hn
    cases minus with
    | true =>
      simp only [if_true]
      rw [hs.2]
      congr 2
      simp only [hr, true_and, decide_eq_true_eq]
    | false =>
      simp only [Bool.false_eq_true, if_false]
      rw [hs.1]
      congr 2
      simp only [hr, true_and, decide_eq_true_eq]
  · rw [if_neg hr]
    apply key
    subst hn
    cases minus with
    | true => simp only [if_true]; rw [hs.2]; simp [hr]
    | false => simp only [Bool.false_eq_true, if_false]; rw [hs.1]; simp [hr]
theorem cents_MulDiv.quo_over {N c mode : Int} (hN : 0 ≤ N) (hc : 0 < c) (hm : 1 ≤ mode ∧ mode ≤ 4) (hq : 18446744073709551616 ≤ N / c) : ¬ M.In (M.quo N c mode) ∧ ¬ M.In (M.quo (-N) c mode) := by
  have hs := M.quo_sized hN hc hm
  rw [hs.1, hs.2]
  unfold M.In
  constructor <;> split <;> omega
theorem cents_MulDiv.quo_neg (n c mode : Int) (hc : c < 0) : M.quo n c mode = M.quo (-n) (-c) mode := by
  unfold M.quo
  simp only [if_pos hc, if_neg (show ¬ -c < 0 by omega)]
theorem cents_MulDiv.abs_mul (a b : Int) : a * b = if (decide (a < 0) == decide (b < 0)) = true then M.abs a * M.abs b else -(M.abs a * M.abs b) := by
  unfold M.abs
  by_cases ha : a < 0 <;> by_cases hb : b < 0 <;> simp [ha, hb, Int.neg_mul, Int.mul_neg]
theorem cents_MulDiv.tells (a b c mode : Int) (ha : M.In a) (hb : M.In b) (hc : M.In c) (k : Nat) (hk : 4 ≤ k) :
    cents_MulDiv.f k a b c mode = some (if c = 0 ∨ mode < 1 ∨ mode > 4 then (0, some 1) else M.told (M.quo (a * b) c mode)) := by
  obtain ⟨k, rfl⟩ : ∃ m, k = m + 2 := ⟨k - 2, by omega⟩
  unfold cents_MulDiv.f
  by_cases hc0 : c = 0
  · rw [if_pos hc0, if_pos (.inl hc0)]
    simp [cents_MulDiv.j0]
  rw [if_neg hc0]
  by_cases hm1 : mode < 1
  · rw [if_pos hm1, if_pos (.inr (.inl hm1))]
    simp [cents_MulDiv.j0]
  rw [if_neg hm1]
  by_cases hm4 : mode > 4
  · rw [decide_eq_true hm4, if_pos (.inr (.inr hm4))]
    simp [cents_MulDiv.j0]
  rw [decide_eq_false hm4, if_neg (by omega)]
  have hm : 1 ≤ mode ∧ mode ≤ 4 := by omega
  simp only [cents_MulDiv.j0]
  rw [if_neg (by decide), cents_MulDiv.size_tells a ha, cents_MulDiv.size_tells b hb, cents_MulDiv.size_tells c hc]
  simp only [Option.bind_some]
  have ba : 0 ≤ M.abs a ∧ M.abs a ≤ 9223372036854775808 := by unfold M.abs M.In at *; split <;> omega
  have bb : 0 ≤ M.abs b ∧ M.abs b ≤ 9223372036854775808 := by unfold M.abs M.In at *; split <;> omega
  have bc : 0 < M.abs c ∧ M.abs c ≤ 9223372036854775808 := by unfold M.abs M.In at *; split <;> omega
  have hN : 0 ≤ M.abs a * M.abs b := Int.mul_nonneg ba.1 bb.1
  unfold bits_Mul64_s.f
  rw [if_pos ⟨ba.1, by omega, bb.1, by omega⟩]
  simp only [Option.bind_some]
  have hcq : M.quo (a * b) c mode = M.quo (if (!((!(decide (a < 0) == decide (b < 0))) == decide (c < 0))) = true then -(M.abs a * M.abs b) else M.abs a * M.abs b) (M.abs c) mode := by
    rw [cents_MulDiv.abs_mul a b]
    by_cases h : c < 0
    · rw [cents_MulDiv.quo_neg _ _ _ h]
      have : M.abs c = -c := by unfold M.abs; rw [if_pos h]
      rw [this, decide_eq_true h]
      cases hd : (decide (a < 0) == decide (b < 0)) <;> simp
    · have : M.abs c = c := by unfold M.abs; rw [if_neg h]
      rw [this, decide_eq_false h]
      cases hd : (decide (a < 0) == decide (b < 0)) <;> simp
  rw [hcq]
  generalize (!((!(decide (a < 0) == decide (b < 0))) == decide (c < 0))) = minus at *
  generalize M.abs a * M.abs b = N at *
  generalize M.abs c = z at *
  by_cases hov : N / 18446744073709551616 ≥ z
  · rw [if_pos hov, M.told_out]
    have hq : 18446744073709551616 ≤ N / z := by
      apply M.le_div bc.1
      rw [Int.mul_comm]
      omega
    have := cents_MulDiv.quo_over hN bc.1 hm hq
    cases minus
    · exact this.1
    · exact this.2
  · rw [if_neg hov]
    unfold bits_Div64_s.f
    rw [if_pos ⟨by omega, by omega, by omega, by omega, by omega⟩]
    simp only [Option.bind_some]
    have e : N / 18446744073709551616 * 18446744073709551616 + N % 18446744073709551616 = N := by omega
    rw [e]
    refine cents_MulDiv.last N z mode minus hN bc.1 bc.2 hm ?_ _ rfl k
    apply M.div_lt bc.1
    rw [Int.mul_comm]
    omega
def cents_MulDiv_s.f (a b c mode : Int) : Option (Int × Option Int) :=
  if M.In a ∧ M.In b ∧ M.In c then some (if c = 0 ∨ mode < 1 ∨ mode > 4 then (0, some 1) else M.told (M.quo (a * b) c mode)) else none
theorem cents_MulDiv_s.calls (a0 : Int) (a1 : Int) (a2 : Int) (a3 : Int) (r1 : Int) (r2 : Option Int) (w : World) (h : cents_MulDiv_s.f a0 a1 a2 a3 = some (r1, r2)) :
    Calls Try.prog 20 #[.int .i64 a0, .int .i64 a1, .int .i64 a2, .int .i64 a3] w fun e w' => e = .returned (.tuple #[.int .i64 r1, errW r2]) ∧ Drawn0 w w' := by
  unfold cents_MulDiv_s.f at h
  split at h
  · rename_i hr
    exact cents_MulDiv.calls 4 a0 a1 a2 a3 r1 r2 w ((cents_MulDiv.tells a0 a1 a2 a3 hr.1 hr.2.1 hr.2.2 4 (Nat.le_refl _)).trans h)
  · cases h
theorem cents_MulDiv_s.at_ {a b c mode : Int} (ha : M.In a) (hb : M.In b) (hc : M.In c) : cents_MulDiv_s.f a b c mode = some (if c = 0 ∨ mode < 1 ∨ mode > 4 then (0, some 1) else M.told (M.quo (a * b) c mode)) := by unfold cents_MulDiv_s.f; rw [if_pos ⟨ha, hb, hc⟩]

/-! ### rate_Month: function 10 -/
def rate_Month.f (a0 : Int) (a1 : Int) : Option (Int × Option Int) := (rate_may.f a0 a1).bind fun t118 => (if t118 = true then ((cents_MulDiv_s.f a0 a1 12000000 4).bind fun bt119 => (some (bt119.1, bt119.2))) else (some (0, some 1)))
set_option maxHeartbeats 8000000 in
set_option maxRecDepth 100000 in
theorem rate_Month.calls (a0 : Int) (a1 : Int) (r1 : Int) (r2 : Option Int) (w : World) (h : rate_Month.f a0 a1 = some (r1, r2)) :
    Calls Try.prog 10 #[.int .i64 a0, .int .i64 a1] w fun e w' => e = .returned (.tuple #[.int .i64 r1, errW r2]) ∧ Drawn0 w w' := by
  have hu24 := Try.underlying24
  have hu30 := Try.underlying30
  have H : ((rate_may.f a0 a1).bind fun t118 => (if t118 = true then ((cents_MulDiv_s.f a0 a1 12000000 4).bind fun bt119 => (some (bt119.1, bt119.2))) else (some (0, some 1)))) = some (r1, r2) := h
  clear h
  replace H := Option.bind_eq_some_iff.mp H
  obtain ⟨t118, A30, H⟩ := H
  replace H : (if t118 = true then ((cents_MulDiv_s.f a0 a1 12000000 4).bind fun bt119 => (some (bt119.1, bt119.2))) else (some (0, some 1))) = some (r1, r2) := H
  have A3 := Aside0.mk A30
  clear A30
  by_cases c4 : t118 = true
  · subst c4
    have H1 : ((cents_MulDiv_s.f a0 a1 12000000 4).bind fun bt119 => (some (bt119.1, bt119.2))) = some (r1, r2) := by rw [if_pos rfl] at H; exact H
    clear H
    have H := H1
    clear H1
    replace H := Option.bind_eq_some_iff.mp H
    obtain ⟨⟨t119, t120⟩, A50, H⟩ := H
    replace H : (some (t119, t120)) = some (r1, r2) := H
    have A5 := Aside0.mk A50
    clear A50
    simp only [Option.some.injEq, Prod.mk.injEq] at H
    obtain ⟨rfl, rfl⟩ := H
    go_enter Try.func10, Try.ntmps10
    go_wp2_with (first | ((with_reducible refine gate_callee (f := 19) rfl ?_); refine goesL_ (some 8) rfl rfl Try.func19 (by kernel_rfl) rfl #[.int .i64 a0, .int .i64 a1] rfl (by (try simp only [List.map_toArray, List.map_cons, List.map_nil]); first | done | rfl | (simp only [List.length_drop, List.length_take]; rfl)) ?_; (with_reducible refine (rate_may.calls a0 a1 true _ A3.out).mono ?_); rintro e w' ⟨rfl, ⟨nd, rfl⟩⟩; refine ⟨_, rfl, ?_⟩) | ((with_reducible refine gate_callee (f := 20) rfl ?_); refine goesL_ (some 13) rfl rfl Try.func20 (by kernel_rfl) rfl #[.int .i64 a0, .int .i64 a1, .int .i64 12000000, .int .i64 4] rfl (by (try simp only [List.map_toArray, List.map_cons, List.map_nil]); first | done | rfl | (simp only [List.length_drop, List.length_take]; rfl)) ?_; (with_reducible refine (cents_MulDiv_s.calls a0 a1 12000000 4 t119 t120 _ A5.out).mono ?_); rintro e w' ⟨rfl, ⟨nd, rfl⟩⟩; refine ⟨_, rfl, ?_⟩; (try simp only [errW_none, errW_some])))
    go_ret2
    exact ⟨by first | rfl | (simp; done) | (simp [*]; done), by repeat (first | exact Drawn0.refl _ | apply Drawn0.step)⟩
  · replace c4 := Bool.eq_false_iff.mpr c4
    subst c4
    have H1 : (some (0, some 1)) = some (r1, r2) := by rw [if_neg (show ¬ (false = true) by decide)] at H; exact H
    clear H
    have H := H1
    clear H1
    simp only [Option.some.injEq, Prod.mk.injEq] at H
    obtain ⟨rfl, rfl⟩ := H
    go_enter Try.func10, Try.ntmps10
    go_wp2_with (first | ((with_reducible refine gate_callee (f := 19) rfl ?_); refine goesL_ (some 8) rfl rfl Try.func19 (by kernel_rfl) rfl #[.int .i64 a0, .int .i64 a1] rfl (by (try simp only [List.map_toArray, List.map_cons, List.map_nil]); first | done | rfl | (simp only [List.length_drop, List.length_take]; rfl)) ?_; (with_reducible refine (rate_may.calls a0 a1 false _ A3.out).mono ?_); rintro e w' ⟨rfl, ⟨nd, rfl⟩⟩; refine ⟨_, rfl, ?_⟩))
    go_ret2
    exact ⟨by first | rfl | (simp; done) | (simp [*]; done), by repeat (first | exact Drawn0.refl _ | apply Drawn0.step)⟩

/-! ### rate_Month_s: function 10, told plainly -/
theorem rate_Month.tells (b r : Int) : rate_Month.f b r = some (if M.may b r then (M.month b r, none) else (0, some 1)) := by
  have hm : rate_may.f b r = some (decide (M.may b r)) := by
    unfold rate_may.f M.may
    by_cases h1 : 0 ≤ b <;> by_cases h2 : b ≤ 10000000000000 <;> by_cases h3 : 0 ≤ r <;> simp [h1, h2, h3]
  unfold rate_Month.f
  rw [hm, Option.bind_some]
  by_cases h : M.may b r
  · have hp := M.prod_bd h
    have h0 := M.month_nonneg h
    have h1 := M.month_le h
    have hi : M.In (M.quo (b * r) 12000000 4) := by
      show M.In (M.month b r)
      unfold M.may at h
      unfold M.In
      omega
    have h' := h
    unfold M.may at h'
    rw [if_pos (decide_eq_true h), if_pos h, cents_MulDiv_s.at_ (by unfold M.In; omega) (by unfold M.In; omega) (by decide), Option.bind_some, if_neg (by decide), M.told_in hi]
    rfl
  · rw [if_neg (by simpa using h), if_neg h]
def rate_Month_s.f (b r : Int) : Option (Int × Option Int) := some (if M.may b r then (M.month b r, none) else (0, some 1))
theorem rate_Month_s.calls (a0 : Int) (a1 : Int) (r1 : Int) (r2 : Option Int) (w : World) (h : rate_Month_s.f a0 a1 = some (r1, r2)) :
    Calls Try.prog 10 #[.int .i64 a0, .int .i64 a1] w fun e w' => e = .returned (.tuple #[.int .i64 r1, errW r2]) ∧ Drawn0 w w' :=
  rate_Month.calls a0 a1 r1 r2 w ((rate_Month.tells a0 a1).trans h)
theorem rate_Month_s.yes {b r : Int} (h : M.may b r) : rate_Month_s.f b r = some (M.month b r, none) := by unfold rate_Month_s.f; rw [if_pos h]
theorem rate_Month_s.no {b r : Int} (h : ¬ M.may b r) : rate_Month_s.f b r = some (0, some 1) := by unfold rate_Month_s.f; rw [if_neg h]

/-! ### rate_Next: function 11 -/
def rate_Next.j0 : Nat → Int → Int → Int → Bool → Option (Int × Int × Option Int)
  | 0, _, _, _, _ => none
  | k + 1, x0, x1, x2, x19 => if x19 = true then (some (0, 0, some 1)) else ((rate_Month_s.f x0 x1).bind fun bt122 => (if bt122.2.isNone = true then (if (wrap64 ((wrap64 (x0 + bt122.1)) - (mn x2 (wrap64 (x0 + bt122.1))))) > 10000000000000 then (some (0, 0, some 3)) else (some (wrap64 ((wrap64 (x0 + bt122.1)) - (mn x2 (wrap64 (x0 + bt122.1)))), bt122.1, none))) else (some (0, 0, some (bt122.2.getD 0)))))
def rate_Next.f (k : Nat) (a0 : Int) (a1 : Int) (a2 : Int) : Option (Int × Int × Option Int) := (rate_may.f a0 a1).bind fun t121 => (if t121 = true then (rate_Next.j0 k a0 a1 a2 (decide (a2 < 0))) else (rate_Next.j0 k a0 a1 a2 true))
theorem rate_Next.mono_l : ∀ k, (∀ y0 y1 y2 y3, LeO (rate_Next.j0 k y0 y1 y2 y3) (rate_Next.j0 (k + 1) y0 y1 y2 y3))
  | 0 => fun _ _ _ _ r h => by simp [rate_Next.j0] at h
  | k + 1 => by
    have ih0 := rate_Next.mono_l k
    · intro y0 y1 y2 y3
      unfold rate_Next.j0
      repeat' first
      | (with_reducible exact ih0 _ _ _ _)
      | (with_reducible exact LeO.refl _)
      | (with_reducible exact LeO.none _)
      | (with_reducible refine LeO.ite ?_ ?_)
      | (with_reducible refine LeO.bind ?_ (fun _ => ?_))
      | exact ih0 _ _ _ _
      | exact LeO.none _
      | refine LeO.ite ?_ ?_
      | refine LeO.bind ?_ (fun _ => ?_)
theorem rate_Next.mono : ∀ a0 a1 a2 k, LeO (rate_Next.f k a0 a1 a2) (rate_Next.f (k + 1) a0 a1 a2) := by
  intro a0 a1 a2 k
  have ih0 := rate_Next.mono_l k
  unfold rate_Next.f
  repeat' first
      | (with_reducible exact ih0 _ _ _ _)
      | (with_reducible exact LeO.refl _)
      | (with_reducible exact LeO.none _)
      | (with_reducible refine LeO.ite ?_ ?_)
      | (with_reducible refine LeO.bind ?_ (fun _ => ?_))
      | exact ih0 _ _ _ _
      | exact LeO.none _
      | refine LeO.ite ?_ ?_
      | refine LeO.bind ?_ (fun _ => ?_)
set_option maxHeartbeats 8000000 in
set_option maxRecDepth 100000 in
theorem rate_Next.calls (k : Nat) (a0 : Int) (a1 : Int) (a2 : Int) (r1 : Int) (r2 : Int) (r3 : Option Int) (w : World) (h : rate_Next.f k a0 a1 a2 = some (r1, r2, r3)) :
    Calls Try.prog 11 #[.int .i64 a0, .int .i64 a1, .int .i64 a2] w fun e w' => e = .returned (.tuple #[.int .i64 r1, .int .i64 r2, errW r3]) ∧ Below w.heap.size w w' := by
  have hu24 := Try.underlying24
  have hu30 := Try.underlying30
  have HB := Aside0.mk (Below.refl w.heap.size w)
  have H : ((rate_may.f a0 a1).bind fun t121 => (if t121 = true then (rate_Next.j0 k a0 a1 a2 (decide (a2 < 0))) else (rate_Next.j0 k a0 a1 a2 true))) = some (r1, r2, r3) := h
  clear h
  have HC4 := Aside0.mk H
  clear H
  go_enter Try.func11, Try.ntmps11
  go_upto_region 1 with (fail)
  go_cut [19] (fun v19 wc => ∃ (kq : Nat) (x19_3 : Bool), v19 = .bool x19_3 ∧ Aside0 (rate_Next.j0 kq a0 a1 a2 x19_3 = some (r1, r2, r3)) ∧ Aside0 (kq ≤ k) ∧ Aside0 (Below w.heap.size w wc))
  case first =>
    have H := HC4.out
    clear HC4
    replace H := Option.bind_eq_some_iff.mp H
    obtain ⟨t121, A50, H⟩ := H
    replace H : (if t121 = true then (rate_Next.j0 k a0 a1 a2 (decide (a2 < 0))) else (rate_Next.j0 k a0 a1 a2 true)) = some (r1, r2, r3) := H
    have A5 := Aside0.mk A50
    clear A50
    by_cases c6 : t121 = true
    · subst c6
      have H1 : (rate_Next.j0 k a0 a1 a2 (decide (a2 < 0))) = some (r1, r2, r3) := by rw [if_pos rfl] at H; exact H
      clear H
      have H := H1
      clear H1
      have H' := Aside0.mk H
      clear H
      go_wp2_with (first | ((with_reducible refine gate_callee (f := 19) rfl ?_); refine goesL_ (some 14) rfl rfl Try.func19 (by kernel_rfl) rfl #[.int .i64 a0, .int .i64 a1] rfl (by (try simp only [List.map_toArray, List.map_cons, List.map_nil]); first | done | rfl | (simp only [List.length_drop, List.length_take]; rfl)) ?_; (with_reducible refine (rate_may.calls a0 a1 true _ A5.out).mono ?_); rintro e w' ⟨rfl, ⟨nd, rfl⟩⟩; refine ⟨_, rfl, ?_⟩))
      go_meet
      case rel => exact ⟨_, (decide (a2 < 0)), (by first | rfl | (simp; done) | (simp [*]; done)), H', ⟨by first | omega | exact Nat.le_refl _⟩, ⟨by repeat (first | (with_reducible first | exact HB.out | apply below_alloc | apply pw_below_drewN | apply below_drew1) | exact HB.out)⟩⟩
    · replace c6 := Bool.eq_false_iff.mpr c6
      subst c6
      have H1 : (rate_Next.j0 k a0 a1 a2 true) = some (r1, r2, r3) := by rw [if_neg (show ¬ (false = true) by decide)] at H; exact H
      clear H
      have H := H1
      clear H1
      have H' := Aside0.mk H
      clear H
      go_wp2_with (first | ((with_reducible refine gate_callee (f := 19) rfl ?_); refine goesL_ (some 14) rfl rfl Try.func19 (by kernel_rfl) rfl #[.int .i64 a0, .int .i64 a1] rfl (by (try simp only [List.map_toArray, List.map_cons, List.map_nil]); first | done | rfl | (simp only [List.length_drop, List.length_take]; rfl)) ?_; (with_reducible refine (rate_may.calls a0 a1 false _ A5.out).mono ?_); rintro e w' ⟨rfl, ⟨nd, rfl⟩⟩; refine ⟨_, rfl, ?_⟩))
      go_meet
      case rel => exact ⟨_, (true), (by first | rfl | (simp; done) | (simp [*]; done)), H', ⟨by first | omega | exact Nat.le_refl _⟩, ⟨by repeat (first | (with_reducible first | exact HB.out | apply below_alloc | apply pw_below_drewN | apply below_drew1) | exact HB.out)⟩⟩
  case rest =>
    clear HC4
    try clear c1
    try clear p2
    try clear c6
    obtain ⟨kq, x19_3, rfl, HA, HJ3, HB⟩ := hcut
    cases kq with
    | zero => exact absurd HA.out (by simp [rate_Next.j0])
    | succ kj3 =>
      have H := HA.out
      clear HA
      simp only [rate_Next.j0] at H
      by_cases c7 : x19_3 = true
      · subst c7
        have H1 : (some (0, 0, some 1)) = some (r1, r2, r3) := by rw [if_pos rfl] at H; exact H
        clear H
        have H := H1
        clear H1
        simp only [Option.some.injEq, Prod.mk.injEq] at H
        obtain ⟨rfl, rfl, rfl⟩ := H
        go_wp2
        go_ret3
        exact ⟨by first | rfl | (simp [errW_none, errW_some] <;> rfl) | (simp [*, errW_none, errW_some] <;> rfl), by repeat (first | (with_reducible first | exact HB.out | apply below_alloc | apply pw_below_drewN | apply below_drew1) | exact HB.out)⟩
      · replace c7 := Bool.eq_false_iff.mpr c7
        subst c7
        have H1 : ((rate_Month_s.f a0 a1).bind fun bt122 => (if bt122.2.isNone = true then (if (wrap64 ((wrap64 (a0 + bt122.1)) - (mn a2 (wrap64 (a0 + bt122.1))))) > 10000000000000 then (some (0, 0, some 3)) else (some (wrap64 ((wrap64 (a0 + bt122.1)) - (mn a2 (wrap64 (a0 + bt122.1)))), bt122.1, none))) else (some (0, 0, some (bt122.2.getD 0))))) = some (r1, r2, r3) := by rw [if_neg (show ¬ (false = true) by decide)] at H; exact H
        clear H
        have H := H1
        clear H1
        replace H := Option.bind_eq_some_iff.mp H
        obtain ⟨⟨t122, t123⟩, A80, H⟩ := H
        replace H : (if t123.isNone = true then (if (wrap64 ((wrap64 (a0 + t122)) - (mn a2 (wrap64 (a0 + t122))))) > 10000000000000 then (some (0, 0, some 3)) else (some (wrap64 ((wrap64 (a0 + t122)) - (mn a2 (wrap64 (a0 + t122)))), t122, none))) else (some (0, 0, some (t123.getD 0)))) = some (r1, r2, r3) := H
        have A8 := Aside0.mk A80
        clear A80
        rcases t123 with _ | q124
        · have H1 : (if (wrap64 ((wrap64 (a0 + t122)) - (mn a2 (wrap64 (a0 + t122))))) > 10000000000000 then (some (0, 0, some 3)) else (some (wrap64 ((wrap64 (a0 + t122)) - (mn a2 (wrap64 (a0 + t122)))), t122, none))) = some (r1, r2, r3) := by rw [if_pos (show (none : Option Int).isNone = true by rfl)] at H; exact H
          clear H
          have H := H1
          clear H1
          try simp only [errW_none, errW_some]
          obtain ⟨ji9, hji9⟩ : ∃ j_ : Int, (mn a2 (wrap64 (a0 + t122))) = j_ := ⟨_, rfl⟩
          replace H : (if (wrap64 ((wrap64 (a0 + t122)) - (ji9))) > 10000000000000 then (some (0, 0, some 3)) else (some (wrap64 ((wrap64 (a0 + t122)) - (ji9)), t122, none))) = some (r1, r2, r3) := by first | (rw [hji9] at H; exact H) | (simp only [hji9] at H ⊢; exact H)
          (try rw [hji9] at A8)
          have hji9_ : (if (wrap64 (a0 + t122)) < a2 then (wrap64 (a0 + t122)) else a2) = ji9 := hji9
          by_cases c10 : (wrap64 ((wrap64 (a0 + t122)) - (ji9))) > 10000000000000
          · rw [if_pos c10] at H
            have c10b0 : decide (10000000000000 < (wrap64 ((wrap64 (a0 + t122)) - (ji9)))) = true := decide_eq_true c10
            clear c10
            simp only [Option.some.injEq, Prod.mk.injEq] at H
            obtain ⟨rfl, rfl, rfl⟩ := H
            go_wp2_with (first | ((with_reducible refine gate_callee (f := 10) rfl ?_); refine goesL_ (some 24) rfl rfl Try.func10 (by kernel_rfl) rfl #[.int .i64 a0, .int .i64 a1] rfl (by (try simp only [List.map_toArray, List.map_cons, List.map_nil]); first | done | rfl | (simp only [List.length_drop, List.length_take]; rfl)) ?_; (with_reducible refine (rate_Month_s.calls a0 a1 t122 none _ A8.out).mono ?_); rintro e w' ⟨rfl, ⟨nd, rfl⟩⟩; refine ⟨_, rfl, ?_⟩; (try simp only [errW_none, errW_some])))
            go_ret3
            exact ⟨by first | rfl | (simp [errW_none, errW_some] <;> rfl) | (simp only [← hji9]; first | rfl | (simp [errW_none, errW_some] <;> rfl)) | (simp [*, errW_none, errW_some] <;> rfl), by repeat (first | (with_reducible first | exact HB.out | apply below_alloc | apply pw_below_drewN | apply below_drew1) | exact HB.out)⟩
          · rw [if_neg c10] at H
            have c10b0 : decide (10000000000000 < (wrap64 ((wrap64 (a0 + t122)) - (ji9)))) = false := decide_eq_false c10
            clear c10
            simp only [Option.some.injEq, Prod.mk.injEq] at H
            obtain ⟨rfl, rfl, rfl⟩ := H
            go_wp2_with (first | ((with_reducible refine gate_callee (f := 10) rfl ?_); refine goesL_ (some 24) rfl rfl Try.func10 (by kernel_rfl) rfl #[.int .i64 a0, .int .i64 a1] rfl (by (try simp only [List.map_toArray, List.map_cons, List.map_nil]); first | done | rfl | (simp only [List.length_drop, List.length_take]; rfl)) ?_; (with_reducible refine (rate_Month_s.calls a0 a1 t122 none _ A8.out).mono ?_); rintro e w' ⟨rfl, ⟨nd, rfl⟩⟩; refine ⟨_, rfl, ?_⟩; (try simp only [errW_none, errW_some])))
            go_ret3
            exact ⟨by first | rfl | (simp [errW_none, errW_some] <;> rfl) | (simp only [← hji9]; first | rfl | (simp [errW_none, errW_some] <;> rfl)) | (simp [*, errW_none, errW_some] <;> rfl), by repeat (first | (with_reducible first | exact HB.out | apply below_alloc | apply pw_below_drewN | apply below_drew1) | exact HB.out)⟩
        · have H1 : (some (0, 0, some q124)) = some (r1, r2, r3) := by rw [if_neg (show ¬ (some q124).isNone = true by simp)] at H; exact H
          clear H
          have H := H1
          clear H1
          try simp only [errW_none, errW_some]
          simp only [Option.some.injEq, Prod.mk.injEq] at H
          obtain ⟨rfl, rfl, rfl⟩ := H
          go_wp2_with (first | ((with_reducible refine gate_callee (f := 10) rfl ?_); refine goesL_ (some 24) rfl rfl Try.func10 (by kernel_rfl) rfl #[.int .i64 a0, .int .i64 a1] rfl (by (try simp only [List.map_toArray, List.map_cons, List.map_nil]); first | done | rfl | (simp only [List.length_drop, List.length_take]; rfl)) ?_; (with_reducible refine (rate_Month_s.calls a0 a1 t122 (some q124) _ A8.out).mono ?_); rintro e w' ⟨rfl, ⟨nd, rfl⟩⟩; refine ⟨_, rfl, ?_⟩; (try simp only [errW_none, errW_some])))
          go_ret3
          exact ⟨by first | rfl | (simp [errW_none, errW_some] <;> rfl) | (simp [*, errW_none, errW_some] <;> rfl), by repeat (first | (with_reducible first | exact HB.out | apply below_alloc | apply pw_below_drewN | apply below_drew1) | exact HB.out)⟩

/-! ### rate_Next_s: function 11, told plainly -/
theorem rate_Next.tells (b r p : Int) (k : Nat) (hk : 1 ≤ k) : rate_Next.f k b r p =
    some (if M.may b r ∧ 0 ≤ p then (if M.next b r p > 10000000000000 then (0, 0, some 3) else (M.next b r p, M.month b r, none)) else (0, 0, some 1)) := by
  obtain ⟨k, rfl⟩ : ∃ m, k = m + 1 := ⟨k - 1, by omega⟩
  have hm : rate_may.f b r = some (decide (M.may b r)) := by
    unfold rate_may.f M.may
    by_cases h1 : 0 ≤ b <;> by_cases h2 : b ≤ 10000000000000 <;> by_cases h3 : 0 ≤ r <;> simp [h1, h2, h3]
  unfold rate_Next.f
  rw [hm, Option.bind_some]
  by_cases h : M.may b r
  · rw [if_pos (decide_eq_true h)]
    by_cases hp : p < 0
    · rw [decide_eq_true hp, if_neg (by omega)]
      simp [rate_Next.j0]
    · rw [decide_eq_false hp, if_pos ⟨h, by omega⟩]
      simp only [rate_Next.j0]
      unfold rate_Month_s.f
      rw [if_neg (by decide), if_pos h]
      simp only [Option.bind_some, Option.isNone_none, if_true]
      have h0 := M.month_nonneg h
      have h1 := M.month_le h
      have hb := h.1
      have hb2 := h.2.1
      have e1 : wrap64 (b + M.month b r) = b + M.month b r := M.w64_id (by omega) (by omega)
      have e2 : wrap64 (b + M.month b r - mn p (b + M.month b r)) = M.next b r p := by
        unfold M.next mn
        split <;> split <;> rw [M.w64_id] <;> omega
      rw [e1, e2]
      split <;> rfl
  · rw [if_neg (by simpa using h), if_neg (fun hh => h hh.1)]
    simp [rate_Next.j0]
def rate_Next_s.f (b r p : Int) : Option (Int × Int × Option Int) :=
  some (if M.may b r ∧ 0 ≤ p then (if M.next b r p > 10000000000000 then (0, 0, some 3) else (M.next b r p, M.month b r, none)) else (0, 0, some 1))
theorem rate_Next_s.calls (a0 : Int) (a1 : Int) (a2 : Int) (r1 : Int) (r2 : Int) (r3 : Option Int) (w : World) (h : rate_Next_s.f a0 a1 a2 = some (r1, r2, r3)) :
    Calls Try.prog 11 #[.int .i64 a0, .int .i64 a1, .int .i64 a2] w fun e w' => e = .returned (.tuple #[.int .i64 r1, .int .i64 r2, errW r3]) ∧ Below w.heap.size w w' :=
  rate_Next.calls 1 a0 a1 a2 r1 r2 r3 w ((rate_Next.tells a0 a1 a2 1 (Nat.le_refl _)).trans h)
theorem rate_Next_s.yes {b r p : Int} (h : M.may b r ∧ 0 ≤ p) (ho : M.next b r p ≤ 10000000000000) : rate_Next_s.f b r p = some (M.next b r p, M.month b r, none) := by unfold rate_Next_s.f; rw [if_pos h, if_neg (by omega)]
theorem rate_Next_s.over {b r p : Int} (h : M.may b r ∧ 0 ≤ p) (ho : M.next b r p > 10000000000000) : rate_Next_s.f b r p = some (0, 0, some 3) := by unfold rate_Next_s.f; rw [if_pos h, if_pos ho]
theorem rate_Next_s.no {b r p : Int} (h : ¬ (M.may b r ∧ 0 ≤ p)) : rate_Next_s.f b r p = some (0, 0, some 1) := by unfold rate_Next_s.f; rw [if_neg h]

/-! ### rate_Left: function 15 -/
mutual
def rate_Left.j0 : Nat → Int → Int → Int → Int → Bool → Option (Int × Option Int)
  | 0, _, _, _, _, _ => none
  | k + 1, x0, x1, x2, x3, x28 => if x28 = true then (some (0, some 1)) else (rate_Left.l0 k x0 x1 x2 x3 0)
def rate_Left.l0 : Nat → Int → Int → Int → Int → Int → Option (Int × Option Int)
  | 0, _, _, _, _, _ => none
  | k + 1, x0, x1, x2, x30, x31 => if x31 < x30 then ((rate_Next_s.f x0 x1 x2).bind fun bt126 => (if bt126.2.2.isNone = true then (rate_Left.l0 k bt126.1 x1 x2 x30 (wrap64 (x31 + 1))) else (some (0, some (bt126.2.2.getD 0))))) else (some (x0, none))
end
def rate_Left.f (k : Nat) (a0 : Int) (a1 : Int) (a2 : Int) (a3 : Int) : Option (Int × Option Int) := (rate_may.f a0 a1).bind fun t125 => (if t125 = true then (if a2 < 0 then (rate_Left.j0 k a0 a1 a2 a3 true) else (if a3 < 0 then (rate_Left.j0 k a0 a1 a2 a3 true) else (rate_Left.j0 k a0 a1 a2 a3 (decide (a3 > 480))))) else (rate_Left.j0 k a0 a1 a2 a3 true))
theorem rate_Left.mono_l : ∀ k, (∀ y0 y1 y2 y3 y4, LeO (rate_Left.j0 k y0 y1 y2 y3 y4) (rate_Left.j0 (k + 1) y0 y1 y2 y3 y4)) ∧ (∀ y0 y1 y2 y3 y4, LeO (rate_Left.l0 k y0 y1 y2 y3 y4) (rate_Left.l0 (k + 1) y0 y1 y2 y3 y4))
  | 0 => ⟨fun _ _ _ _ _ r h => by simp [rate_Left.j0] at h, fun _ _ _ _ _ r h => by simp [rate_Left.l0] at h⟩
  | k + 1 => by
    obtain ⟨ih0, ih1⟩ := rate_Left.mono_l k
    refine ⟨?_, ?_⟩
    · intro y0 y1 y2 y3 y4
      unfold rate_Left.j0
      repeat' first
      | (with_reducible exact ih0 _ _ _ _ _)
      | (with_reducible exact ih1 _ _ _ _ _)
      | (with_reducible exact LeO.refl _)
      | (with_reducible exact LeO.none _)
      | (with_reducible refine LeO.ite ?_ ?_)
      | (with_reducible refine LeO.bind ?_ (fun _ => ?_))
      | exact ih0 _ _ _ _ _
      | exact ih1 _ _ _ _ _
      | exact LeO.none _
      | refine LeO.ite ?_ ?_
      | refine LeO.bind ?_ (fun _ => ?_)
    · intro y0 y1 y2 y3 y4
      unfold rate_Left.l0
      repeat' first
      | (with_reducible exact ih0 _ _ _ _ _)
      | (with_reducible exact ih1 _ _ _ _ _)
      | (with_reducible exact LeO.refl _)
      | (with_reducible exact LeO.none _)
      | (with_reducible refine LeO.ite ?_ ?_)
      | (with_reducible refine LeO.bind ?_ (fun _ => ?_))
      | exact ih0 _ _ _ _ _
      | exact ih1 _ _ _ _ _
      | exact LeO.none _
      | refine LeO.ite ?_ ?_
      | refine LeO.bind ?_ (fun _ => ?_)
theorem rate_Left.mono : ∀ a0 a1 a2 a3 k, LeO (rate_Left.f k a0 a1 a2 a3) (rate_Left.f (k + 1) a0 a1 a2 a3) := by
  intro a0 a1 a2 a3 k
  obtain ⟨ih0, ih1⟩ := rate_Left.mono_l k
  unfold rate_Left.f
  repeat' first
      | (with_reducible exact ih0 _ _ _ _ _)
      | (with_reducible exact ih1 _ _ _ _ _)
      | (with_reducible exact LeO.refl _)
      | (with_reducible exact LeO.none _)
      | (with_reducible refine LeO.ite ?_ ?_)
      | (with_reducible refine LeO.bind ?_ (fun _ => ?_))
      | exact ih0 _ _ _ _ _
      | exact ih1 _ _ _ _ _
      | exact LeO.none _
      | refine LeO.ite ?_ ?_
      | refine LeO.bind ?_ (fun _ => ?_)
set_option maxHeartbeats 8000000 in
set_option maxRecDepth 100000 in
theorem rate_Left.calls (k : Nat) (a0 : Int) (a1 : Int) (a2 : Int) (a3 : Int) (r1 : Int) (r2 : Option Int) (w : World) (h : rate_Left.f k a0 a1 a2 a3 = some (r1, r2)) :
    Calls Try.prog 15 #[.int .i64 a0, .int .i64 a1, .int .i64 a2, .int .i64 a3] w fun e w' => e = .returned (.tuple #[.int .i64 r1, errW r2]) ∧ Below w.heap.size w w' := by
  have hu24 := Try.underlying24
  have hu30 := Try.underlying30
  have HB := Aside0.mk (Below.refl w.heap.size w)
  have H : ((rate_may.f a0 a1).bind fun t125 => (if t125 = true then (if a2 < 0 then (rate_Left.j0 k a0 a1 a2 a3 true) else (if a3 < 0 then (rate_Left.j0 k a0 a1 a2 a3 true) else (rate_Left.j0 k a0 a1 a2 a3 (decide (a3 > 480))))) else (rate_Left.j0 k a0 a1 a2 a3 true))) = some (r1, r2) := h
  clear h
  have HC5 := Aside0.mk H
  clear H
  go_enter Try.func15, Try.ntmps15
  go_upto_region 1 with (fail)
  go_cut [28] (fun v28 wc => ∃ (kq : Nat) (x28_4 : Bool), v28 = .bool x28_4 ∧ Aside0 (rate_Left.j0 kq a0 a1 a2 a3 x28_4 = some (r1, r2)) ∧ Aside0 (kq ≤ k) ∧ Aside0 (Below w.heap.size w wc))
  case first =>
    have H := HC5.out
    clear HC5
    replace H := Option.bind_eq_some_iff.mp H
    obtain ⟨t125, A60, H⟩ := H
    replace H : (if t125 = true then (if a2 < 0 then (rate_Left.j0 k a0 a1 a2 a3 true) else (if a3 < 0 then (rate_Left.j0 k a0 a1 a2 a3 true) else (rate_Left.j0 k a0 a1 a2 a3 (decide (a3 > 480))))) else (rate_Left.j0 k a0 a1 a2 a3 true)) = some (r1, r2) := H
    have A6 := Aside0.mk A60
    clear A60
    by_cases c7 : t125 = true
    · subst c7
      have H1 : (if a2 < 0 then (rate_Left.j0 k a0 a1 a2 a3 true) else (if a3 < 0 then (rate_Left.j0 k a0 a1 a2 a3 true) else (rate_Left.j0 k a0 a1 a2 a3 (decide (a3 > 480))))) = some (r1, r2) := by rw [if_pos rfl] at H; exact H
      clear H
      have H := H1
      clear H1
      by_cases c8 : a2 < 0
      · rw [if_pos c8] at H
        have c8b0 : decide (a2 < 0) = true := decide_eq_true c8
        clear c8
        (first | rw [c8b0] | (simp only [i64_w, i32_w]; rw [c8b0]) | skip)
        have H' := Aside0.mk H
        clear H
        go_wp2_with (first | ((with_reducible refine gate_callee (f := 19) rfl ?_); refine goesL_ (some 15) rfl rfl Try.func19 (by kernel_rfl) rfl #[.int .i64 a0, .int .i64 a1] rfl (by (try simp only [List.map_toArray, List.map_cons, List.map_nil]); first | done | rfl | (simp only [List.length_drop, List.length_take]; rfl)) ?_; (with_reducible refine (rate_may.calls a0 a1 true _ A6.out).mono ?_); rintro e w' ⟨rfl, ⟨nd, rfl⟩⟩; refine ⟨_, rfl, ?_⟩))
        go_meet
        case rel => exact ⟨_, (true), (by first | rfl | (simp; done) | (simp [*]; done)), H', ⟨by first | omega | exact Nat.le_refl _⟩, ⟨by repeat (first | (with_reducible first | exact HB.out | apply below_alloc | apply pw_below_drewN | apply below_drew1) | exact HB.out)⟩⟩
      · rw [if_neg c8] at H
        have c8b0 : decide (a2 < 0) = false := decide_eq_false c8
        clear c8
        (first | rw [c8b0] | (simp only [i64_w, i32_w]; rw [c8b0]) | skip)
        by_cases c9 : a3 < 0
        · rw [if_pos c9] at H
          have c9b0 : decide (a3 < 0) = true := decide_eq_true c9
          clear c9
          have H' := Aside0.mk H
          clear H
          go_wp2_with (first | ((with_reducible refine gate_callee (f := 19) rfl ?_); refine goesL_ (some 15) rfl rfl Try.func19 (by kernel_rfl) rfl #[.int .i64 a0, .int .i64 a1] rfl (by (try simp only [List.map_toArray, List.map_cons, List.map_nil]); first | done | rfl | (simp only [List.length_drop, List.length_take]; rfl)) ?_; (with_reducible refine (rate_may.calls a0 a1 true _ A6.out).mono ?_); rintro e w' ⟨rfl, ⟨nd, rfl⟩⟩; refine ⟨_, rfl, ?_⟩))
          go_meet
          case rel => exact ⟨_, (true), (by first | rfl | (simp; done) | (simp [*]; done)), H', ⟨by first | omega | exact Nat.le_refl _⟩, ⟨by repeat (first | (with_reducible first | exact HB.out | apply below_alloc | apply pw_below_drewN | apply below_drew1) | exact HB.out)⟩⟩
        · rw [if_neg c9] at H
          have c9b0 : decide (a3 < 0) = false := decide_eq_false c9
          clear c9
          have H' := Aside0.mk H
          clear H
          go_wp2_with (first | ((with_reducible refine gate_callee (f := 19) rfl ?_); refine goesL_ (some 15) rfl rfl Try.func19 (by kernel_rfl) rfl #[.int .i64 a0, .int .i64 a1] rfl (by (try simp only [List.map_toArray, List.map_cons, List.map_nil]); first | done | rfl | (simp only [List.length_drop, List.length_take]; rfl)) ?_; (with_reducible refine (rate_may.calls a0 a1 true _ A6.out).mono ?_); rintro e w' ⟨rfl, ⟨nd, rfl⟩⟩; refine ⟨_, rfl, ?_⟩))
          go_meet
          case rel => exact ⟨_, (decide (a3 > 480)), (by first | rfl | (simp; done) | (simp [*]; done)), H', ⟨by first | omega | exact Nat.le_refl _⟩, ⟨by repeat (first | (with_reducible first | exact HB.out | apply below_alloc | apply pw_below_drewN | apply below_drew1) | exact HB.out)⟩⟩
    · replace c7 := Bool.eq_false_iff.mpr c7
      subst c7
      have H1 : (rate_Left.j0 k a0 a1 a2 a3 true) = some (r1, r2) := by rw [if_neg (show ¬ (false = true) by decide)] at H; exact H
      clear H
      have H := H1
      clear H1
      have H' := Aside0.mk H
      clear H
      go_wp2_with (first | ((with_reducible refine gate_callee (f := 19) rfl ?_); refine goesL_ (some 15) rfl rfl Try.func19 (by kernel_rfl) rfl #[.int .i64 a0, .int .i64 a1] rfl (by (try simp only [List.map_toArray, List.map_cons, List.map_nil]); first | done | rfl | (simp only [List.length_drop, List.length_take]; rfl)) ?_; (with_reducible refine (rate_may.calls a0 a1 false _ A6.out).mono ?_); rintro e w' ⟨rfl, ⟨nd, rfl⟩⟩; refine ⟨_, rfl, ?_⟩))
      go_meet
      case rel => exact ⟨_, (true), (by first | rfl | (simp; done) | (simp [*]; done)), H', ⟨by first | omega | exact Nat.le_refl _⟩, ⟨by repeat (first | (with_reducible first | exact HB.out | apply below_alloc | apply pw_below_drewN | apply below_drew1) | exact HB.out)⟩⟩
  case rest =>
    clear HC5
    try clear c1
    try clear p2
    try clear c7
    try clear c8
    try clear c8b0
    try clear c9
    try clear c9b0
    obtain ⟨kq, x28_4, rfl, HA, HJ4, HB⟩ := hcut
    cases kq with
    | zero => exact absurd HA.out (by simp [rate_Left.j0])
    | succ kj4 =>
      have H := HA.out
      clear HA
      simp only [rate_Left.j0] at H
      by_cases c10 : x28_4 = true
      · subst c10
        have H1 : (some (0, some 1)) = some (r1, r2) := by rw [if_pos rfl] at H; exact H
        clear H
        have H := H1
        clear H1
        simp only [Option.some.injEq, Prod.mk.injEq] at H
        obtain ⟨rfl, rfl⟩ := H
        go_wp2
        go_ret2
        exact ⟨by first | rfl | (simp [errW_none, errW_some] <;> rfl) | (simp [*, errW_none, errW_some] <;> rfl), by repeat (first | (with_reducible first | exact HB.out | apply below_alloc | apply pw_below_drewN | apply below_drew1) | exact HB.out)⟩
      · replace c10 := Bool.eq_false_iff.mpr c10
        subst c10
        have H1 : (rate_Left.l0 kj4 a0 a1 a2 a3 0) = some (r1, r2) := by rw [if_neg (show ¬ (false = true) by decide)] at H; exact H
        clear H
        have H := H1
        clear H1
        have H' := Aside0.mk H
        clear H
        go_wp2
        (try simp only [Act.put, List.setIfInBounds_toArray, List.set_cons_zero, List.set_cons_succ])
        go_loopg [0, 31] kj4 (fun kq v0 v31 w' => ∃ (x0_2 : Int) (x31_2 : Int), v0 = .int .i64 x0_2 ∧ v31 = .int .i64 x31_2 ∧ Aside0 (rate_Left.l0 kq x0_2 a1 a2 a3 x31_2 = some (r1, r2)) ∧ Aside0 (kq ≤ kj4) ∧ Aside0 (Below w.heap.size w w'))
        case atStart => exact ⟨(a0), (0), (by first | rfl | (simp; done) | (simp [*]; done)), (by first | rfl | (simp; done) | (simp [*]; done)), H', ⟨Nat.le_refl _⟩, ⟨by repeat (first | (with_reducible first | exact HB.out | apply below_alloc | apply pw_below_drewN | apply below_drew1) | exact HB.out)⟩⟩
        case round =>
          clear H'
          try clear c1
          try clear p2
          try clear c7
          try clear c8
          try clear c8b0
          try clear c9
          try clear c9b0
          try clear c10
          try clear p2
          obtain ⟨x0_2, x31_2, rfl, rfl, HA, HK2, HB⟩ := hrel
          cases gk with
          | zero => exact absurd HA.out (by simp [rate_Left.l0])
          | succ k2 =>
            have H := HA.out
            clear HA
            simp only [rate_Left.l0] at H
            by_cases c11 : x31_2 < a3
            · rw [if_pos c11] at H
              have c11b0 : decide (x31_2 < a3) = true := decide_eq_true c11
              clear c11
              replace H := Option.bind_eq_some_iff.mp H
              obtain ⟨⟨t126, t127, t128⟩, A120, H⟩ := H
              replace H : (if t128.isNone = true then (rate_Left.l0 k2 t126 a1 a2 a3 (wrap64 (x31_2 + 1))) else (some (0, some (t128.getD 0)))) = some (r1, r2) := H
              have A12 := Aside0.mk A120
              clear A120
              rcases t128 with _ | q129
              · have H1 : (rate_Left.l0 k2 t126 a1 a2 a3 (wrap64 (x31_2 + 1))) = some (r1, r2) := by rw [if_pos (show (none : Option Int).isNone = true by rfl)] at H; exact H
                clear H
                have H := H1
                clear H1
                try simp only [errW_none, errW_some]
                have H' := Aside0.mk H
                clear H
                go_wp2_with (first | ((with_reducible refine gate_callee (f := 11) rfl ?_); refine goesL_ (some 37) rfl rfl Try.func11 (by kernel_rfl) rfl #[.int .i64 x0_2, .int .i64 a1, .int .i64 a2] rfl (by (try simp only [List.map_toArray, List.map_cons, List.map_nil]); first | done | rfl | (simp only [List.length_drop, List.length_take]; rfl)) ?_; (with_reducible refine (rate_Next_s.calls x0_2 a1 a2 t126 t127 none _ A12.out).mono ?_); rintro e w13 ⟨rfl, hb⟩; refine ⟨_, rfl, ?_⟩; have n0_ := Aside0.mk (below_step (by repeat (first | (with_reducible first | exact HB.out | apply below_alloc | apply pw_below_drewN | apply below_drew1) | exact HB.out)) hb); clear HB; have HB := n0_; clear n0_; (try clear hb); (try clear hb2); (try clear hk); (try clear hi); (try simp only [errW_none, errW_some])))
                go_roundg k2
                case measure => have := HJ4.out; have := HK2.out; omega
                case rel => exact ⟨(t126), (wrap64 (x31_2 + 1)), (by first | rfl | (simp; done) | (simp [*]; done)), (by first | rfl | (simp; done) | (simp [*]; done)), H', ⟨by have := HJ4.out; have := HK2.out; omega⟩, ⟨by repeat (first | (with_reducible first | exact HB.out | apply below_alloc | apply pw_below_drewN | apply below_drew1) | exact HB.out)⟩⟩
              · have H1 : (some (0, some q129)) = some (r1, r2) := by rw [if_neg (show ¬ (some q129).isNone = true by simp)] at H; exact H
                clear H
                have H := H1
                clear H1
                try simp only [errW_none, errW_some]
                simp only [Option.some.injEq, Prod.mk.injEq] at H
                obtain ⟨rfl, rfl⟩ := H
                go_wp2_with (first | ((with_reducible refine gate_callee (f := 11) rfl ?_); refine goesL_ (some 37) rfl rfl Try.func11 (by kernel_rfl) rfl #[.int .i64 x0_2, .int .i64 a1, .int .i64 a2] rfl (by (try simp only [List.map_toArray, List.map_cons, List.map_nil]); first | done | rfl | (simp only [List.length_drop, List.length_take]; rfl)) ?_; (with_reducible refine (rate_Next_s.calls x0_2 a1 a2 t126 t127 (some q129) _ A12.out).mono ?_); rintro e w14 ⟨rfl, hb⟩; refine ⟨_, rfl, ?_⟩; have n0_ := Aside0.mk (below_step (by repeat (first | (with_reducible first | exact HB.out | apply below_alloc | apply pw_below_drewN | apply below_drew1) | exact HB.out)) hb); clear HB; have HB := n0_; clear n0_; (try clear hb); (try clear hb2); (try clear hk); (try clear hi); (try simp only [errW_none, errW_some])))
                go_ret2
                exact ⟨by first | rfl | (simp [errW_none, errW_some] <;> rfl) | (simp [*, errW_none, errW_some] <;> rfl), by repeat (first | (with_reducible first | exact HB.out | apply below_alloc | apply pw_below_drewN | apply below_drew1) | exact HB.out)⟩
            · rw [if_neg c11] at H
              have c11b0 : decide (x31_2 < a3) = false := decide_eq_false c11
              clear c11
              simp only [Option.some.injEq, Prod.mk.injEq] at H
              obtain ⟨rfl, rfl⟩ := H
              go_wp2
              go_ret2
              exact ⟨by first | rfl | (simp [errW_none, errW_some] <;> rfl) | (simp [*, errW_none, errW_some] <;> rfl), by repeat (first | (with_reducible first | exact HB.out | apply below_alloc | apply pw_below_drewN | apply below_drew1) | exact HB.out)⟩

/-! ### rate_Left_s: function 15, told plainly -/
theorem rate_Left.loop (r p m : Int) (hp : 0 ≤ p) (hm0 : 0 ≤ m) (hm : m ≤ 480) : ∀ (n : Nat) (i b : Int), i + n = m → 0 ≤ i → M.may b r → ∀ k, n + 2 ≤ k →
    rate_Left.l0 k b r p m i = some (M.tell3 (M.left n b r p)) := by
  intro n
  induction n with
  | zero =>
    intro i b hi h0 hb k hk
    obtain ⟨k, rfl⟩ : ∃ m, k = m + 1 := ⟨k - 1, by omega⟩
    simp only [rate_Left.l0, M.left]
    rw [if_neg (by omega)]
    rfl
  | succ n ih =>
    intro i b hi h0 hb k hk
    obtain ⟨k, rfl⟩ : ∃ m, k = m + 1 := ⟨k - 1, by omega⟩
    simp only [rate_Left.l0, M.left]
    unfold rate_Next_s.f
    rw [if_pos (by omega), if_pos ⟨hb, hp⟩, Option.bind_some]
    by_cases ho : M.next b r p > 10000000000000
    · rw [if_pos ho, if_pos ho]
      rfl
    · rw [if_neg ho, if_neg ho]
      simp only [Option.isNone_none, if_true]
      rw [M.w64_id (by omega) (by omega)]
      exact ih (i + 1) _ (by omega) (by omega) ⟨M.next_nonneg _ _ _, by omega, hb.2.2.1, hb.2.2.2⟩ k (by omega)
theorem rate_Left.tells (b r p m : Int) (k : Nat) (hk : m.toNat + 4 ≤ k) : rate_Left.f k b r p m =
    some (if M.may b r ∧ 0 ≤ p ∧ 0 ≤ m ∧ m ≤ 480 then M.tell3 (M.left m.toNat b r p) else (0, some 1)) := by
  obtain ⟨k, rfl⟩ : ∃ m, k = m + 1 := ⟨k - 1, by omega⟩
  have hm : rate_may.f b r = some (decide (M.may b r)) := by
    unfold rate_may.f M.may
    by_cases h1 : 0 ≤ b <;> by_cases h2 : b ≤ 10000000000000 <;> by_cases h3 : 0 ≤ r <;> simp [h1, h2, h3]
  unfold rate_Left.f
  rw [hm, Option.bind_some]
  by_cases h : M.may b r
  · rw [if_pos (decide_eq_true h)]
    by_cases hp : p < 0
    · rw [if_pos hp, if_neg (by omega)]
      simp [rate_Left.j0]
    rw [if_neg hp]
    by_cases hm0 : m < 0
    · rw [if_pos hm0, if_neg (by omega)]
      simp [rate_Left.j0]
    rw [if_neg hm0]
    by_cases hm4 : m > 480
    · rw [decide_eq_true hm4, if_neg (by omega)]
      simp [rate_Left.j0]
    rw [decide_eq_false hm4, if_pos ⟨h, by omega, by omega, by omega⟩]
    simp only [rate_Left.j0]
    rw [if_neg (by decide)]
    exact rate_Left.loop r p m (by omega) (by omega) (by omega) m.toNat 0 b (by omega) (by omega) h k (by omega)
  · rw [if_neg (by simpa using h), if_neg (fun hh => h hh.1)]
    simp [rate_Left.j0]
def rate_Left_s.f (b r p m : Int) : Option (Int × Option Int) :=
  some (if M.may b r ∧ 0 ≤ p ∧ 0 ≤ m ∧ m ≤ 480 then M.tell3 (M.left m.toNat b r p) else (0, some 1))
theorem rate_Left_s.calls (a0 : Int) (a1 : Int) (a2 : Int) (a3 : Int) (r1 : Int) (r2 : Option Int) (w : World) (h : rate_Left_s.f a0 a1 a2 a3 = some (r1, r2)) :
    Calls Try.prog 15 #[.int .i64 a0, .int .i64 a1, .int .i64 a2, .int .i64 a3] w fun e w' => e = .returned (.tuple #[.int .i64 r1, errW r2]) ∧ Below w.heap.size w w' :=
  rate_Left.calls (a3.toNat + 4) a0 a1 a2 a3 r1 r2 w ((rate_Left.tells a0 a1 a2 a3 _ (Nat.le_refl _)).trans h)
theorem rate_Left_s.yes {b r p m : Int} (h : M.may b r ∧ 0 ≤ p ∧ 0 ≤ m ∧ m ≤ 480) : rate_Left_s.f b r p m = some (M.tell3 (M.left m.toNat b r p)) := by unfold rate_Left_s.f; rw [if_pos h]
theorem rate_Left_s.no {b r p m : Int} (h : ¬ (M.may b r ∧ 0 ≤ p ∧ 0 ≤ m ∧ m ≤ 480)) : rate_Left_s.f b r p m = some (0, some 1) := by unfold rate_Left_s.f; rw [if_neg h]

/-! ### rate_pays: function 21 -/
def rate_pays.f (a0 : Int) (a1 : Int) (a2 : Int) (a3 : Int) : Option (Bool) := (rate_Left_s.f a0 a1 a2 a3).bind fun bt130 => (if bt130.2.isNone = true then (some (bt130.1 == 0)) else (some false))
set_option maxHeartbeats 8000000 in
set_option maxRecDepth 100000 in
theorem rate_pays.calls (a0 : Int) (a1 : Int) (a2 : Int) (a3 : Int) (r : Bool) (w : World) (h : rate_pays.f a0 a1 a2 a3 = some r) :
    Calls Try.prog 21 #[.int .i64 a0, .int .i64 a1, .int .i64 a2, .int .i64 a3] w fun e w' => e = .returned (.bool r) ∧ Below w.heap.size w w' := by
  have hu24 := Try.underlying24
  have hu30 := Try.underlying30
  have HB := Aside0.mk (Below.refl w.heap.size w)
  have H : ((rate_Left_s.f a0 a1 a2 a3).bind fun bt130 => (if bt130.2.isNone = true then (some (bt130.1 == 0)) else (some false))) = some r := h
  clear h
  replace H := Option.bind_eq_some_iff.mp H
  obtain ⟨⟨t130, t131⟩, A50, H⟩ := H
  replace H : (if t131.isNone = true then (some (t130 == 0)) else (some false)) = some r := H
  have A5 := Aside0.mk A50
  clear A50
  rcases t131 with _ | q132
  · have H1 : (some (t130 == 0)) = some r := by rw [if_pos (show (none : Option Int).isNone = true by rfl)] at H; exact H
    clear H
    have H := H1
    clear H1
    try simp only [errW_none, errW_some]
    obtain rfl := Option.some.inj H
    go_enter Try.func21, Try.ntmps21
    go_wp2_with (first | ((with_reducible refine gate_callee (f := 15) rfl ?_); refine goesL_ (some 16) rfl rfl Try.func15 (by kernel_rfl) rfl #[.int .i64 a0, .int .i64 a1, .int .i64 a2, .int .i64 a3] rfl (by (try simp only [List.map_toArray, List.map_cons, List.map_nil]); first | done | rfl | (simp only [List.length_drop, List.length_take]; rfl)) ?_; (with_reducible refine (rate_Left_s.calls a0 a1 a2 a3 t130 none _ A5.out).mono ?_); rintro e w6 ⟨rfl, hb⟩; refine ⟨_, rfl, ?_⟩; have n0_ := Aside0.mk (below_step (by repeat (first | (with_reducible first | exact HB.out | apply below_alloc | apply pw_below_drewN | apply below_drew1) | exact HB.out)) hb); clear HB; have HB := n0_; clear n0_; (try clear hb); (try clear hb2); (try clear hk); (try clear hi); (try simp only [errW_none, errW_some])))
    go_ret
    exact ⟨by first | rfl | (simp [errW_none, errW_some] <;> rfl) | (simp [*, errW_none, errW_some] <;> rfl), by repeat (first | (with_reducible first | exact HB.out | apply below_alloc | apply pw_below_drewN | apply below_drew1) | exact HB.out)⟩
  · have H1 : (some false) = some r := by rw [if_neg (show ¬ (some q132).isNone = true by simp)] at H; exact H
    clear H
    have H := H1
    clear H1
    try simp only [errW_none, errW_some]
    obtain rfl := Option.some.inj H
    go_enter Try.func21, Try.ntmps21
    go_wp2_with (first | ((with_reducible refine gate_callee (f := 15) rfl ?_); refine goesL_ (some 16) rfl rfl Try.func15 (by kernel_rfl) rfl #[.int .i64 a0, .int .i64 a1, .int .i64 a2, .int .i64 a3] rfl (by (try simp only [List.map_toArray, List.map_cons, List.map_nil]); first | done | rfl | (simp only [List.length_drop, List.length_take]; rfl)) ?_; (with_reducible refine (rate_Left_s.calls a0 a1 a2 a3 t130 (some q132) _ A5.out).mono ?_); rintro e w7 ⟨rfl, hb⟩; refine ⟨_, rfl, ?_⟩; have n0_ := Aside0.mk (below_step (by repeat (first | (with_reducible first | exact HB.out | apply below_alloc | apply pw_below_drewN | apply below_drew1) | exact HB.out)) hb); clear HB; have HB := n0_; clear n0_; (try clear hb); (try clear hb2); (try clear hk); (try clear hi); (try simp only [errW_none, errW_some])))
    go_ret
    exact ⟨by first | rfl | (simp [errW_none, errW_some] <;> rfl) | (simp [*, errW_none, errW_some] <;> rfl), by repeat (first | (with_reducible first | exact HB.out | apply below_alloc | apply pw_below_drewN | apply below_drew1) | exact HB.out)⟩

/-! ### rate_pays_s: function 21, told plainly -/
theorem rate_pays.tells (b r p m : Int) : rate_pays.f b r p m = some (if M.may b r ∧ 0 ≤ p ∧ 0 ≤ m ∧ m ≤ 480 then M.pays m.toNat b r p else false) := by
  unfold rate_pays.f rate_Left_s.f M.pays
  rw [Option.bind_some]
  by_cases h : M.may b r ∧ 0 ≤ p ∧ 0 ≤ m ∧ m ≤ 480
  · rw [if_pos h, if_pos h]
    cases M.left m.toNat b r p with
    | none => rfl
    | some v => rfl
  · rw [if_neg h, if_neg h]
    rfl
def rate_pays_s.f (b r p m : Int) : Option Bool := some (if M.may b r ∧ 0 ≤ p ∧ 0 ≤ m ∧ m ≤ 480 then M.pays m.toNat b r p else false)
theorem rate_pays_s.calls (a0 : Int) (a1 : Int) (a2 : Int) (a3 : Int) (r : Bool) (w : World) (h : rate_pays_s.f a0 a1 a2 a3 = some r) :
    Calls Try.prog 21 #[.int .i64 a0, .int .i64 a1, .int .i64 a2, .int .i64 a3] w fun e w' => e = .returned (.bool r) ∧ Below w.heap.size w w' :=
  rate_pays.calls a0 a1 a2 a3 r w ((rate_pays.tells a0 a1 a2 a3).trans h)
theorem rate_pays_s.yes {b r p m : Int} (h : M.may b r ∧ 0 ≤ p ∧ 0 ≤ m ∧ m ≤ 480) : rate_pays_s.f b r p m = some (M.pays m.toNat b r p) := by unfold rate_pays_s.f; rw [if_pos h]

end Go.Proofs.Ytfkokgnfciifgaa.P
