-- Written by a program of this session out of the translation of the seat: Lean functions and the proofs that the Go functions come to them.
import Derived.Test.YtdddiahgkpfikaaPx0
import Derived.Test.YtdddiahgkpfikaaPx3
import Derived.Test.YtdddiahgkpfikaaPx4
import Derived.Test.YtdddiahgkpfikaaPx6
import Derived.Test.YtdddiahgkpfikaaPx8
import Derived.Test.YtdddiahgkpfikaaPx10
import Derived.Test.YtdddiahgkpfikaaPx11
namespace Go.Proofs.Ytdddiahgkpfikaa.P
open Go.RowKit Go.Proofs.YtdddiahgkpfikaaW.PrintWords Go.Proofs.YtdddiahgkpfikaaW.PrintLast Go.Proofs.YtdddiahgkpfikaaW.PrintMore
attribute [local go_sem] max2_int min2_int max_two min_two max_three min_three max_four min_four   -- for this text's walks alone
set_option linter.unusedVariables false
set_option linter.unusedSimpArgs false

/-! ### trivetref01_Quotient: function 30, its laws -/
theorem Qu.num_len (z : Int) : ((U.num z).1.length : Int) = 0 ↔ z = 0 := by
 have h := U.dig_nil_iff (U.abs_nonneg z)
 have e : M.abs z = 0 ↔ z = 0 := by unfold M.abs; split <;> omega
 rw [← e, ← h]
 show ((U.dig (M.abs z)).length : Int) = 0 ↔ _
 rw [← List.length_eq_zero_iff]
 omega
theorem Qu.num_low (z : Int) (h : z ≠ 0) : rd (U.num z).1 0 = M.abs z % 65536 := by
 have e : M.abs z / 65536 ^ 0 = M.abs z := by simp
 have := Qu.dig_get 0 (M.abs z) (U.abs_nonneg z)
 rw [e] at this
 exact this
theorem Qu.rest {x c : Int} : x + -(x / c * c) = x % c := by
 rw [Int.emod_def, Int.mul_comm c]; omega
theorem Qu.quo_pos {x c mode : Int} (hc : 0 < c) : M.quo x c mode = if x % c = 0 ∨ mode = 1 then x / c else if mode = 2 then x / c + 1 else if 2 * (x % c) < c then x / c else if 2 * (x % c) > c then x / c + 1 else if (mode = 4 ∧ (x / c) % 2 = 0) ∨ (mode = 3 ∧ x < 0) then x / c else x / c + 1 := by
 unfold M.quo
 simp only [if_neg (show ¬ c < 0 by omega)]
theorem Qu.quo_neg {x c mode : Int} (hc : c < 0) : M.quo x c mode = M.quo (-x) (-c) mode := by
 unfold M.quo
 simp only [if_pos hc, if_neg (show ¬ -c < 0 by omega)]
theorem trivetref01_Quotient.tie (k : Nat) (mode x c : Int) (hc : 0 < c) (hm : mode ≠ 1) (hm2 : mode ≠ 2) (hr : x % c ≠ 0) (h1 : ¬ 2 * (x % c) < c) (h2 : ¬ 2 * (x % c) > c) :
  (if ((U.num (x / c)).1.length : Int) = 0 then (if mode = 4 then (trivetref01_Quotient.j2 (k + 1) true (U.num (x / c)).1 (U.num (x / c)).2 (U.num (x / c + 1)).1 (U.num (x / c + 1)).2) else (if mode = 3 then (trivetref01_Quotient.j2 (k + 1) (U.num x).2 (U.num (x / c)).1 (U.num (x / c)).2 (U.num (x / c + 1)).1 (U.num (x / c + 1)).2) else (trivetref01_Quotient.j2 (k + 1) false (U.num (x / c)).1 (U.num (x / c)).2 (U.num (x / c + 1)).1 (U.num (x / c + 1)).2))) else (if 0 < ((U.num (x / c)).1.length : Int) then (if mode = 4 then (if (Int.tmod (rd (U.num (x / c)).1 0) 2) = 0 then (trivetref01_Quotient.j3 (k + 1) true (U.num (x / c)).1 (U.num (x / c)).2 (U.num (x / c + 1)).1 (U.num (x / c + 1)).2) else (if mode = 3 then (trivetref01_Quotient.j3 (k + 1) (U.num x).2 (U.num (x / c)).1 (U.num (x / c)).2 (U.num (x / c + 1)).1 (U.num (x / c + 1)).2) else (trivetref01_Quotient.j3 (k + 1) false (U.num (x / c)).1 (U.num (x / c)).2 (U.num (x / c + 1)).1 (U.num (x / c + 1)).2))) else (if mode = 3 then (trivetref01_Quotient.j3 (k + 1) (U.num x).2 (U.num (x / c)).1 (U.num (x / c)).2 (U.num (x / c + 1)).1 (U.num (x / c + 1)).2) else (trivetref01_Quotient.j3 (k + 1) false (U.num (x / c)).1 (U.num (x / c)).2 (U.num (x / c + 1)).1 (U.num (x / c + 1)).2))) else (none))) = some (U.num (M.quo x c mode)) := by
 have hs : (U.num x).2 = decide (x < 0) := rfl
 have hl := Qu.num_len (x / c)
 have hq := Qu.quo_pos (x := x) (mode := mode) hc
 rw [if_neg (show ¬ (x % c = 0 ∨ mode = 1) by omega), if_neg hm2, if_neg h1, if_neg h2] at hq
 rw [hq, hs]
 simp only [trivetref01_Quotient.j2, trivetref01_Quotient.j3]
 by_cases h0 : x / c = 0
 ·rw [if_pos (hl.mpr h0)]
  rw [h0]
  by_cases m4 : mode = 4
  ·rw [if_pos m4, if_pos (by decide), if_pos (.inl ⟨m4, by decide⟩)]
  ·rw [if_neg m4]
   by_cases m3 : mode = 3
   ·rw [if_pos m3]
    by_cases hx : x < 0
    ·rw [if_pos (decide_eq_true hx), if_pos (.inr ⟨m3, hx⟩)]
    ·rw [if_neg (by simpa using hx), if_neg (by omega)]
   ·rw [if_neg m3, if_neg (by decide), if_neg (by omega)]
 ·have hpos : 0 < ((U.num (x / c)).1.length : Int) := by
   have : ¬ ((U.num (x / c)).1.length : Int) = 0 := fun h => h0 (hl.mp h)
   omega
  rw [if_neg (fun h => h0 (hl.mp h)), if_pos hpos]
  have hev : (Int.tmod (rd (U.num (x / c)).1 0) 2) = 0 ↔ (x / c) % 2 = 0 := by
   rw [Qu.num_low _ h0]
   have a0 := U.abs_nonneg (x / c)
   rw [M.tmodu (by omega)]
   unfold M.abs
   split <;> omega
  by_cases m4 : mode = 4
  ·rw [if_pos m4]
   by_cases he : (x / c) % 2 = 0
   ·rw [if_pos (hev.mpr he), if_pos (by decide), if_pos (.inl ⟨m4, he⟩)]
   ·rw [if_neg (fun h => he (hev.mp h)), if_neg (show ¬ mode = 3 by omega), if_neg (by decide), if_neg (by omega)]
  ·rw [if_neg m4]
   by_cases m3 : mode = 3
   ·rw [if_pos m3]
    by_cases hx : x < 0
    ·rw [if_pos (decide_eq_true hx), if_pos (.inr ⟨m3, hx⟩)]
    ·rw [if_neg (by simpa using hx), if_neg (by omega)]
   ·rw [if_neg m3, if_neg (by decide), if_neg (by omega)]
theorem trivetref01_Quotient.later (k : Nat) (mode x c : Int) (hx : M.abs x < 65536 ^ 15) (hc : 0 < c) (hc2 : c < 65536 ^ 15) (hk : 400 ≤ k) (hm : mode ≠ 1) (hr : x % c ≠ 0) :
  trivetref01_Quotient.j1 (k + 2) mode false (U.num x).1 (U.num x).2 (U.num c).1 (U.num c).2 (U.num (x / c)).1 (U.num (x / c)).2 (U.num (x % c)).1 (U.num (x % c)).2 = some (U.num (M.quo x c mode)) := by
 have p16 : (65536 : Int) ^ 15 * 4 < 65536 ^ 32 := by decide
 have p32 : (65536 : Int) ^ 32 * 4 < 65536 ^ 64 := by decide
 have hr0 := Int.emod_nonneg x (show c ≠ 0 by omega)
 have hr1 := Int.emod_lt_of_pos x hc
 have hab := Qu.abs_div (x := x) hc
 have ar := Qu.abs_pos hr0
 have ac := Qu.abs_pos (Int.le_of_lt hc)
 have a1 : M.abs 1 = 1 := rfl
 have hq := Qu.quo_pos (x := x) (mode := mode) hc
 rw [if_neg (show ¬ (x % c = 0 ∨ mode = 1) by omega)] at hq
 rw [show k + 2 = (k + 1) + 1 by omega]
 simp only [trivetref01_Quotient.j1]
 rw [if_neg (by decide), trivetref01_Of.num (k + 1) 1 (by decide) (by omega), Option.bind_some, trivetref01_Add.num (k + 1) (x / c) 1 (by omega) (by omega) (by omega), Option.bind_some]
 by_cases m2 : mode = 2
 ·rw [if_pos m2] at hq ⊢
  rw [hq]
 ·rw [if_neg m2] at hq ⊢
  have arr : M.abs (x % c + x % c) = x % c + x % c := Qu.abs_pos (by omega)
  rw [trivetref01_Add.num (k + 1) (x % c) (x % c) (by omega) (by omega) (by omega), Option.bind_some, trivetref01_Cmp.num (k + 1) (x % c + x % c) c (by omega) (by omega) (by omega), Option.bind_some]
  by_cases h1 : 2 * (x % c) < c
  ·rw [if_pos h1] at hq
   rw [if_neg (show ¬ x % c + x % c = c by omega), if_pos (show x % c + x % c < c by omega), if_pos (by decide), hq]
  ·rw [if_neg h1] at hq
   by_cases h2 : 2 * (x % c) > c
   ·rw [if_pos h2] at hq
    rw [if_neg (show ¬ x % c + x % c = c by omega), if_neg (show ¬ x % c + x % c < c by omega), if_neg (by decide), if_pos (by decide), hq]
   ·rw [if_pos (show x % c + x % c = c by omega), if_neg (by decide), if_neg (by decide)]
    exact trivetref01_Quotient.tie k mode x c hc hm m2 hr h1 h2
theorem trivetref01_Quotient.pos (k : Nat) (mode x c : Int) (hx : M.abs x < 65536 ^ 15) (hc : 0 < c) (hc2 : c < 65536 ^ 15) (hk : 7500 ≤ k) :
  trivetref01_Quotient.j0 k mode (U.num x).1 (U.num x).2 (U.num c).1 (U.num c).2 = some (U.num (M.quo x c mode)) := by
 have p16 : (65536 : Int) ^ 15 * 4 < 65536 ^ 16 := by decide
 have p20 : (65536 : Int) ^ 16 * 4 < 65536 ^ 32 := by decide
 have p32 : (65536 : Int) ^ 32 * 4 < 65536 ^ 64 := by decide
 have hr0 := Int.emod_nonneg x (show c ≠ 0 by omega)
 have hr1 := Int.emod_lt_of_pos x hc
 have hab := Qu.abs_div (x := x) hc
 have ac := Qu.abs_pos (Int.le_of_lt hc)
 have hrest := Qu.rest (x := x) (c := c)
 have hp : M.abs (x / c * c) < 65536 ^ 64 := by
  have : x / c * c = x - x % c := by omega
  rw [this]
  unfold M.abs at hx ⊢
  split at hx <;> split <;> omega
 have hpn : M.abs (-(x / c * c)) < 65536 ^ 64 := by
  unfold M.abs at hp ⊢
  split at hp <;> split <;> omega
 obtain ⟨j, rfl⟩ : ∃ j, k = (j + 2) + 1 := ⟨k - 3, by omega⟩
 simp only [trivetref01_Quotient.j0]
 rw [trivetref01_floor.num (j + 2) x c (by omega) hc (by omega) (by omega), Option.bind_some, trivetref01_Mul.num (j + 2) (x / c) c (by omega) (by omega) (by omega), Option.bind_some, trivetref01_Neg.num (j + 2) (x / c * c) hp (by omega), Option.bind_some, trivetref01_Add.num (j + 2) x (-(x / c * c)) (by omega) hpn (by omega), Option.bind_some, hrest]
 have hl := Qu.num_len (x % c)
 have hq := Qu.quo_pos (x := x) (mode := mode) hc
 by_cases h0 : x % c = 0
 ·rw [if_pos (.inl h0)] at hq
  rw [if_pos (hl.mpr h0), hq]
  simp only [trivetref01_Quotient.j1]
  rw [if_pos trivial]
 ·rw [if_neg (fun h => h0 (hl.mp h))]
  by_cases m1 : mode = 1
  ·rw [if_pos (.inr m1)] at hq
   rw [hq, show (mode == 1) = true from beq_iff_eq.mpr m1]
   simp only [trivetref01_Quotient.j1]
   rw [if_pos trivial]
  ·rw [show (mode == 1) = false from beq_eq_false_iff_ne.mpr m1]
   exact trivetref01_Quotient.later j mode x c hx hc hc2 (by omega) m1 h0
theorem trivetref01_Quotient.num (k : Nat) (x c mode : Int) (hx : M.abs x < 65536 ^ 15) (hc : c ≠ 0) (hc2 : M.abs c < 65536 ^ 15) (hk : 7500 ≤ k) :
  trivetref01_Quotient.f k (U.num x).1 (U.num x).2 (U.num c).1 (U.num c).2 mode = some (U.num (M.quo x c mode)) := by
 have p32 : (65536 : Int) ^ 15 * 4 < 65536 ^ 64 := by decide
 have hs : (U.num c).2 = decide (c < 0) := rfl
 unfold trivetref01_Quotient.f
 by_cases h : c < 0
 ·have e : M.abs c = -c := by unfold M.abs; rw [if_pos h]
  have ex : M.abs (-x) = M.abs x := by unfold M.abs; split <;> split <;> omega
  rw [if_pos (by rw [hs]; exact decide_eq_true h), trivetref01_Neg.num k x (by omega) (by omega), Option.bind_some, trivetref01_Neg.num k c (by omega) (by omega), Option.bind_some, Qu.quo_neg h]
  exact trivetref01_Quotient.pos k mode (-x) (-c) (by omega) (by omega) (by omega) hk
 ·have e : M.abs c = c := Qu.abs_pos (by omega)
  rw [if_neg (by rw [hs]; simpa using h)]
  exact trivetref01_Quotient.pos k mode x c hx (by omega) (by omega) hk

/-! ### trivetref01_MulDiv: function 14 -/
def trivetref01_MulDiv.f (k : Nat) (a0 : Int) (a1 : Int) (a2 : Int) (a3 : Int) : Option (Int × Bool) := (trivetref01_Of.f k a0).bind fun bt627 => ((trivetref01_Of.f k a1).bind fun bt631 => ((trivetref01_Mul.f k bt627.1 bt627.2 bt631.1 bt631.2).bind fun bt635 => ((trivetref01_Of.f k a2).bind fun bt639 => ((trivetref01_Quotient.f k bt635.1 bt635.2 bt639.1 bt639.2 a3).bind fun bt643 => ((trivetref01_To.f k bt643.1 bt643.2).bind fun bt647 => (if bt647.2 = true then (some (bt647.1, true)) else (some (0, false))))))))
theorem trivetref01_MulDiv.mono : ∀ a0 a1 a2 a3 k, LeO (trivetref01_MulDiv.f k a0 a1 a2 a3) (trivetref01_MulDiv.f (k + 1) a0 a1 a2 a3) := by
 intro a0 a1 a2 a3 k
 unfold trivetref01_MulDiv.f
 repeat' first
   | (with_reducible exact trivetref01_Mul.mono _ _ _ _ _)
   | (with_reducible exact trivetref01_Of.mono _ _)
   | (with_reducible exact trivetref01_Quotient.mono _ _ _ _ _ _)
   | (with_reducible exact trivetref01_To.mono _ _ _)
   | (with_reducible exact LeO.refl _)
   | (with_reducible exact LeO.none _)
   | (with_reducible refine LeO.ite ?_ ?_)
   | (with_reducible refine LeO.bind ?_ (fun _ => ?_))
   | exact trivetref01_Mul.mono _ _ _ _ _
   | exact trivetref01_Of.mono _ _
   | exact trivetref01_Quotient.mono _ _ _ _ _ _
   | exact trivetref01_To.mono _ _ _
   | exact LeO.none _
   | refine LeO.ite ?_ ?_
   | refine LeO.bind ?_ (fun _ => ?_)
set_option maxHeartbeats 8000000 in
set_option maxRecDepth 100000 in
theorem trivetref01_MulDiv.calls (k : Nat) (a0 : Int) (a1 : Int) (a2 : Int) (a3 : Int) (r1 : Int) (r2 : Bool) (w : World) (h : trivetref01_MulDiv.f k a0 a1 a2 a3 = some (r1, r2)) :
  Calls Try.prog 14 #[.int .i64 a0, .int .i64 a1, .int .i64 a2, .int .i64 a3] w fun e w' => e = .returned (.tuple #[.int .i64 r1, .bool r2]) ∧ Below w.heap.size w w' := by
 have HB := ka (Below.refl w.heap.size w)
 have H : ((trivetref01_Of.f k a0).bind fun bt627 => ((trivetref01_Of.f k a1).bind fun bt631 => ((trivetref01_Mul.f k bt627.1 bt627.2 bt631.1 bt631.2).bind fun bt635 => ((trivetref01_Of.f k a2).bind fun bt639 => ((trivetref01_Quotient.f k bt635.1 bt635.2 bt639.1 bt639.2 a3).bind fun bt643 => ((trivetref01_To.f k bt643.1 bt643.2).bind fun bt647 => (if bt647.2 = true then (some (bt647.1, true)) else (some (0, false))))))))) = some (r1, r2) := h
 clear h
 replace H := Option.bind_eq_some_iff.mp H
 obtain ⟨⟨t627, t630⟩, A50, H⟩ := H
 replace H : ((trivetref01_Of.f k a1).bind fun bt631 => ((trivetref01_Mul.f k t627 t630 bt631.1 bt631.2).bind fun bt635 => ((trivetref01_Of.f k a2).bind fun bt639 => ((trivetref01_Quotient.f k bt635.1 bt635.2 bt639.1 bt639.2 a3).bind fun bt643 => ((trivetref01_To.f k bt643.1 bt643.2).bind fun bt647 => (if bt647.2 = true then (some (bt647.1, true)) else (some (0, false)))))))) = some (r1, r2) := H
 have A5 := ka A50
 clear A50
 replace H := Option.bind_eq_some_iff.mp H
 obtain ⟨⟨t631, t634⟩, A60, H⟩ := H
 replace H : ((trivetref01_Mul.f k t627 t630 t631 t634).bind fun bt635 => ((trivetref01_Of.f k a2).bind fun bt639 => ((trivetref01_Quotient.f k bt635.1 bt635.2 bt639.1 bt639.2 a3).bind fun bt643 => ((trivetref01_To.f k bt643.1 bt643.2).bind fun bt647 => (if bt647.2 = true then (some (bt647.1, true)) else (some (0, false))))))) = some (r1, r2) := H
 have A6 := ka A60
 clear A60
 replace H := Option.bind_eq_some_iff.mp H
 obtain ⟨⟨t635, t638⟩, A70, H⟩ := H
 replace H : ((trivetref01_Of.f k a2).bind fun bt639 => ((trivetref01_Quotient.f k t635 t638 bt639.1 bt639.2 a3).bind fun bt643 => ((trivetref01_To.f k bt643.1 bt643.2).bind fun bt647 => (if bt647.2 = true then (some (bt647.1, true)) else (some (0, false)))))) = some (r1, r2) := H
 have A7 := ka A70
 clear A70
 replace H := Option.bind_eq_some_iff.mp H
 obtain ⟨⟨t639, t642⟩, A80, H⟩ := H
 replace H : ((trivetref01_Quotient.f k t635 t638 t639 t642 a3).bind fun bt643 => ((trivetref01_To.f k bt643.1 bt643.2).bind fun bt647 => (if bt647.2 = true then (some (bt647.1, true)) else (some (0, false))))) = some (r1, r2) := H
 have A8 := ka A80
 clear A80
 replace H := Option.bind_eq_some_iff.mp H
 obtain ⟨⟨t643, t646⟩, A90, H⟩ := H
 replace H : ((trivetref01_To.f k t643 t646).bind fun bt647 => (if bt647.2 = true then (some (bt647.1, true)) else (some (0, false)))) = some (r1, r2) := H
 have A9 := ka A90
 clear A90
 replace H := Option.bind_eq_some_iff.mp H
 obtain ⟨⟨t647, t648⟩, A100, H⟩ := H
 replace H : (if t648 = true then (some (t647, true)) else (some (0, false))) = some (r1, r2) := H
 have A10 := ka A100
 clear A100
 by_cases c11 : t648 = true
 ·subst c11
  have H1 : (some (t647, true)) = some (r1, r2) := by rw [if_pos rfl] at H; exact H
  clear H
  have H := H1
  clear H1
  simp only [Option.some.injEq, Prod.mk.injEq] at H
  obtain ⟨rfl, rfl⟩ := H
  go_enter Try.func14, Try.ntmps14
  go_wp2_with (first | ((with_reducible refine gate_callee (f := 18) rfl ?_); refine kg (some 14) rfl rfl Try.func18 (by kernel_rfl) rfl #[.int .i64 a0] rfl ?_; (with_reducible refine (trivetref01_Of.calls k a0 t627 t630 _ A5.out).mono ?_); rintro e w12 ⟨v628, rfl, ho0, hb⟩; refine ⟨_, rfl, ?_⟩; have HO629 := ka (Kd.V_lower (Kd.V_mono (ok' := fun k_ => True) ho0 (fun k_ hk_ => trivial)) (below_size (kw HB.out))); replace HB := ka (below_step (kw HB.out) hb); (try clear hb); (try clear hb2); (try clear hk); (try clear hi); (try clear ho0)) | ((with_reducible refine gate_callee (f := 18) rfl ?_); refine kg (some 16) rfl rfl Try.func18 (by kernel_rfl) rfl #[.int .i64 a1] rfl ?_; (with_reducible refine (trivetref01_Of.calls k a1 t631 t634 _ A6.out).mono ?_); rintro e w13 ⟨v632, rfl, ho0, hb⟩; refine ⟨_, rfl, ?_⟩; replace HO629 := kvb HO629 hb; have HO633 := ka (Kd.V_lower (Kd.V_mono (ok' := fun k_ => True) ho0 (fun k_ hk_ => trivial)) (below_size (kw HB.out))); replace HB := ka (below_step (kw HB.out) hb); (try clear hb); (try clear hb2); (try clear hk); (try clear hi); (try clear ho0); obtain ⟨Ao14, co14, eo14⟩ := Kd.V_slice HO629.out; subst eo14; obtain ⟨Ao15, co15, eo15⟩ := Kd.V_slice HO633.out; subst eo15) | ((with_reducible refine gate_callee (f := 22) rfl ?_); refine kg (some 17) rfl rfl Try.func22 (by kernel_rfl) rfl #[.agg #[.slice Ao14 t627.length co14, .bool t630], .agg #[.slice Ao15 t631.length co15, .bool t634]] rfl ?_; (with_reducible refine (trivetref01_Mul.calls k _ _ t627 t630 _ _ t631 t634 t635 t638 _ ?side1 ?side2 ?side3 ?side4 A7.out).mono ?_); (case side1 => repeat (first | exact (Kd.V_reads' HO629.out).2.2 | (with_reducible refine Kd.C_alloc ?_ _) | (with_reducible refine Kd.C_drewN ?_ _) | (with_reducible refine Kd.C_drew ?_))); (case side2 => exact (Kd.V_reads' HO629.out).2.1); (case side3 => repeat (first | exact (Kd.V_reads' HO633.out).2.2 | (with_reducible refine Kd.C_alloc ?_ _) | (with_reducible refine Kd.C_drewN ?_ _) | (with_reducible refine Kd.C_drew ?_))); (case side4 => exact (Kd.V_reads' HO633.out).2.1); rintro e w16 ⟨v636, rfl, ho0, hb⟩; refine ⟨_, rfl, ?_⟩; replace HO629 := kvb HO629 hb; replace HO633 := kvb HO633 hb; have HO637 := ka (Kd.V_lower (Kd.V_mono (ok' := fun k_ => True) ho0 (fun k_ hk_ => trivial)) (below_size (kw HB.out))); replace HB := ka (below_step (kw HB.out) hb); (try clear hb); (try clear hb2); (try clear hk); (try clear hi); (try clear ho0)) | ((with_reducible refine gate_callee (f := 18) rfl ?_); refine kg (some 19) rfl rfl Try.func18 (by kernel_rfl) rfl #[.int .i64 a2] rfl ?_; (with_reducible refine (trivetref01_Of.calls k a2 t639 t642 _ A8.out).mono ?_); rintro e w17 ⟨v640, rfl, ho0, hb⟩; refine ⟨_, rfl, ?_⟩; replace HO629 := kvb HO629 hb; replace HO633 := kvb HO633 hb; replace HO637 := kvb HO637 hb; have HO641 := ka (Kd.V_lower (Kd.V_mono (ok' := fun k_ => True) ho0 (fun k_ hk_ => trivial)) (below_size (kw HB.out))); replace HB := ka (below_step (kw HB.out) hb); (try clear hb); (try clear hb2); (try clear hk); (try clear hi); (try clear ho0); obtain ⟨Ao18, co18, eo18⟩ := Kd.V_slice HO637.out; subst eo18; obtain ⟨Ao19, co19, eo19⟩ := Kd.V_slice HO641.out; subst eo19) | ((with_reducible refine gate_callee (f := 30) rfl ?_); refine kg (some 21) rfl rfl Try.func30 (by kernel_rfl) rfl #[.agg #[.slice Ao18 t635.length co18, .bool t638], .agg #[.slice Ao19 t639.length co19, .bool t642], .int .i64 a3] rfl ?_; (with_reducible refine (trivetref01_Quotient.calls k (fun k_ => True) _ _ t635 t638 (fun k_ => True) _ _ t639 t642 a3 t643 t646 _ ?side1 ?side2 A9.out).mono ?_); (case side1 => exact HO637.out); (case side2 => exact HO641.out); rintro e w20 ⟨v644, rfl, ho0, hb⟩; refine ⟨_, rfl, ?_⟩; replace HO629 := kvb HO629 hb; replace HO633 := kvb HO633 hb; replace HO637 := kvb HO637 hb; replace HO641 := kvb HO641 hb; have HO645 := ka (Kd.V_lower (Kd.V_mono (ok' := fun k_ => True) ho0 (fun k_ hk_ => trivial)) (below_size (kw HB.out))); replace HB := ka (below_step (kw HB.out) hb); (try clear hb); (try clear hb2); (try clear hk); (try clear hi); (try clear ho0); obtain ⟨Ao21, co21, eo21⟩ := Kd.V_slice HO645.out; subst eo21) | ((with_reducible refine gate_callee (f := 29) rfl ?_); refine kg (some 22) rfl rfl Try.func29 (by kernel_rfl) rfl #[.agg #[.slice Ao21 t643.length co21, .bool t646]] rfl ?_; (with_reducible refine (trivetref01_To.calls k _ _ t643 t646 t647 true _ ?side1 ?side2 A10.out).mono ?_); (case side1 => repeat (first | exact (Kd.V_reads' HO645.out).2.2 | (with_reducible refine Kd.C_alloc ?_ _) | (with_reducible refine Kd.C_drewN ?_ _) | (with_reducible refine Kd.C_drew ?_))); (case side2 => exact (Kd.V_reads' HO645.out).2.1); rintro e w22 ⟨rfl, hb⟩; refine ⟨_, rfl, ?_⟩; replace HO629 := kvb HO629 hb; replace HO633 := kvb HO633 hb; replace HO637 := kvb HO637 hb; replace HO641 := kvb HO641 hb; replace HO645 := kvb HO645 hb; replace HB := ka (below_step (kw HB.out) hb); (try clear hb); (try clear hb2); (try clear hk); (try clear hi)))
  go_ret2
  exact ⟨by first | rfl | (simp [errW_none, errW_some] <;> rfl) | (simp [*, errW_none, errW_some] <;> rfl), by repeat (first | (with_reducible first | exact HB.out | apply kc1 | apply kc2 | apply kc3) | exact HB.out)⟩
 ·replace c11 := Bool.eq_false_iff.mpr c11
  subst c11
  have H1 : (some (0, false)) = some (r1, r2) := by rw [if_neg (show ¬ (false = true) by decide)] at H; exact H
  clear H
  have H := H1
  clear H1
  simp only [Option.some.injEq, Prod.mk.injEq] at H
  obtain ⟨rfl, rfl⟩ := H
  go_enter Try.func14, Try.ntmps14
  go_wp2_with (first | ((with_reducible refine gate_callee (f := 18) rfl ?_); refine kg (some 14) rfl rfl Try.func18 (by kernel_rfl) rfl #[.int .i64 a0] rfl ?_; (with_reducible refine (trivetref01_Of.calls k a0 t627 t630 _ A5.out).mono ?_); rintro e w23 ⟨v628, rfl, ho0, hb⟩; refine ⟨_, rfl, ?_⟩; have HO629 := ka (Kd.V_lower (Kd.V_mono (ok' := fun k_ => True) ho0 (fun k_ hk_ => trivial)) (below_size (kw HB.out))); replace HB := ka (below_step (kw HB.out) hb); (try clear hb); (try clear hb2); (try clear hk); (try clear hi); (try clear ho0)) | ((with_reducible refine gate_callee (f := 18) rfl ?_); refine kg (some 16) rfl rfl Try.func18 (by kernel_rfl) rfl #[.int .i64 a1] rfl ?_; (with_reducible refine (trivetref01_Of.calls k a1 t631 t634 _ A6.out).mono ?_); rintro e w24 ⟨v632, rfl, ho0, hb⟩; refine ⟨_, rfl, ?_⟩; replace HO629 := kvb HO629 hb; have HO633 := ka (Kd.V_lower (Kd.V_mono (ok' := fun k_ => True) ho0 (fun k_ hk_ => trivial)) (below_size (kw HB.out))); replace HB := ka (below_step (kw HB.out) hb); (try clear hb); (try clear hb2); (try clear hk); (try clear hi); (try clear ho0); obtain ⟨Ao25, co25, eo25⟩ := Kd.V_slice HO629.out; subst eo25; obtain ⟨Ao26, co26, eo26⟩ := Kd.V_slice HO633.out; subst eo26) | ((with_reducible refine gate_callee (f := 22) rfl ?_); refine kg (some 17) rfl rfl Try.func22 (by kernel_rfl) rfl #[.agg #[.slice Ao25 t627.length co25, .bool t630], .agg #[.slice Ao26 t631.length co26, .bool t634]] rfl ?_; (with_reducible refine (trivetref01_Mul.calls k _ _ t627 t630 _ _ t631 t634 t635 t638 _ ?side1 ?side2 ?side3 ?side4 A7.out).mono ?_); (case side1 => repeat (first | exact (Kd.V_reads' HO629.out).2.2 | (with_reducible refine Kd.C_alloc ?_ _) | (with_reducible refine Kd.C_drewN ?_ _) | (with_reducible refine Kd.C_drew ?_))); (case side2 => exact (Kd.V_reads' HO629.out).2.1); (case side3 => repeat (first | exact (Kd.V_reads' HO633.out).2.2 | (with_reducible refine Kd.C_alloc ?_ _) | (with_reducible refine Kd.C_drewN ?_ _) | (with_reducible refine Kd.C_drew ?_))); (case side4 => exact (Kd.V_reads' HO633.out).2.1); rintro e w27 ⟨v636, rfl, ho0, hb⟩; refine ⟨_, rfl, ?_⟩; replace HO629 := kvb HO629 hb; replace HO633 := kvb HO633 hb; have HO637 := ka (Kd.V_lower (Kd.V_mono (ok' := fun k_ => True) ho0 (fun k_ hk_ => trivial)) (below_size (kw HB.out))); replace HB := ka (below_step (kw HB.out) hb); (try clear hb); (try clear hb2); (try clear hk); (try clear hi); (try clear ho0)) | ((with_reducible refine gate_callee (f := 18) rfl ?_); refine kg (some 19) rfl rfl Try.func18 (by kernel_rfl) rfl #[.int .i64 a2] rfl ?_; (with_reducible refine (trivetref01_Of.calls k a2 t639 t642 _ A8.out).mono ?_); rintro e w28 ⟨v640, rfl, ho0, hb⟩; refine ⟨_, rfl, ?_⟩; replace HO629 := kvb HO629 hb; replace HO633 := kvb HO633 hb; replace HO637 := kvb HO637 hb; have HO641 := ka (Kd.V_lower (Kd.V_mono (ok' := fun k_ => True) ho0 (fun k_ hk_ => trivial)) (below_size (kw HB.out))); replace HB := ka (below_step (kw HB.out) hb); (try clear hb); (try clear hb2); (try clear hk); (try clear hi); (try clear ho0); obtain ⟨Ao29, co29, eo29⟩ := Kd.V_slice HO637.out; subst eo29; obtain ⟨Ao30, co30, eo30⟩ := Kd.V_slice HO641.out; subst eo30) | ((with_reducible refine gate_callee (f := 30) rfl ?_); refine kg (some 21) rfl rfl Try.func30 (by kernel_rfl) rfl #[.agg #[.slice Ao29 t635.length co29, .bool t638], .agg #[.slice Ao30 t639.length co30, .bool t642], .int .i64 a3] rfl ?_; (with_reducible refine (trivetref01_Quotient.calls k (fun k_ => True) _ _ t635 t638 (fun k_ => True) _ _ t639 t642 a3 t643 t646 _ ?side1 ?side2 A9.out).mono ?_); (case side1 => exact HO637.out); (case side2 => exact HO641.out); rintro e w31 ⟨v644, rfl, ho0, hb⟩; refine ⟨_, rfl, ?_⟩; replace HO629 := kvb HO629 hb; replace HO633 := kvb HO633 hb; replace HO637 := kvb HO637 hb; replace HO641 := kvb HO641 hb; have HO645 := ka (Kd.V_lower (Kd.V_mono (ok' := fun k_ => True) ho0 (fun k_ hk_ => trivial)) (below_size (kw HB.out))); replace HB := ka (below_step (kw HB.out) hb); (try clear hb); (try clear hb2); (try clear hk); (try clear hi); (try clear ho0); obtain ⟨Ao32, co32, eo32⟩ := Kd.V_slice HO645.out; subst eo32) | ((with_reducible refine gate_callee (f := 29) rfl ?_); refine kg (some 22) rfl rfl Try.func29 (by kernel_rfl) rfl #[.agg #[.slice Ao32 t643.length co32, .bool t646]] rfl ?_; (with_reducible refine (trivetref01_To.calls k _ _ t643 t646 t647 false _ ?side1 ?side2 A10.out).mono ?_); (case side1 => repeat (first | exact (Kd.V_reads' HO645.out).2.2 | (with_reducible refine Kd.C_alloc ?_ _) | (with_reducible refine Kd.C_drewN ?_ _) | (with_reducible refine Kd.C_drew ?_))); (case side2 => exact (Kd.V_reads' HO645.out).2.1); rintro e w33 ⟨rfl, hb⟩; refine ⟨_, rfl, ?_⟩; replace HO629 := kvb HO629 hb; replace HO633 := kvb HO633 hb; replace HO637 := kvb HO637 hb; replace HO641 := kvb HO641 hb; replace HO645 := kvb HO645 hb; replace HB := ka (below_step (kw HB.out) hb); (try clear hb); (try clear hb2); (try clear hk); (try clear hi)))
  go_ret2
  exact ⟨by first | rfl | (simp [errW_none, errW_some] <;> rfl) | (simp [*, errW_none, errW_some] <;> rfl), by repeat (first | (with_reducible first | exact HB.out | apply kc1 | apply kc2 | apply kc3) | exact HB.out)⟩

/-! ### trivetref01_MulDiv: function 14, its laws -/
theorem trivetref01_MulDiv.num (k : Nat) (a b c mode : Int) (ha : M.In a) (hb : M.In b) (hc : M.In c) (h0 : c ≠ 0) (hk : 7500 ≤ k) :
  trivetref01_MulDiv.f k a b c mode = some (if M.In (M.quo (a * b) c mode) then (M.quo (a * b) c mode, true) else (0, false)) := by
 have p8 : (9223372036854775808 : Int) * 9223372036854775808 < 65536 ^ 15 := by decide
 have p1 : (9223372036854775808 : Int) < 65536 ^ 15 := by decide
 have p15 : (65536 : Int) ^ 15 < 65536 ^ 32 := by decide
 have p20 : (65536 : Int) ^ 15 * 2 < 65536 ^ 64 := by decide
 have ha' : M.abs a ≤ 9223372036854775808 := by unfold M.In at ha; unfold M.abs; split <;> omega
 have hb' : M.abs b ≤ 9223372036854775808 := by unfold M.In at hb; unfold M.abs; split <;> omega
 have hc' : M.abs c ≤ 9223372036854775808 := by unfold M.In at hc; unfold M.abs; split <;> omega
 have hab : M.abs (a * b) ≤ 9223372036854775808 * 9223372036854775808 := by
  have e : M.abs (a * b) = M.abs a * M.abs b := by
   unfold M.abs
   by_cases h : a < 0
   ·by_cases g : b < 0
    ·rw [if_neg (show ¬ a * b < 0 from Int.not_lt.mpr (Int.mul_nonneg_of_nonpos_of_nonpos (by omega) (by omega))), if_pos h, if_pos g, Int.neg_mul_neg]
    ·rw [if_pos h, if_neg g, Int.neg_mul]
     have := Int.mul_nonneg (show 0 ≤ -a by omega) (show 0 ≤ b by omega)
     rw [Int.neg_mul] at this
     split <;> omega
   ·by_cases g : b < 0
    ·rw [if_neg h, if_pos g, Int.mul_neg]
     have := Int.mul_nonneg (show 0 ≤ a by omega) (show 0 ≤ -b by omega)
     rw [Int.mul_neg] at this
     split <;> omega
    ·rw [if_neg (show ¬ a * b < 0 from Int.not_lt.mpr (Int.mul_nonneg (by omega) (by omega))), if_neg h, if_neg g]
  rw [e]
  exact Int.mul_le_mul ha' hb' (U.abs_nonneg b) (by decide)
 have hq : M.abs (M.quo (a * b) c mode) < 65536 ^ 64 := by
  have key : ∀ x d : Int, 0 < d → M.abs x < 65536 ^ 15 → M.abs (M.quo x d mode) < 65536 ^ 64 := by
   intro x d hd hx
   have h1 := Qu.abs_div (x := x) hd
   have h3 : M.abs (x / d + 1) ≤ M.abs (x / d) + 1 := by unfold M.abs; split <;> split <;> omega
   have h4 : M.quo x d mode = x / d ∨ M.quo x d mode = x / d + 1 := by
    rw [Qu.quo_pos hd]
    split
    ·exact .inl rfl
    ·split
     ·exact .inr rfl
     ·split
      ·exact .inl rfl
      ·split
       ·exact .inr rfl
       ·split
        ·exact .inl rfl
        ·exact .inr rfl
   rcases h4 with h4 | h4 <;> rw [h4] <;> omega
  by_cases g : c < 0
  ·rw [Qu.quo_neg g]
   refine key _ _ (by omega) ?_
   have : M.abs (-(a * b)) = M.abs (a * b) := by unfold M.abs; split <;> split <;> omega
   omega
  ·exact key _ _ (by omega) (by omega)
 unfold trivetref01_MulDiv.f
 rw [trivetref01_Of.num k a ha (by omega), Option.bind_some, trivetref01_Of.num k b hb (by omega), Option.bind_some, trivetref01_Mul.num k a b (by omega) (by omega) (by omega), Option.bind_some, trivetref01_Of.num k c hc (by omega), Option.bind_some, trivetref01_Quotient.num k (a * b) c mode (by omega) h0 (by omega) hk, Option.bind_some]
 obtain ⟨v, t1, t2⟩ := trivetref01_To.num k (M.quo (a * b) c mode) (by omega) hq
 rw [t1, Option.bind_some]
 by_cases hin : M.In (M.quo (a * b) c mode)
 ·rw [if_pos (decide_eq_true hin), if_pos hin, t2 hin]
 ·rw [if_neg (by simpa using hin), if_neg hin]

/-! ### trivetlaw01_CentsQuotients: function 3 -/
def trivetlaw01_CentsQuotients.j0 : Nat → Int → Int → Int → Int → Bool → Int → Option Int → Bool → Option (Bool)
 | 0, _, _, _, _, _, _, _, _ => none
 | k + 1, x0, x1, x2, x3, x9, x10, x11, x32 => if x32 = true then (if x9 = true then (if x11.isNone = true then (none) else (if (x11.getD 0) = 1 then (some (x10 == 0)) else (none))) else (none)) else ((trivetref01_MulDiv.f k x0 x1 x2 x3).bind fun bt653 => (if bt653.2 = true then (if x9 = true then (if x11.isNone = true then (some (x10 == bt653.1)) else (none)) else (none)) else (if x9 = true then (if x11.isNone = true then (none) else (if (x11.getD 0) = 3 then (some (x10 == 0)) else (none))) else (none))))
def trivetlaw01_CentsQuotients.f (k : Nat) (a0 : Int) (a1 : Int) (a2 : Int) (a3 : Int) : Option (Bool) := (trivetlaw01_up_s.f).bind fun t649 => ((cents_MulDiv_s.f a0 a1 a2 a3).bind fun bt650 => (if a2 = 0 then (trivetlaw01_CentsQuotients.j0 k a0 a1 a2 a3 t649 bt650.1 bt650.2 true) else (if a3 < 1 then (trivetlaw01_CentsQuotients.j0 k a0 a1 a2 a3 t649 bt650.1 bt650.2 true) else (trivetlaw01_CentsQuotients.j0 k a0 a1 a2 a3 t649 bt650.1 bt650.2 (decide (a3 > 4))))))
theorem trivetlaw01_CentsQuotients.mono_l : ∀ k, (∀ y0 y1 y2 y3 y4 y5 y6 y7, LeO (trivetlaw01_CentsQuotients.j0 k y0 y1 y2 y3 y4 y5 y6 y7) (trivetlaw01_CentsQuotients.j0 (k + 1) y0 y1 y2 y3 y4 y5 y6 y7))
 | 0 => fun _ _ _ _ _ _ _ _ r h => by simp [trivetlaw01_CentsQuotients.j0] at h
 | k + 1 => by
  have ih0 := trivetlaw01_CentsQuotients.mono_l k
  ·intro y0 y1 y2 y3 y4 y5 y6 y7
   unfold trivetlaw01_CentsQuotients.j0
   repeat' first
   | (with_reducible exact ih0 _ _ _ _ _ _ _ _)
   | (with_reducible exact trivetref01_MulDiv.mono _ _ _ _ _)
   | (with_reducible exact LeO.refl _)
   | (with_reducible exact LeO.none _)
   | (with_reducible refine LeO.ite ?_ ?_)
   | (with_reducible refine LeO.bind ?_ (fun _ => ?_))
   | exact ih0 _ _ _ _ _ _ _ _
   | exact trivetref01_MulDiv.mono _ _ _ _ _
   | exact LeO.none _
   | refine LeO.ite ?_ ?_
   | refine LeO.bind ?_ (fun _ => ?_)
theorem trivetlaw01_CentsQuotients.mono : ∀ a0 a1 a2 a3 k, LeO (trivetlaw01_CentsQuotients.f k a0 a1 a2 a3) (trivetlaw01_CentsQuotients.f (k + 1) a0 a1 a2 a3) := by
 intro a0 a1 a2 a3 k
 have ih0 := trivetlaw01_CentsQuotients.mono_l k
 unfold trivetlaw01_CentsQuotients.f
 repeat' first
   | (with_reducible exact ih0 _ _ _ _ _ _ _ _)
   | (with_reducible exact trivetref01_MulDiv.mono _ _ _ _ _)
   | (with_reducible exact LeO.refl _)
   | (with_reducible exact LeO.none _)
   | (with_reducible refine LeO.ite ?_ ?_)
   | (with_reducible refine LeO.bind ?_ (fun _ => ?_))
   | exact ih0 _ _ _ _ _ _ _ _
   | exact trivetref01_MulDiv.mono _ _ _ _ _
   | exact LeO.none _
   | refine LeO.ite ?_ ?_
   | refine LeO.bind ?_ (fun _ => ?_)
set_option maxHeartbeats 8000000 in
set_option maxRecDepth 100000 in
theorem trivetlaw01_CentsQuotients.calls (k : Nat) (a0 : Int) (a1 : Int) (a2 : Int) (a3 : Int) (r : Bool) (w : World) (h : trivetlaw01_CentsQuotients.f k a0 a1 a2 a3 = some r) :
  Calls Try.prog 3 #[.int .i64 a0, .int .i64 a1, .int .i64 a2, .int .i64 a3] w fun e w' => e = .returned (.bool r) ∧ Below w.heap.size w w' := by
 have hu24 := Try.underlying24
 have hu27 := Try.underlying27
 have HB := ka (Below.refl w.heap.size w)
 have H : ((trivetlaw01_up_s.f).bind fun t649 => ((cents_MulDiv_s.f a0 a1 a2 a3).bind fun bt650 => (if a2 = 0 then (trivetlaw01_CentsQuotients.j0 k a0 a1 a2 a3 t649 bt650.1 bt650.2 true) else (if a3 < 1 then (trivetlaw01_CentsQuotients.j0 k a0 a1 a2 a3 t649 bt650.1 bt650.2 true) else (trivetlaw01_CentsQuotients.j0 k a0 a1 a2 a3 t649 bt650.1 bt650.2 (decide (a3 > 4))))))) = some r := h
 clear h
 replace H := Option.bind_eq_some_iff.mp H
 obtain ⟨t649, A50, H⟩ := H
 replace H : ((cents_MulDiv_s.f a0 a1 a2 a3).bind fun bt650 => (if a2 = 0 then (trivetlaw01_CentsQuotients.j0 k a0 a1 a2 a3 t649 bt650.1 bt650.2 true) else (if a3 < 1 then (trivetlaw01_CentsQuotients.j0 k a0 a1 a2 a3 t649 bt650.1 bt650.2 true) else (trivetlaw01_CentsQuotients.j0 k a0 a1 a2 a3 t649 bt650.1 bt650.2 (decide (a3 > 4)))))) = some r := H
 have A5 := ka A50
 clear A50
 replace H := Option.bind_eq_some_iff.mp H
 obtain ⟨⟨t650, t651⟩, A60, H⟩ := H
 replace H : (if a2 = 0 then (trivetlaw01_CentsQuotients.j0 k a0 a1 a2 a3 t649 t650 t651 true) else (if a3 < 1 then (trivetlaw01_CentsQuotients.j0 k a0 a1 a2 a3 t649 t650 t651 true) else (trivetlaw01_CentsQuotients.j0 k a0 a1 a2 a3 t649 t650 t651 (decide (a3 > 4))))) = some r := H
 have A6 := ka A60
 clear A60
 have HC7 := ka H
 clear H
 go_enter Try.func3, Try.ntmps3
 go_upto_region 3 with (first | ((with_reducible refine gate_callee (f := 12) rfl ?_); refine kg (some 14) rfl rfl Try.func12 (by kernel_rfl) rfl #[] rfl ?_; (with_reducible refine (trivetlaw01_up_s.calls  t649 _ A5.out).mono ?_); rintro e w' ⟨rfl, ⟨nd, rfl⟩⟩; refine ⟨_, rfl, ?_⟩) | ((with_reducible refine gate_callee (f := 13) rfl ?_); refine kg (some 20) rfl rfl Try.func13 (by kernel_rfl) rfl #[.int .i64 a0, .int .i64 a1, .int .i64 a2, .int .i64 a3] rfl ?_; (with_reducible refine (cents_MulDiv_s.calls a0 a1 a2 a3 t650 t651 _ A6.out).mono ?_); rintro e w' ⟨rfl, ⟨nd, rfl⟩⟩; refine ⟨_, rfl, ?_⟩; (try simp only [errW_none, errW_some])))
 (try simp only [Act.put, List.setIfInBounds_toArray, List.set_cons_zero, List.set_cons_succ])
 go_cut [32] (fun v32 wc => ∃ (kq : Nat) (x32_6 : Bool), v32 = .bool x32_6 ∧ Aside0 (trivetlaw01_CentsQuotients.j0 kq a0 a1 a2 a3 t649 t650 t651 x32_6 = some r) ∧ Aside0 (kq ≤ k) ∧ Aside0 (Below w.heap.size w wc))
 case first =>
  have H := HC7.out
  clear HC7
  by_cases c8 : a2 = 0
  ·rw [if_pos c8] at H
   have c8b0 : (a2 == 0) = true := beq_iff_eq.mpr c8
   have c8b1 : (a2 != 0) = false := bne_eq_false_iff_eq.mpr c8
   clear c8
   (first | rw [c8b0] | (simp only [i64_w, i32_w]; rw [c8b0]) | skip)
   have H' := ka H
   clear H
   go_wp2
   go_meet
   case rel => exact ⟨_, (true), (by first | rfl | (simp; done) | (simp [*]; done)), H', ⟨by first | omega | exact Nat.le_refl _⟩, ⟨by repeat (first | (with_reducible first | exact HB.out | apply kc1 | apply kc2 | apply kc3) | exact HB.out)⟩⟩
  ·rw [if_neg c8] at H
   have c8b0 : (a2 == 0) = false := beq_eq_false_iff_ne.mpr c8
   have c8b1 : (a2 != 0) = true := bne_iff_ne.mpr c8
   (first | rw [c8b0] | (simp only [i64_w, i32_w]; rw [c8b0]) | skip)
   by_cases c9 : a3 < 1
   ·rw [if_pos c9] at H
    have c9b0 : decide (a3 < 1) = true := decide_eq_true c9
    clear c9
    have H' := ka H
    clear H
    go_wp2
    go_meet
    case rel => exact ⟨_, (true), (by first | rfl | (simp; done) | (simp [*]; done)), H', ⟨by first | omega | exact Nat.le_refl _⟩, ⟨by repeat (first | (with_reducible first | exact HB.out | apply kc1 | apply kc2 | apply kc3) | exact HB.out)⟩⟩
   ·rw [if_neg c9] at H
    have c9b0 : decide (a3 < 1) = false := decide_eq_false c9
    clear c9
    have H' := ka H
    clear H
    go_wp2
    go_meet
    case rel => exact ⟨_, (decide (a3 > 4)), (by first | rfl | (simp; done) | (simp [*]; done)), H', ⟨by first | omega | exact Nat.le_refl _⟩, ⟨by repeat (first | (with_reducible first | exact HB.out | apply kc1 | apply kc2 | apply kc3) | exact HB.out)⟩⟩
 case rest =>
  clear HC7
  try clear c1
  try clear p2
  try clear c3
  try clear c8
  try clear c8b0
  try clear c8b1
  try clear c9
  try clear c9b0
  obtain ⟨kq, x32_6, rfl, HA, HJ6, HB⟩ := hcut
  cases kq with
  | zero => exact absurd HA.out (by simp [trivetlaw01_CentsQuotients.j0])
  | succ kj6 =>
   have H := HA.out
   clear HA
   simp only [trivetlaw01_CentsQuotients.j0] at H
   by_cases c10 : x32_6 = true
   ·subst c10
    have H1 : (if t649 = true then (if t651.isNone = true then (none) else (if (t651.getD 0) = 1 then (some (t650 == 0)) else (none))) else (none)) = some r := by rw [if_pos rfl] at H; exact H
    clear H
    have H := H1
    clear H1
    by_cases c11 : t649 = true
    ·subst c11
     have H1 : (if t651.isNone = true then (none) else (if (t651.getD 0) = 1 then (some (t650 == 0)) else (none))) = some r := by rw [if_pos rfl] at H; exact H
     clear H
     have H := H1
     clear H1
     rcases t651 with _ | q652
     ·have H1 : (none) = some r := by rw [if_pos (show (none : Option Int).isNone = true by rfl)] at H; exact H
      clear H
      have H := H1
      clear H1
      try simp only [errW_none, errW_some]
      exact absurd H (by simp)
     ·have H1 : (if q652 = 1 then (some (t650 == 0)) else (none)) = some r := by rw [if_neg (show ¬ (some q652).isNone = true by simp)] at H; exact H
      clear H
      have H := H1
      clear H1
      try simp only [errW_none, errW_some]
      by_cases c12 : q652 = 1
      ·rw [if_pos c12] at H
       have c12b0 : (q652 == 1) = true := beq_iff_eq.mpr c12
       have c12b1 : (q652 != 1) = false := bne_eq_false_iff_eq.mpr c12
       clear c12
       obtain rfl := Option.some.inj H
       go_wp2
       go_ret
       exact ⟨by first | rfl | (simp [errW_none, errW_some] <;> rfl) | (simp [*, errW_none, errW_some] <;> rfl), by repeat (first | (with_reducible first | exact HB.out | apply kc1 | apply kc2 | apply kc3) | exact HB.out)⟩
      ·rw [if_neg c12] at H
       exact absurd H (by simp)
    ·replace c11 := Bool.eq_false_iff.mpr c11
     subst c11
     have H1 : (none) = some r := by rw [if_neg (show ¬ (false = true) by decide)] at H; exact H
     clear H
     have H := H1
     clear H1
     exact absurd H (by simp)
   ·replace c10 := Bool.eq_false_iff.mpr c10
    subst c10
    have H1 : ((trivetref01_MulDiv.f kj6 a0 a1 a2 a3).bind fun bt653 => (if bt653.2 = true then (if t649 = true then (if t651.isNone = true then (some (t650 == bt653.1)) else (none)) else (none)) else (if t649 = true then (if t651.isNone = true then (none) else (if (t651.getD 0) = 3 then (some (t650 == 0)) else (none))) else (none)))) = some r := by rw [if_neg (show ¬ (false = true) by decide)] at H; exact H
    clear H
    have H := H1
    clear H1
    replace H := Option.bind_eq_some_iff.mp H
    obtain ⟨⟨t653, t654⟩, A130, H⟩ := H
    replace H : (if t654 = true then (if t649 = true then (if t651.isNone = true then (some (t650 == t653)) else (none)) else (none)) else (if t649 = true then (if t651.isNone = true then (none) else (if (t651.getD 0) = 3 then (some (t650 == 0)) else (none))) else (none))) = some r := H
    have A13 := ka A130
    clear A130
    by_cases c14 : t654 = true
    ·subst c14
     have H1 : (if t649 = true then (if t651.isNone = true then (some (t650 == t653)) else (none)) else (none)) = some r := by rw [if_pos rfl] at H; exact H
     clear H
     have H := H1
     clear H1
     by_cases c15 : t649 = true
     ·subst c15
      have H1 : (if t651.isNone = true then (some (t650 == t653)) else (none)) = some r := by rw [if_pos rfl] at H; exact H
      clear H
      have H := H1
      clear H1
      rcases t651 with _ | q655
      ·have H1 : (some (t650 == t653)) = some r := by rw [if_pos (show (none : Option Int).isNone = true by rfl)] at H; exact H
       clear H
       have H := H1
       clear H1
       try simp only [errW_none, errW_some]
       obtain rfl := Option.some.inj H
       go_wp2_with (first | ((with_reducible refine gate_callee (f := 14) rfl ?_); refine kg (some 48) rfl rfl Try.func14 (by kernel_rfl) rfl #[.int .i64 a0, .int .i64 a1, .int .i64 a2, .int .i64 a3] rfl ?_; (with_reducible refine (trivetref01_MulDiv.calls kj6 a0 a1 a2 a3 t653 true _ A13.out).mono ?_); rintro e w16 ⟨rfl, hb⟩; refine ⟨_, rfl, ?_⟩; replace HB := ka (below_step (kw HB.out) hb); (try clear hb); (try clear hb2); (try clear hk); (try clear hi)))
       go_ret
       exact ⟨by first | rfl | (simp [errW_none, errW_some] <;> rfl) | (simp [*, errW_none, errW_some] <;> rfl), by repeat (first | (with_reducible first | exact HB.out | apply kc1 | apply kc2 | apply kc3) | exact HB.out)⟩
      ·have H1 : (none) = some r := by rw [if_neg (show ¬ (some q655).isNone = true by simp)] at H; exact H
       clear H
       have H := H1
       clear H1
       try simp only [errW_none, errW_some]
       exact absurd H (by simp)
     ·replace c15 := Bool.eq_false_iff.mpr c15
      subst c15
      have H1 : (none) = some r := by rw [if_neg (show ¬ (false = true) by decide)] at H; exact H
      clear H
      have H := H1
      clear H1
      exact absurd H (by simp)
    ·replace c14 := Bool.eq_false_iff.mpr c14
     subst c14
     have H1 : (if t649 = true then (if t651.isNone = true then (none) else (if (t651.getD 0) = 3 then (some (t650 == 0)) else (none))) else (none)) = some r := by rw [if_neg (show ¬ (false = true) by decide)] at H; exact H
     clear H
     have H := H1
     clear H1
     by_cases c17 : t649 = true
     ·subst c17
      have H1 : (if t651.isNone = true then (none) else (if (t651.getD 0) = 3 then (some (t650 == 0)) else (none))) = some r := by rw [if_pos rfl] at H; exact H
      clear H
      have H := H1
      clear H1
      rcases t651 with _ | q656
      ·have H1 : (none) = some r := by rw [if_pos (show (none : Option Int).isNone = true by rfl)] at H; exact H
       clear H
       have H := H1
       clear H1
       try simp only [errW_none, errW_some]
       exact absurd H (by simp)
      ·have H1 : (if q656 = 3 then (some (t650 == 0)) else (none)) = some r := by rw [if_neg (show ¬ (some q656).isNone = true by simp)] at H; exact H
       clear H
       have H := H1
       clear H1
       try simp only [errW_none, errW_some]
       by_cases c18 : q656 = 3
       ·rw [if_pos c18] at H
        have c18b0 : (q656 == 3) = true := beq_iff_eq.mpr c18
        have c18b1 : (q656 != 3) = false := bne_eq_false_iff_eq.mpr c18
        clear c18
        obtain rfl := Option.some.inj H
        go_wp2_with (first | ((with_reducible refine gate_callee (f := 14) rfl ?_); refine kg (some 48) rfl rfl Try.func14 (by kernel_rfl) rfl #[.int .i64 a0, .int .i64 a1, .int .i64 a2, .int .i64 a3] rfl ?_; (with_reducible refine (trivetref01_MulDiv.calls kj6 a0 a1 a2 a3 t653 false _ A13.out).mono ?_); rintro e w19 ⟨rfl, hb⟩; refine ⟨_, rfl, ?_⟩; replace HB := ka (below_step (kw HB.out) hb); (try clear hb); (try clear hb2); (try clear hk); (try clear hi)))
        go_ret
        exact ⟨by first | rfl | (simp [errW_none, errW_some] <;> rfl) | (simp [*, errW_none, errW_some] <;> rfl), by repeat (first | (with_reducible first | exact HB.out | apply kc1 | apply kc2 | apply kc3) | exact HB.out)⟩
       ·rw [if_neg c18] at H
        exact absurd H (by simp)
     ·replace c17 := Bool.eq_false_iff.mpr c17
      subst c17
      have H1 : (none) = some r := by rw [if_neg (show ¬ (false = true) by decide)] at H; exact H
      clear H
      have H := H1
      clear H1
      exact absurd H (by simp)

/-- THE ONE PURE STATEMENT of trivetlaw01_CentsQuotients: yours. -/
def trivetlaw01_CentsQuotients.Pure : Prop := ∀ (a0 : Int) (a1 : Int) (a2 : Int) (a3 : Int), (Lit.int .i64 a0).wf = true → (Lit.int .i64 a1).wf = true → (Lit.int .i64 a2).wf = true → (Lit.int .i64 a3).wf = true → ∃ k, trivetlaw01_CentsQuotients.f k a0 a1 a2 a3 = some true
theorem trivetlaw01_CentsQuotients.walk (P : trivetlaw01_CentsQuotients.Pure) (a0 : Int) (a1 : Int) (a2 : Int) (a3 : Int) (w : World) (w0 : (Lit.int .i64 a0).wf = true) (w1 : (Lit.int .i64 a1).wf = true) (w2 : (Lit.int .i64 a2).wf = true) (w3 : (Lit.int .i64 a3).wf = true) :
  Calls Try.prog 3 #[.int .i64 a0, .int .i64 a1, .int .i64 a2, .int .i64 a3] w fun e w' => e = .returned (.bool true) ∧ Below w.heap.size w w' := by
 obtain ⟨k, h⟩ := P a0 a1 a2 a3 w0 w1 w2 w3
 refine (trivetlaw01_CentsQuotients.calls k a0 a1 a2 a3 true w h).mono ?_
 rintro e w' ⟨rfl, hd⟩
 exact ⟨rfl, hd⟩

end Go.Proofs.Ytdddiahgkpfikaa.P
