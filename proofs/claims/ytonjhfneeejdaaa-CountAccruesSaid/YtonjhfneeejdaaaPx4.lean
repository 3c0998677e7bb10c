-- Written by a program of this session out of the translation of the seat: Lean functions and the proofs that the Go functions come to them.
import Derived.Test.YtonjhfneeejdaaaPx0
import Derived.Test.YtonjhfneeejdaaaPx1
import Derived.Test.YtonjhfneeejdaaaPx3
namespace Go.Proofs.Ytonjhfneeejdaaa.P
open Go.RowKit Go.Proofs.YtonjhfneeejdaaaW.PrintWords Go.Proofs.YtonjhfneeejdaaaW.PrintLast Go.Proofs.YtonjhfneeejdaaaW.PrintMore
attribute [local go_sem] max2_int min2_int max_two min_two max_three min_three max_four min_four   -- for this text's walks alone
set_option linter.unusedVariables false
set_option linter.unusedSimpArgs false

/-! ### count_Accrue_s: function 12, told plainly -/
theorem count_Accrue.tells (b r d : Int) (mo : Bool) (k : Nat) (hk : 1 ≤ k) : count_Accrue.f k b r d mo = some (if M.accrOk b r d then (M.accr b r d mo, none) else (0, some 1)) := by
 obtain ⟨k, rfl⟩ : ∃ m, k = m + 1 := ⟨k - 1, by omega⟩
 have out : ¬ M.accrOk b r d → count_Accrue.j0 (k + 1) b r d mo true = some (if M.accrOk b r d then (M.accr b r d mo, none) else (0, some 1)) := by
  intro h
  rw [if_neg h]
  simp [count_Accrue.j0]
 unfold count_Accrue.f
 by_cases h1 : b < 0
 ·rw [if_pos h1]; exact out (fun hh => by have := hh.1.1; omega)
 rw [if_neg h1]
 by_cases h2 : b > 10000000000000
 ·rw [if_pos h2]; exact out (fun hh => by have := hh.1.2; omega)
 rw [if_neg h2]
 by_cases h3 : r < 0
 ·rw [if_pos h3]; exact out (fun hh => by have := hh.1.2; omega)
 rw [if_neg h3]
 by_cases h4 : r > 300000
 ·rw [if_pos h4]; exact out (fun hh => by have := hh.1.2; omega)
 rw [if_neg h4]
 by_cases h5 : d < 0
 ·rw [if_pos h5]; exact out (fun hh => by have := hh.2; omega)
 rw [if_neg h5]
 by_cases h6 : d > 40000
 ·rw [decide_eq_true h6]; exact out (fun hh => by have := hh.2; omega)
 rw [decide_eq_false h6]
 have hok : M.accrOk b r d := ⟨⟨by omega, by omega, by omega, by omega⟩, by omega, by omega⟩
 have hp := M.accr_prod hok
 have hb := M.accr_bd (mo := mo) hok
 have hin : M.In (M.accr b r d mo) := by unfold M.In; omega
 simp only [count_Accrue.j0]
 rw [if_neg (by decide), if_pos hok, M.w64_id (n := r * d) (by omega) (by omega)]
 unfold M.accr at hin ⊢
 cases mo
 ·simp only [Bool.false_eq_true, if_false] at hin ⊢
  rw [cents_MulDiv_s.at_ (by unfold M.In; omega) (by unfold M.In; omega) (by decide), if_neg (by decide)]
  have e : (365 : Int) * 1000000 = 365000000 := by decide
  rw [e, M.told_in hin]
  rfl
 ·simp only [if_true] at hin ⊢
  rw [cents_MulDiv_s.at_ (by unfold M.In; omega) (by unfold M.In; omega) (by decide), if_neg (by decide)]
  have e : (360 : Int) * 1000000 = 360000000 := by decide
  rw [e, M.told_in hin]
  rfl
def count_Accrue_s.f (b r d : Int) (mo : Bool) : Option (Int × Option Int) := some (if M.accrOk b r d then (M.accr b r d mo, none) else (0, some 1))
theorem count_Accrue_s.calls (a0 : Int) (a1 : Int) (a2 : Int) (a3 : Bool) (r1 : Int) (r2 : Option Int) (w : World) (h : count_Accrue_s.f a0 a1 a2 a3 = some (r1, r2)) :
  Calls Try.prog 12 #[.int .i64 a0, .int .i64 a1, .int .i64 a2, .bool a3] w fun e w' => e = .returned (.tuple #[.int .i64 r1, errW r2]) ∧ Drawn0 w w' := by
 exact count_Accrue.calls (1) a0 a1 a2 a3 r1 r2 w ((count_Accrue.tells a0 a1 a2 a3 (1) (Nat.le_refl _)).trans h)
theorem count_Accrue_s.yes {b r d : Int} {mo : Bool} (h : M.accrOk b r d) : count_Accrue_s.f b r d mo = some (M.accr b r d mo, none) := by unfold count_Accrue_s.f; rw [if_pos h]
theorem count_Accrue_s.no {b r d : Int} {mo : Bool} (h : ¬ M.accrOk b r d) : count_Accrue_s.f b r d mo = some (0, some 1) := by unfold count_Accrue_s.f; rw [if_neg h]

/-! ### trivetlaw05_up: function 7 -/
def trivetlaw05_up.f  : Option (Bool) := (count_Between_s.f 2024 1 31 2024 2 29 true).bind fun bt438 => ((count_Accrue_s.f 36500000 10000 1 false).bind fun bt440 => (if bt438.2.isNone = true then (if bt438.1 = 29 then (if bt440.2.isNone = true then (some (bt440.1 == 1000)) else (some false)) else (some false)) else (some false)))
set_option maxHeartbeats 8000000 in
set_option maxRecDepth 100000 in
theorem trivetlaw05_up.calls  (r : Bool) (w : World) (h : trivetlaw05_up.f  = some r) :
  Calls Try.prog 7 #[] w fun e w' => e = .returned (.bool r) ∧ Below w.heap.size w w' := by
 have hu23 := Try.underlying23
 have hu26 := Try.underlying26
 have hu30 := Try.underlying30
 have HB := ka (Below.refl w.heap.size w)
 have H : ((count_Between_s.f 2024 1 31 2024 2 29 true).bind fun bt438 => ((count_Accrue_s.f 36500000 10000 1 false).bind fun bt440 => (if bt438.2.isNone = true then (if bt438.1 = 29 then (if bt440.2.isNone = true then (some (bt440.1 == 1000)) else (some false)) else (some false)) else (some false)))) = some r := h
 clear h
 replace H := Option.bind_eq_some_iff.mp H
 obtain ⟨⟨t438, t439⟩, A10, H⟩ := H
 replace H : ((count_Accrue_s.f 36500000 10000 1 false).bind fun bt440 => (if t439.isNone = true then (if t438 = 29 then (if bt440.2.isNone = true then (some (bt440.1 == 1000)) else (some false)) else (some false)) else (some false))) = some r := H
 have A1 := ka A10
 clear A10
 replace H := Option.bind_eq_some_iff.mp H
 obtain ⟨⟨t440, t441⟩, A20, H⟩ := H
 replace H : (if t439.isNone = true then (if t438 = 29 then (if t441.isNone = true then (some (t440 == 1000)) else (some false)) else (some false)) else (some false)) = some r := H
 have A2 := ka A20
 clear A20
 rcases t439 with _ | q442
 ·have H1 : (if t438 = 29 then (if t441.isNone = true then (some (t440 == 1000)) else (some false)) else (some false)) = some r := by rw [if_pos (show (none : Option Int).isNone = true by rfl)] at H; exact H
  clear H
  have H := H1
  clear H1
  try simp only [errW_none, errW_some]
  by_cases c3 : t438 = 29
  ·rw [if_pos c3] at H
   have c3b0 : (t438 == 29) = true := beq_iff_eq.mpr c3
   have c3b1 : (t438 != 29) = false := bne_eq_false_iff_eq.mpr c3
   clear c3
   rcases t441 with _ | q443
   ·have H1 : (some (t440 == 1000)) = some r := by rw [if_pos (show (none : Option Int).isNone = true by rfl)] at H; exact H
    clear H
    have H := H1
    clear H1
    try simp only [errW_none, errW_some]
    obtain rfl := Option.some.inj H
    go_enter Try.func7, Try.ntmps7
    go_wp2_with (first | ((with_reducible refine gate_callee (f := 8) rfl ?_); refine kg (some 8) rfl rfl Try.func8 (by kernel_rfl) rfl #[.agg #[.int .i64 2024, .int .i64 1, .int .i64 31], .agg #[.int .i64 2024, .int .i64 2, .int .i64 29], .bool true] rfl ?_; (with_reducible refine (count_Between_s.calls 2024 1 31 2024 2 29 true t438 none _ A1.out).mono ?_); rintro e w4 ⟨rfl, hb⟩; refine ⟨_, rfl, ?_⟩; replace HB := ka (below_step (kw HB.out) hb); (try clear hb); (try clear hb2); (try clear hk); (try clear hi); (try simp only [errW_none, errW_some])) | ((with_reducible refine gate_callee (f := 12) rfl ?_); refine kg (some 12) rfl rfl Try.func12 (by kernel_rfl) rfl #[.int .i64 36500000, .int .i64 10000, .int .i64 1, .bool false] rfl ?_; (with_reducible refine (count_Accrue_s.calls 36500000 10000 1 false t440 none _ A2.out).mono ?_); rintro e w' ⟨rfl, ⟨nd, rfl⟩⟩; refine ⟨_, rfl, ?_⟩; (try simp only [errW_none, errW_some])))
    go_ret
    exact ⟨by first | rfl | (simp [errW_none, errW_some] <;> rfl) | (simp [*, errW_none, errW_some] <;> rfl), by repeat (first | (with_reducible first | exact HB.out | apply kc1 | apply kc2 | apply kc3) | exact HB.out)⟩
   ·have H1 : (some false) = some r := by rw [if_neg (show ¬ (some q443).isNone = true by simp)] at H; exact H
    clear H
    have H := H1
    clear H1
    try simp only [errW_none, errW_some]
    obtain rfl := Option.some.inj H
    go_enter Try.func7, Try.ntmps7
    go_wp2_with (first | ((with_reducible refine gate_callee (f := 8) rfl ?_); refine kg (some 8) rfl rfl Try.func8 (by kernel_rfl) rfl #[.agg #[.int .i64 2024, .int .i64 1, .int .i64 31], .agg #[.int .i64 2024, .int .i64 2, .int .i64 29], .bool true] rfl ?_; (with_reducible refine (count_Between_s.calls 2024 1 31 2024 2 29 true t438 none _ A1.out).mono ?_); rintro e w5 ⟨rfl, hb⟩; refine ⟨_, rfl, ?_⟩; replace HB := ka (below_step (kw HB.out) hb); (try clear hb); (try clear hb2); (try clear hk); (try clear hi); (try simp only [errW_none, errW_some])) | ((with_reducible refine gate_callee (f := 12) rfl ?_); refine kg (some 12) rfl rfl Try.func12 (by kernel_rfl) rfl #[.int .i64 36500000, .int .i64 10000, .int .i64 1, .bool false] rfl ?_; (with_reducible refine (count_Accrue_s.calls 36500000 10000 1 false t440 (some q443) _ A2.out).mono ?_); rintro e w' ⟨rfl, ⟨nd, rfl⟩⟩; refine ⟨_, rfl, ?_⟩; (try simp only [errW_none, errW_some])))
    go_ret
    exact ⟨by first | rfl | (simp [errW_none, errW_some] <;> rfl) | (simp [*, errW_none, errW_some] <;> rfl), by repeat (first | (with_reducible first | exact HB.out | apply kc1 | apply kc2 | apply kc3) | exact HB.out)⟩
  ·rw [if_neg c3] at H
   have c3b0 : (t438 == 29) = false := beq_eq_false_iff_ne.mpr c3
   have c3b1 : (t438 != 29) = true := bne_iff_ne.mpr c3
   obtain rfl := Option.some.inj H
   go_enter Try.func7, Try.ntmps7
   go_wp2_with (first | ((with_reducible refine gate_callee (f := 8) rfl ?_); refine kg (some 8) rfl rfl Try.func8 (by kernel_rfl) rfl #[.agg #[.int .i64 2024, .int .i64 1, .int .i64 31], .agg #[.int .i64 2024, .int .i64 2, .int .i64 29], .bool true] rfl ?_; (with_reducible refine (count_Between_s.calls 2024 1 31 2024 2 29 true t438 none _ A1.out).mono ?_); rintro e w6 ⟨rfl, hb⟩; refine ⟨_, rfl, ?_⟩; replace HB := ka (below_step (kw HB.out) hb); (try clear hb); (try clear hb2); (try clear hk); (try clear hi); (try simp only [errW_none, errW_some])) | ((with_reducible refine gate_callee (f := 12) rfl ?_); refine kg (some 12) rfl rfl Try.func12 (by kernel_rfl) rfl #[.int .i64 36500000, .int .i64 10000, .int .i64 1, .bool false] rfl ?_; (with_reducible refine (count_Accrue_s.calls 36500000 10000 1 false t440 t441 _ A2.out).mono ?_); rintro e w' ⟨rfl, ⟨nd, rfl⟩⟩; refine ⟨_, rfl, ?_⟩; (try simp only [errW_none, errW_some])))
   go_ret
   exact ⟨by first | rfl | (simp [errW_none, errW_some] <;> rfl) | (simp [*, errW_none, errW_some] <;> rfl), by repeat (first | (with_reducible first | exact HB.out | apply kc1 | apply kc2 | apply kc3) | exact HB.out)⟩
 ·have H1 : (some false) = some r := by rw [if_neg (show ¬ (some q442).isNone = true by simp)] at H; exact H
  clear H
  have H := H1
  clear H1
  try simp only [errW_none, errW_some]
  obtain rfl := Option.some.inj H
  go_enter Try.func7, Try.ntmps7
  go_wp2_with (first | ((with_reducible refine gate_callee (f := 8) rfl ?_); refine kg (some 8) rfl rfl Try.func8 (by kernel_rfl) rfl #[.agg #[.int .i64 2024, .int .i64 1, .int .i64 31], .agg #[.int .i64 2024, .int .i64 2, .int .i64 29], .bool true] rfl ?_; (with_reducible refine (count_Between_s.calls 2024 1 31 2024 2 29 true t438 (some q442) _ A1.out).mono ?_); rintro e w7 ⟨rfl, hb⟩; refine ⟨_, rfl, ?_⟩; replace HB := ka (below_step (kw HB.out) hb); (try clear hb); (try clear hb2); (try clear hk); (try clear hi); (try simp only [errW_none, errW_some])) | ((with_reducible refine gate_callee (f := 12) rfl ?_); refine kg (some 12) rfl rfl Try.func12 (by kernel_rfl) rfl #[.int .i64 36500000, .int .i64 10000, .int .i64 1, .bool false] rfl ?_; (with_reducible refine (count_Accrue_s.calls 36500000 10000 1 false t440 t441 _ A2.out).mono ?_); rintro e w' ⟨rfl, ⟨nd, rfl⟩⟩; refine ⟨_, rfl, ?_⟩; (try simp only [errW_none, errW_some])))
  go_ret
  exact ⟨by first | rfl | (simp [errW_none, errW_some] <;> rfl) | (simp [*, errW_none, errW_some] <;> rfl), by repeat (first | (with_reducible first | exact HB.out | apply kc1 | apply kc2 | apply kc3) | exact HB.out)⟩

/-! ### trivetlaw05_up_s: function 7, told plainly -/
theorem trivetlaw05_up.tells : trivetlaw05_up.f = some true := by decide +kernel
def trivetlaw05_up_s.f : Option Bool := some true
theorem trivetlaw05_up_s.calls  (r : Bool) (w : World) (h : trivetlaw05_up_s.f  = some r) :
  Calls Try.prog 7 #[] w fun e w' => e = .returned (.bool r) ∧ Below w.heap.size w w' := by
 exact trivetlaw05_up.calls r w ((trivetlaw05_up.tells ).trans h)

/-! ### trivetref01_at: function 39 -/
def trivetref01_at.f (l0 : List Int) (a1 : Int) : Option (Int) := if a1 < (l0.length : Int) then (if 0 ≤ a1 then (some (rd l0 a1)) else (none)) else (some 0)
set_option maxHeartbeats 8000000 in
set_option maxRecDepth 100000 in
theorem trivetref01_at.calls (A0 : Option Addr) (c0 : Nat) (l0 : List Int) (a1 : Int) (r : Int) (w : World) (hr0 : Kd.C (Kd.int .u64) w A0 l0.length l0) (hc0 : l0.length ≤ c0) (h : trivetref01_at.f l0 a1 = some r) :
  Calls Try.prog 39 #[.slice A0 l0.length c0, .int .i64 a1] w fun e w' => e = .returned (.int .u64 r) ∧ Drawn0 w w' := by
 have HR0 := ka hr0
 have HC0 := ka hc0
 clear hr0 hc0
 have H : (if a1 < (l0.length : Int) then (if 0 ≤ a1 then (some (rd l0 a1)) else (none)) else (some 0)) = some r := h
 clear h
 by_cases c3 : a1 < (l0.length : Int)
 ·rw [if_pos c3] at H
  have c3b0 : decide (a1 < (l0.length : Int)) = true := decide_eq_true c3
  clear c3
  by_cases c4 : 0 ≤ a1
  ·rw [if_pos c4] at H
   have c4b0 : decide (0 ≤ a1) = true := decide_eq_true c4
   clear c4
   obtain rfl := Option.some.inj H
   have p444 : 0 ≤ (a1 : Int) := of_decide_eq_true (by first | (with_reducible assumption) | assumption)
   have q444 : a1 < (l0.length : Int) := of_decide_eq_true (by first | (with_reducible assumption) | assumption)
   obtain ⟨ad444, e444, hx444_0⟩ := Kd.at_int HR0.out a1 p444 q444
   cases e444
   replace p444 := eq_true p444
   replace q444 := eq_true q444
   go_enter Try.func39, Try.ntmps39
   go_wp2
   go_ret
   exact ⟨by first | rfl | (simp; done) | (simp [*]; done), by repeat (first | exact Drawn0.refl _ | apply Drawn0.step)⟩
  ·rw [if_neg c4] at H
   exact absurd H (by simp)
 ·rw [if_neg c3] at H
  have c3b0 : decide (a1 < (l0.length : Int)) = false := decide_eq_false c3
  clear c3
  obtain rfl := Option.some.inj H
  go_enter Try.func39, Try.ntmps39
  go_wp2
  go_ret
  exact ⟨by first | rfl | (simp; done) | (simp [*]; done), by repeat (first | exact Drawn0.refl _ | apply Drawn0.step)⟩

/-! ### trivetref01_at: function 39, its laws -/
theorem trivetref01_at.num (d : List Int) (i : Nat) : trivetref01_at.f d i = some (d.getD i 0) := by
 unfold trivetref01_at.f
 by_cases h : (i : Int) < d.length
 ·rw [if_pos h, if_pos (by omega)]
  simp [rd]
 ·rw [if_neg h, List.getD_eq_getElem?_getD, List.getElem?_eq_none (by omega)]; rfl

/-! ### trivetref01_plus: function 24 -/
mutual
def trivetref01_plus.l0 : Nat → List Int → List Int → List Int → Int → Int → Option (List Int)
 | 0, _, _, _, _, _ => none
 | k + 1, x0, x1, x5, x6, x7 => if x7 < (x0.length : Int) then (trivetref01_plus.j1 k x0 x1 x5 x6 x7 true) else (if x7 < (x1.length : Int) then (trivetref01_plus.j1 k x0 x1 x5 x6 x7 true) else (trivetref01_plus.j1 k x0 x1 x5 x6 x7 (decide (x6 > 0))))
def trivetref01_plus.j1 : Nat → List Int → List Int → List Int → Int → Int → Bool → Option (List Int)
 | 0, _, _, _, _, _, _ => none
 | k + 1, x0, x1, x5, x6, x7, x22 => if x22 = true then ((trivetref01_at.f x0 x7).bind fun t445 => ((trivetref01_at.f x1 x7).bind fun t446 => (if x5.length < 17592186044416 then (trivetref01_plus.l0 k x0 x1 (x5 ++ [Int.tmod (IntKind.u64.wrap ((IntKind.u64.wrap (t445 + t446)) + x6)) 65536]) (IntKind.u64.wrap (Int.tdiv (IntKind.u64.wrap ((IntKind.u64.wrap (t445 + t446)) + x6)) 65536)) (wrap64 (x7 + 1))) else (none)))) else (some x5)
end
def trivetref01_plus.f (k : Nat) (l0 : List Int) (l1 : List Int) : Option (List Int) := trivetref01_plus.l0 k l0 l1 ([] : List Int) 0 0
theorem trivetref01_plus.mono_l : ∀ k, (∀ y0 y1 y2 y3 y4, LeO (trivetref01_plus.l0 k y0 y1 y2 y3 y4) (trivetref01_plus.l0 (k + 1) y0 y1 y2 y3 y4)) ∧ (∀ y0 y1 y2 y3 y4 y5, LeO (trivetref01_plus.j1 k y0 y1 y2 y3 y4 y5) (trivetref01_plus.j1 (k + 1) y0 y1 y2 y3 y4 y5))
 | 0 => ⟨fun _ _ _ _ _ r h => by simp [trivetref01_plus.l0] at h, fun _ _ _ _ _ _ r h => by simp [trivetref01_plus.j1] at h⟩
 | k + 1 => by
  obtain ⟨ih0, ih1⟩ := trivetref01_plus.mono_l k
  refine ⟨?_, ?_⟩
  ·intro y0 y1 y2 y3 y4
   unfold trivetref01_plus.l0
   repeat' first
   | (with_reducible exact ih0 _ _ _ _ _)
   | (with_reducible exact ih1 _ _ _ _ _ _)
   | (with_reducible exact LeO.refl _)
   | (with_reducible exact LeO.none _)
   | (with_reducible refine LeO.ite ?_ ?_)
   | (with_reducible refine LeO.bind ?_ (fun _ => ?_))
   | exact ih0 _ _ _ _ _
   | exact ih1 _ _ _ _ _ _
   | exact LeO.none _
   | refine LeO.ite ?_ ?_
   | refine LeO.bind ?_ (fun _ => ?_)
  ·intro y0 y1 y2 y3 y4 y5
   unfold trivetref01_plus.j1
   repeat' first
   | (with_reducible exact ih0 _ _ _ _ _)
   | (with_reducible exact ih1 _ _ _ _ _ _)
   | (with_reducible exact LeO.refl _)
   | (with_reducible exact LeO.none _)
   | (with_reducible refine LeO.ite ?_ ?_)
   | (with_reducible refine LeO.bind ?_ (fun _ => ?_))
   | exact ih0 _ _ _ _ _
   | exact ih1 _ _ _ _ _ _
   | exact LeO.none _
   | refine LeO.ite ?_ ?_
   | refine LeO.bind ?_ (fun _ => ?_)
theorem trivetref01_plus.mono : ∀ a0 a1 k, LeO (trivetref01_plus.f k a0 a1) (trivetref01_plus.f (k + 1) a0 a1) := by
 intro a0 a1 k
 obtain ⟨ih0, ih1⟩ := trivetref01_plus.mono_l k
 unfold trivetref01_plus.f
 repeat' first
   | (with_reducible exact ih0 _ _ _ _ _)
   | (with_reducible exact ih1 _ _ _ _ _ _)
   | (with_reducible exact LeO.refl _)
   | (with_reducible exact LeO.none _)
   | (with_reducible refine LeO.ite ?_ ?_)
   | (with_reducible refine LeO.bind ?_ (fun _ => ?_))
   | exact ih0 _ _ _ _ _
   | exact ih1 _ _ _ _ _ _
   | exact LeO.none _
   | refine LeO.ite ?_ ?_
   | refine LeO.bind ?_ (fun _ => ?_)
set_option maxHeartbeats 8000000 in
set_option maxRecDepth 100000 in
theorem trivetref01_plus.calls (k : Nat) (A0 : Option Addr) (c0 : Nat) (l0 : List Int) (A1 : Option Addr) (c1 : Nat) (l1 : List Int) (r : List Int) (w : World) (hr0 : Kd.C (Kd.int .u64) w A0 l0.length l0) (hc0 : l0.length ≤ c0) (hr1 : Kd.C (Kd.int .u64) w A1 l1.length l1) (hc1 : l1.length ≤ c1) (h : trivetref01_plus.f k l0 l1 = some r) :
  Calls Try.prog 24 #[.slice A0 l0.length c0, .slice A1 l1.length c1] w fun e w' => ∃ v0_ : Value, e = .returned (v0_) ∧ Kd.R (Kd.int .u64) 53 w' w.heap.size (fun _ => True) v0_ r ∧ Below w.heap.size w w' := by
 have HR0 := ka hr0
 have HC0 := ka hc0
 clear hr0 hc0
 have HR1 := ka hr1
 have HC1 := ka hc1
 clear hr1 hc1
 have HB := ka (Below.refl w.heap.size w)
 have H : (trivetref01_plus.l0 k l0 l1 ([] : List Int) 0 0) = some r := h
 clear h
 have H' := ka H
 clear H
 go_enter Try.func24, Try.ntmps24
 go_wp2
 (try simp only [Act.put, List.setIfInBounds_toArray, List.set_cons_zero, List.set_cons_succ])
 go_loopg [5, 6, 7] k (fun kq v5 v6 v7 w' => ∃ (x5_1 : List Int) (x6_1 : Int) (x7_1 : Int), v6 = .int .u64 x6_1 ∧ v7 = .int .i64 x7_1 ∧ Aside0 (trivetref01_plus.l0 kq l0 l1 x5_1 x6_1 x7_1 = some r) ∧ Aside0 (kq ≤ k) ∧ Aside0 (Kd.R (Kd.int .u64) 53 w' w.heap.size (fun _ => True) v5 x5_1) ∧ Aside0 (Below w.heap.size w w'))
 case atStart => exact ⟨(([] : List Int)), (0), (0), (by first | rfl | (simp; done) | (simp [*]; done)), (by first | rfl | (simp; done) | (simp [*]; done)), H', ⟨Nat.le_refl _⟩, ⟨by first | exact Kd.R_nil _ _ _ _ _ | exact Kd.N_nil _ _ _ _ _ | exact Kd.V_nil _ _ _ _ _ | exact Kd.Q_nil _ _ _ _ _ | exact Kd.S_nil _ _ _ _ _⟩, ⟨by repeat (first | (with_reducible first | exact HB.out | apply kc1 | apply kc2 | apply kc3) | exact HB.out)⟩⟩
 case round =>
  clear H'
  try clear c1
  try clear c2
  try clear p2
  obtain ⟨x5_1, x6_1, x7_1, rfl, rfl, HA, HK1, HO_5, HB⟩ := hrel
  cases gk with
  | zero => exact absurd HA.out (by simp [trivetref01_plus.l0])
  | succ k1 =>
   have H := HA.out
   clear HA
   simp only [trivetref01_plus.l0] at H
   have HC3 := ka H
   clear H
   go_upto_region 4 with (fail)
   go_cut [22] (fun v22 wc => ∃ (kq : Nat) (x22_2 : Bool), v22 = .bool x22_2 ∧ Aside0 (trivetref01_plus.j1 kq l0 l1 x5_1 x6_1 x7_1 x22_2 = some r) ∧ Aside0 (kq ≤ k1) ∧ Aside0 (Kd.R (Kd.int .u64) 53 wc w.heap.size (fun _ => True) u5 x5_1) ∧ Aside0 (Below w.heap.size w wc))
   case first =>
    have H := HC3.out
    clear HC3
    by_cases c4 : x7_1 < (l0.length : Int)
    ·rw [if_pos c4] at H
     have c4b0 : decide (x7_1 < (l0.length : Int)) = true := decide_eq_true c4
     clear c4
     (first | rw [c4b0] | (simp only [i64_w, i32_w]; rw [c4b0]) | skip)
     have H' := ka H
     clear H
     go_wp2
     go_meet
     case rel => exact ⟨_, (true), (by first | rfl | (simp; done) | (simp [*]; done)), H', ⟨by have := HK1.out; first | omega | exact Nat.le_refl _⟩, ⟨kr HO_5.out⟩, ⟨by repeat (first | (with_reducible first | exact HB.out | apply kc1 | apply kc2 | apply kc3) | exact HB.out)⟩⟩
    ·rw [if_neg c4] at H
     have c4b0 : decide (x7_1 < (l0.length : Int)) = false := decide_eq_false c4
     clear c4
     (first | rw [c4b0] | (simp only [i64_w, i32_w]; rw [c4b0]) | skip)
     by_cases c5 : x7_1 < (l1.length : Int)
     ·rw [if_pos c5] at H
      have c5b0 : decide (x7_1 < (l1.length : Int)) = true := decide_eq_true c5
      clear c5
      have H' := ka H
      clear H
      go_wp2
      go_meet
      case rel => exact ⟨_, (true), (by first | rfl | (simp; done) | (simp [*]; done)), H', ⟨by have := HK1.out; first | omega | exact Nat.le_refl _⟩, ⟨kr HO_5.out⟩, ⟨by repeat (first | (with_reducible first | exact HB.out | apply kc1 | apply kc2 | apply kc3) | exact HB.out)⟩⟩
     ·rw [if_neg c5] at H
      have c5b0 : decide (x7_1 < (l1.length : Int)) = false := decide_eq_false c5
      clear c5
      have H' := ka H
      clear H
      go_wp2
      go_meet
      case rel => exact ⟨_, (decide (x6_1 > 0)), (by first | rfl | (simp; done) | (simp [*]; done)), H', ⟨by have := HK1.out; first | omega | exact Nat.le_refl _⟩, ⟨kr HO_5.out⟩, ⟨by repeat (first | (with_reducible first | exact HB.out | apply kc1 | apply kc2 | apply kc3) | exact HB.out)⟩⟩
   case rest =>
    clear HC3
    try clear c1
    try clear c2
    try clear p2
    try clear c4
    try clear c4b0
    try clear c5
    try clear c5b0
    try clear p2
    obtain ⟨kq, x22_2, rfl, HA, HJ2, HO_5, HB⟩ := hcut
    cases kq with
    | zero => exact absurd HA.out (by simp [trivetref01_plus.j1])
    | succ kj2 =>
     have H := HA.out
     clear HA
     simp only [trivetref01_plus.j1] at H
     by_cases c6 : x22_2 = true
     ·subst c6
      have H1 : ((trivetref01_at.f l0 x7_1).bind fun t445 => ((trivetref01_at.f l1 x7_1).bind fun t446 => (if x5_1.length < 17592186044416 then (trivetref01_plus.l0 kj2 l0 l1 (x5_1 ++ [Int.tmod (IntKind.u64.wrap ((IntKind.u64.wrap (t445 + t446)) + x6_1)) 65536]) (IntKind.u64.wrap (Int.tdiv (IntKind.u64.wrap ((IntKind.u64.wrap (t445 + t446)) + x6_1)) 65536)) (wrap64 (x7_1 + 1))) else (none)))) = some r := by rw [if_pos rfl] at H; exact H
      clear H
      have H := H1
      clear H1
      replace H := Option.bind_eq_some_iff.mp H
      obtain ⟨t445, A70, H⟩ := H
      replace H : ((trivetref01_at.f l1 x7_1).bind fun t446 => (if x5_1.length < 17592186044416 then (trivetref01_plus.l0 kj2 l0 l1 (x5_1 ++ [Int.tmod (IntKind.u64.wrap ((IntKind.u64.wrap (t445 + t446)) + x6_1)) 65536]) (IntKind.u64.wrap (Int.tdiv (IntKind.u64.wrap ((IntKind.u64.wrap (t445 + t446)) + x6_1)) 65536)) (wrap64 (x7_1 + 1))) else (none))) = some r := H
      have A7 := ka A70
      clear A70
      replace H := Option.bind_eq_some_iff.mp H
      obtain ⟨t446, A80, H⟩ := H
      replace H : (if x5_1.length < 17592186044416 then (trivetref01_plus.l0 kj2 l0 l1 (x5_1 ++ [Int.tmod (IntKind.u64.wrap ((IntKind.u64.wrap (t445 + t446)) + x6_1)) 65536]) (IntKind.u64.wrap (Int.tdiv (IntKind.u64.wrap ((IntKind.u64.wrap (t445 + t446)) + x6_1)) 65536)) (wrap64 (x7_1 + 1))) else (none)) = some r := H
      have A8 := ka A80
      clear A80
      by_cases c9 : x5_1.length < 17592186044416
      ·rw [if_pos c9] at H
       have LMc9 := ka c9
       clear c9
       obtain ⟨y447, hy447⟩ : ∃ y_ : List Int, y_ = (x5_1 ++ [Int.tmod (IntKind.u64.wrap ((IntKind.u64.wrap (t445 + t446)) + x6_1)) 65536]) := ⟨_, rfl⟩
       replace H : (trivetref01_plus.l0 kj2 l0 l1 y447 (IntKind.u64.wrap (Int.tdiv (IntKind.u64.wrap ((IntKind.u64.wrap (t445 + t446)) + x6_1)) 65536)) (wrap64 (x7_1 + 1))) = some r := by first | (rw [hy447]; with_reducible exact H) | (have H2_ := (Option.bind_some _ _).symm.trans H; rw [hy447]; with_reducible exact H2_) | (have H2_ := (Option.bind_some _ _).symm.trans H; with_reducible exact H2_) | with_reducible exact H | (rw [hy447]; exact H) | exact H
       have Ny447 := ka hy447
       clear hy447
       have H' := ka H
       clear H
       go_wp2_with (first | ((with_reducible refine gate_callee (f := 39) rfl ?_); refine kg (some 27) rfl rfl Try.func39 (by kernel_rfl) rfl #[.slice A0 l0.length c0, .int .i64 x7_1] rfl ?_; (with_reducible refine (trivetref01_at.calls _ _ l0 x7_1 t445 _ ?side1 ?side2 A7.out).mono ?_); (case side1 => repeat (first | exact (Kd.C_below HR0.out HB.out) | (with_reducible refine Kd.C_alloc ?_ _) | (with_reducible refine Kd.C_drewN ?_ _) | (with_reducible refine Kd.C_drew ?_))); (case side2 => exact HC0.out); rintro e w' ⟨rfl, ⟨nd, rfl⟩⟩; refine ⟨_, rfl, ?_⟩) | ((with_reducible refine gate_callee (f := 39) rfl ?_); refine kg (some 30) rfl rfl Try.func39 (by kernel_rfl) rfl #[.slice A1 l1.length c1, .int .i64 x7_1] rfl ?_; (with_reducible refine (trivetref01_at.calls _ _ l1 x7_1 t446 _ ?side1 ?side2 A8.out).mono ?_); (case side1 => repeat (first | exact (Kd.C_below HR1.out (kw HB.out)) | (with_reducible refine Kd.C_alloc ?_ _) | (with_reducible refine Kd.C_drewN ?_ _) | (with_reducible refine Kd.C_drew ?_))); (case side2 => exact HC1.out); rintro e w' ⟨rfl, ⟨nd, rfl⟩⟩; refine ⟨_, rfl, ?_⟩) | ((with_reducible refine gate_builtin (b := .append) (xs := #[.tmp 34, .tmp 37]) rfl ?_); (try (refine gate_guard (by rfl) ?_; dsimp only)); at_builtin; refine Kd.R_append (Kd.int .u64) (w0 := w) w.heap.size rfl (.tmp 34) (.tmp 37) 35 53 (.int .u64 0) 8 rfl Try.underlying35 info53 rfl (by decide) (by omega) u5 x5_1 (Int.tmod (IntKind.u64.wrap ((IntKind.u64.wrap (t445 + t446)) + x6_1)) 65536) [.int .u64 (Int.tmod (IntKind.u64.wrap ((IntKind.u64.wrap (t445 + t446)) + x6_1)) 65536)] (fun _ => True) (fun _ => False) rfl rfl ?aP (fun _ hk => hk.elim) ?aF ?aO ?aB ?aS ?aL ?_; (case aP => exact rfl); (case aB => exact (kw HB.out)); (case aF => exact (fun _ _ => trivial)); (case aO => exact (kr HO_5.out)); (case aS => exact (below_size (kw HB.out))); (case aL => have := LMc9.out; omega); intro v448 w10 ho hb hg hat; rw [← Ny447.out] at ho; replace HB := ka (hb); have HO449 := ka (ho); clear HO_5; clear ho hb hg hat))
       go_roundg kj2
       case measure => have := HK1.out; have := HJ2.out; omega
       case rel => exact ⟨(y447), (IntKind.u64.wrap (Int.tdiv (IntKind.u64.wrap ((IntKind.u64.wrap (t445 + t446)) + x6_1)) 65536)), (wrap64 (x7_1 + 1)), (by first | rfl | (simp; done) | (simp [*]; done)), (by first | rfl | (simp; done) | (simp [*]; done)), H', ⟨by have := HK1.out; have := HJ2.out; omega⟩, ⟨kr HO449.out⟩, ⟨by repeat (first | (with_reducible first | exact HB.out | apply kc1 | apply kc2 | apply kc3) | exact HB.out)⟩⟩
      ·rw [if_neg c9] at H
       exact absurd H (by simp)
     ·replace c6 := Bool.eq_false_iff.mpr c6
      subst c6
      have H1 : (some x5_1) = some r := by rw [if_neg (show ¬ (false = true) by decide)] at H; exact H
      clear H
      have H := H1
      clear H1
      obtain rfl := Option.some.inj H
      go_wp2
      go_ret
      exact ⟨_, by first | rfl | (simp [errW_none, errW_some] <;> rfl) | (simp [*, errW_none, errW_some] <;> rfl), by (with_reducible repeat (first | apply Kd.R_alloc | apply Kd.R_drewN | apply Kd.R_drew)); exact HO_5.out, by repeat (first | (with_reducible first | exact HB.out | apply kc1 | apply kc2 | apply kc3) | exact HB.out)⟩

/-! ### trivetref01_plus: function 24, its laws -/
theorem trivetref01_plus.step (k : Nat) (a b acc : List Int) (c : Int) (i : Nat) (ha : U.Dg a) (hb : U.Dg b) (hc : 0 ≤ c ∧ c ≤ 1) (hi : i < 1000000) (hl : acc.length < 1000000) : trivetref01_plus.j1 (k + 1) a b acc c i true = trivetref01_plus.l0 k a b (acc ++ [(a.getD i 0 + b.getD i 0 + c) % 65536]) ((a.getD i 0 + b.getD i 0 + c) / 65536) ((i + 1 : Nat) : Int) := by
 have ga := ha.get i
 have gb := hb.get i
 simp only [trivetref01_plus.j1]
 rw [if_pos trivial, trivetref01_at.num, Option.bind_some, trivetref01_at.num, Option.bind_some, if_pos (by omega)]
 generalize a.getD i 0 = x at *
 generalize b.getD i 0 = y at *
 rw [M.wrapu_id (n := x + y) (by omega) (by omega), M.wrapu_id (n := x + y + c) (by omega) (by omega), M.tdivu (show 0 ≤ x + y + c by omega), M.tmodu (show 0 ≤ x + y + c by omega), M.wrapu_id (n := (x + y + c) / 65536) (by omega) (by omega), M.w64_id (n := (i : Int) + 1) (by omega) (by omega)]
 rfl
theorem trivetref01_plus.loop (n : Nat) : ∀ (k : Nat) (a b acc : List Int) (c : Int) (i : Nat), U.Dg a → U.Dg b → U.Dg acc → 0 ≤ c ∧ c ≤ 1 → a.length ≤ i + n → b.length ≤ i + n → (a.length = i + n ∨ b.length = i + n) → acc.length = i → i + n < 500000 → 2 * n + 4 ≤ k →
  ∃ out, trivetref01_plus.l0 k a b acc c i = some out ∧ U.Dg out ∧ U.val out = U.val acc + 65536 ^ i * (U.val (a.drop i) + U.val (b.drop i) + c) ∧ out.length ≤ i + n + 1 := by
 induction n with
 | zero =>
  intro k a b acc c i ha hb hacc hc la lb lab hl hi hk
  obtain ⟨j, rfl⟩ : ∃ j, k = j + 2 + 2 := ⟨k - 4, by omega⟩
  rw [List.drop_eq_nil_of_le (by omega), List.drop_eq_nil_of_le (by omega)]
  simp only [trivetref01_plus.l0]
  rw [if_neg (by omega), if_neg (by omega)]
  by_cases h : c > 0
  ·rw [decide_eq_true h, show j + 2 + 1 = (j + 2) + 1 from rfl, trivetref01_plus.step _ _ _ _ _ _ ha hb hc (by omega) (by omega)]
   have e1 : a.getD i 0 = 0 := by rw [List.getD_eq_getElem?_getD, List.getElem?_eq_none (by omega)]; rfl
   have e2 : b.getD i 0 = 0 := by rw [List.getD_eq_getElem?_getD, List.getElem?_eq_none (by omega)]; rfl
   have ec : c = 1 := by omega
   subst ec
   rw [e1, e2]
   simp only [trivetref01_plus.l0]
   rw [if_neg (by omega), if_neg (by omega), decide_eq_false (by decide)]
   simp only [trivetref01_plus.j1]
   rw [if_neg (by decide)]
   refine ⟨_, rfl, hacc.add (U.Dg.one (by decide)), ?_, by simp; omega⟩
   rw [U.val_append, U.val_one, hl]
   simp [U.val]
  ·have ec : c = 0 := by omega
   subst ec
   rw [decide_eq_false h]
   simp only [trivetref01_plus.j1]
   rw [if_neg (by decide)]
   exact ⟨_, rfl, hacc, by simp [U.val], by omega⟩
 | succ n ih =>
  intro k a b acc c i ha hb hacc hc la lb lab hl hi hk
  obtain ⟨j, rfl⟩ : ∃ j, k = j + 1 + 1 := ⟨k - 2, by omega⟩
  have e : trivetref01_plus.l0 (j + 1 + 1) a b acc c i = trivetref01_plus.j1 (j + 1) a b acc c i true := by
   simp only [trivetref01_plus.l0]
   by_cases h : (i : Int) < a.length
   ·rw [if_pos h]
   ·rw [if_neg h, if_pos (by omega)]
  have ga := ha.get i
  have gb := hb.get i
  obtain ⟨out, o1, o2, o3, o4⟩ := ih j a b (acc ++ [(a.getD i 0 + b.getD i 0 + c) % 65536]) ((a.getD i 0 + b.getD i 0 + c) / 65536) (i + 1) ha hb (hacc.add (U.Dg.one (by omega))) (by omega) (by omega) (by omega) (by omega) (by simp; omega) (by omega) (by omega)
  refine ⟨out, ?_, o2, ?_, by omega⟩
  ·rw [e, trivetref01_plus.step _ _ _ _ _ _ ha hb hc (by omega) (by omega), o1]
  ·rw [o3, U.val_append, U.val_one, hl, U.pow_succ, U.drop_step a i, U.drop_step b i]
   generalize a.getD i 0 = x at *
   generalize b.getD i 0 = y at *
   have hx : (x + y + c) % 65536 + 65536 * ((x + y + c) / 65536) = x + y + c := by omega
   generalize (x + y + c) % 65536 = r at *
   generalize (x + y + c) / 65536 = q at *
   generalize U.val (a.drop (i + 1)) = u
   generalize U.val (b.drop (i + 1)) = v
   have : x + 65536 * u + (y + 65536 * v) + c = r + 65536 * (u + v + q) := by omega
   rw [this]
   generalize u + v + q = s
   generalize (65536 : Int) ^ i = p
   rw [Int.mul_add, Int.mul_comm 65536 p, Int.mul_assoc, Int.add_assoc]
theorem trivetref01_plus.num (k : Nat) (a b : List Int) (ha : U.Dg a) (hb : U.Dg b) (la : a.length ≤ 1000) (lb : b.length ≤ 1000) (hk : 2 * a.length + 2 * b.length + 4 ≤ k) :
  ∃ out, trivetref01_plus.f k a b = some out ∧ U.Dg out ∧ U.val out = U.val a + U.val b ∧ out.length ≤ max a.length b.length + 1 := by
 obtain ⟨out, o1, o2, o3, o4⟩ := trivetref01_plus.loop (max a.length b.length) k a b [] 0 0 ha hb U.Dg.nil (by omega) (by omega) (by omega) (by omega) rfl (by omega) (by omega)
 refine ⟨out, o1, o2, ?_, by omega⟩
 rw [o3]
 simp [U.val]

/-! ### trivetref01_norm: function 25 -/
def trivetref01_norm.l0 : Nat → List Int → Bool → Option (List Int × Bool)
 | 0, _, _ => none
 | k + 1, x0, x1 => if (x0.length : Int) > 0 then (if 0 ≤ (wrap64 ((x0.length : Int) - 1)) then (if (wrap64 ((x0.length : Int) - 1)) < (x0.length : Int) then (if (rd x0 (wrap64 ((x0.length : Int) - 1))) = 0 then (if (wrap64 ((x0.length : Int) - 1)) ≤ (x0.length : Int) then (trivetref01_norm.l0 k (x0.take ((wrap64 ((x0.length : Int) - 1)) : Int).toNat) x1) else (none)) else (if x1 = true then (some (x0, true)) else (some (x0, false)))) else (none)) else (none)) else (if x1 = true then (some (x0, false)) else (some (x0, false)))
def trivetref01_norm.f (k : Nat) (l0 : List Int) (a1 : Bool) : Option (List Int × Bool) := trivetref01_norm.l0 k l0 a1
theorem trivetref01_norm.mono_l : ∀ k, (∀ y0 y1, LeO (trivetref01_norm.l0 k y0 y1) (trivetref01_norm.l0 (k + 1) y0 y1))
 | 0 => fun _ _ r h => by simp [trivetref01_norm.l0] at h
 | k + 1 => by
  have ih0 := trivetref01_norm.mono_l k
  ·intro y0 y1
   unfold trivetref01_norm.l0
   repeat' first
   | (with_reducible exact ih0 _ _)
   | (with_reducible exact LeO.refl _)
   | (with_reducible exact LeO.none _)
   | (with_reducible refine LeO.ite ?_ ?_)
   | (with_reducible refine LeO.bind ?_ (fun _ => ?_))
   | exact ih0 _ _
   | exact LeO.none _
   | refine LeO.ite ?_ ?_
   | refine LeO.bind ?_ (fun _ => ?_)
theorem trivetref01_norm.mono : ∀ a0 a1 k, LeO (trivetref01_norm.f k a0 a1) (trivetref01_norm.f (k + 1) a0 a1) := by
 intro a0 a1 k
 have ih0 := trivetref01_norm.mono_l k
 unfold trivetref01_norm.f
 repeat' first
   | (with_reducible exact ih0 _ _)
   | (with_reducible exact LeO.refl _)
   | (with_reducible exact LeO.none _)
   | (with_reducible refine LeO.ite ?_ ?_)
   | (with_reducible refine LeO.bind ?_ (fun _ => ?_))
   | exact ih0 _ _
   | exact LeO.none _
   | refine LeO.ite ?_ ?_
   | refine LeO.bind ?_ (fun _ => ?_)
set_option maxHeartbeats 8000000 in
set_option maxRecDepth 100000 in
theorem trivetref01_norm.calls (k : Nat) (P0_ : Nat → Prop) (A0 : Option Addr) (c0 : Nat) (l0 : List Int) (a1 : Bool) (r1 : List Int) (r2 : Bool) (w : World) (hs0 : Kd.V (Kd.int .u64) 53 w w.heap.size (fun k_ => P0_ k_) (.slice A0 l0.length c0) l0) (h : trivetref01_norm.f k l0 a1 = some (r1, r2)) :
  Calls Try.prog 25 #[.slice A0 l0.length c0, .bool a1] w fun e w' => ∃ v0_ : Value, e = .returned (.agg #[v0_, .bool r2]) ∧ Kd.V (Kd.int .u64) 53 w' w.heap.size (fun k_ => (P0_ k_ ∨ w.heap.size ≤ k_)) v0_ r1 ∧ Below w.heap.size w w' := by
 have hu37 := Try.underlying37
 have HO0 := ka (show Kd.V (Kd.int .u64) 53 w w.heap.size (fun k_ => (P0_ k_ ∨ w.heap.size ≤ k_)) (.slice A0 l0.length c0) l0 from Kd.V_mono hs0 (fun k_ hk => .inl hk))
 have HB := ka (Below.refl w.heap.size w)
 have H : (trivetref01_norm.l0 k l0 a1) = some (r1, r2) := h
 clear h
 have H' := ka H
 clear H
 go_enter Try.func25, Try.ntmps25
 go_wp2_with (first | ((with_reducible refine gate_dst (N := 4) rfl ?_); (try (refine gate_guard (by rfl) ?_; dsimp only)); refine kx (N := 4) (cs := #[.slice none 0 0, .bool false]) (t := 37) ?_; intro gb450 hg w3 hbox hb; have n0_ := ka (Kd.V_below (Kd.V_elderB (kv HO0.out) gb450 (Nat.le_of_eq hg.symm)) hb); have n1_ := ka (below_step (kw HB.out) hb); have n2_ := ka (hbox); have n3_ := ka ((by rw [hg]; exact (below_size (kw HB.out)) : w.heap.size ≤ gb450)); have n4_ := n3_; clear HO0; clear HB; have HO0 := n0_; have HB := n1_; have BK450 := n2_; have GW450 := n3_; have GE450 := n4_; clear n0_ n1_ n2_ n3_ n4_; clear hb hbox hg))
 (try simp only [Act.put, List.setIfInBounds_toArray, List.set_cons_zero, List.set_cons_succ])
 go_loopg [0] k (fun kq v0 w' => ∃ (x0_1 : List Int), Aside0 (trivetref01_norm.l0 kq x0_1 a1 = some (r1, r2)) ∧ Aside0 (kq ≤ k) ∧ Aside0 (Kd.V (Kd.int .u64) 53 w' w.heap.size (fun k_ => (P0_ k_ ∨ w.heap.size ≤ k_) ∧ k_ ≠ gb450) v0 x0_1) ∧ Aside0 (w'.heap[gb450]? = some (.cells #[(.slice none 0 0), .bool false] 37 (0, 0))) ∧ Aside0 (Below w.heap.size w w'))
 case atStart => exact ⟨(l0), H', ⟨Nat.le_refl _⟩, ⟨kv HO0.out⟩, ⟨by (with_reducible repeat (first | apply kb1 | apply kb2 | apply kb3)); exact BK450.out⟩, ⟨by repeat (first | (with_reducible first | exact HB.out | apply kc1 | apply kc2 | apply kc3 | refine kc4 ?_ GE450.out) | exact HB.out)⟩⟩
 case round =>
  clear H'
  try clear c2
  try clear p2
  obtain ⟨x0_1, HA, HK1, HO_0, BK450, HB⟩ := hrel
  cases gk with
  | zero => exact absurd HA.out (by simp [trivetref01_norm.l0])
  | succ k1 =>
   have H := HA.out
   clear HA
   simp only [trivetref01_norm.l0] at H
   by_cases c4 : (x0_1.length : Int) > 0
   ·rw [if_pos c4] at H
    have c4b0 : decide (0 < (x0_1.length : Int)) = true := decide_eq_true c4
    have c4b1 : decide (0 < x0_1.length) = true := decide_eq_true (by omega)
    clear c4
    obtain ⟨ji5, hji5⟩ : ∃ j_ : Int, (wrap64 ((x0_1.length : Int) - 1)) = j_ := ⟨_, rfl⟩
    replace H : (if 0 ≤ (ji5) then (if (ji5) < (x0_1.length : Int) then (if (rd x0_1 (ji5)) = 0 then (if (ji5) ≤ (x0_1.length : Int) then (trivetref01_norm.l0 k1 (x0_1.take ((ji5) : Int).toNat) a1) else (none)) else (if a1 = true then (some (x0_1, true)) else (some (x0_1, false)))) else (none)) else (none)) = some (r1, r2) := by first | (rw [hji5] at H; exact H) | (simp only [hji5] at H ⊢; exact H)
    have hji5w : (IntKind.i64.wrap ((x0_1.length : Int) - 1)) = ji5 := (i64_w _).trans hji5
    by_cases c6 : 0 ≤ (ji5)
    ·rw [if_pos c6] at H
     have c6b0 : decide (0 ≤ (ji5)) = true := decide_eq_true c6
     clear c6
     by_cases c7 : (ji5) < (x0_1.length : Int)
     ·rw [if_pos c7] at H
      have c7b0 : decide ((ji5) < (x0_1.length : Int)) = true := decide_eq_true c7
      clear c7
      by_cases c8 : (rd x0_1 (ji5)) = 0
      ·rw [if_pos c8] at H
       have c8b0 : ((rd x0_1 (ji5)) == 0) = true := beq_iff_eq.mpr c8
       have c8b1 : ((rd x0_1 (ji5)) != 0) = false := bne_eq_false_iff_eq.mpr c8
       clear c8
       have c9b0 := eq_true (of_decide_eq_true (by first | (with_reducible assumption) | assumption) : 0 ≤ (ji5))
       by_cases c10 : (ji5) ≤ (x0_1.length : Int)
       ·rw [if_pos c10] at H
        have c10b0 := eq_true c10
        have c10b1 : decide ((ji5) ≤ (x0_1.length : Int)) = true := decide_eq_true c10
        clear c10
        obtain ⟨y452, hy452⟩ : ∃ y_ : List Int, y_ = (x0_1.take ((ji5) : Int).toNat) := ⟨_, rfl⟩
        replace H : (trivetref01_norm.l0 k1 y452 a1) = some (r1, r2) := by first | (rw [hy452]; with_reducible exact H) | (have H2_ := (Option.bind_some _ _).symm.trans H; rw [hy452]; with_reducible exact H2_) | (have H2_ := (Option.bind_some _ _).symm.trans H; with_reducible exact H2_) | with_reducible exact H | (rw [hy452]; exact H) | exact H
        have Ny452 := ka hy452
        clear hy452
        have H' := ka H
        clear H
        obtain ⟨Ao11, co11, eo11⟩ := Kd.V_slice HO_0.out
        subst eo11
        have p451 : 0 ≤ ((ji5) : Int) := of_decide_eq_true (by first | (with_reducible assumption) | assumption)
        have q451 : (ji5) < (x0_1.length : Int) := of_decide_eq_true (by first | (with_reducible assumption) | assumption)
        obtain ⟨ad451, e451, hx451_0⟩ := Kd.at_int (Kd.V_reads' HO_0.out).2.2 (ji5) p451 q451
        cases e451
        replace p451 := eq_true p451
        replace q451 := eq_true q451
        have q12 : ((ji5) : Int) ≤ ((x0_1.length : Int) : Int) := of_decide_eq_true (by first | (with_reducible assumption) | assumption)
        obtain ⟨i012, hi012, _, hsz12, _⟩ := info_parts info53
        have hroom12 : x0_1.length ≤ co11 := (Kd.V_reads' HO_0.out).2.1
        have hC12 : Kd.F (Kd.int .u64) _ _ (some ad451) x0_1.length x0_1 := (Kd.V_at (base := w.heap.size) HO_0.out).2.2
        have hcut12 := cut_to (P := Try.prog) 35 53 .i64 Try.underlying35 hi012 (some ad451) x0_1.length co11 (ji5) (of_decide_eq_true (by first | (with_reducible assumption) | assumption)) q12 hroom12
        have hr12 := Kd.F_take (m := ((ji5) : Int).toNat) hC12 (by omega)
        have hy12 : y452.length = ((ji5) : Int).toNat := (by rw [Ny452.out, List.length_take]; omega)
        rw [← Ny452.out] at hr12
        rw [← hy12] at hcut12
        have HO456 := ka (show Kd.V (Kd.int .u64) 53 _ w.heap.size _ (.slice (some ad451) y452.length co11) y452 from Kd.V_mk (by omega) hr12)
        have HC456 := ka (show y452.length ≤ co11 from by omega)
        clear hr12 hC12 hroom12 hi012 hsz12
        have KY12 := ka hy12
        clear hy12
        replace q12 := eq_true q12
        go_wp2
        go_roundg k1
        case measure => have := HK1.out; omega
        case rel => exact ⟨(y452), H', ⟨by have := HK1.out; omega⟩, ⟨kv HO456.out⟩, ⟨by (with_reducible repeat (first | apply kb1 | apply kb2 | apply kb3)); exact BK450.out⟩, ⟨by repeat (first | (with_reducible first | exact HB.out | apply kc1 | apply kc2 | apply kc3 | refine kc4 ?_ GE450.out) | exact HB.out)⟩⟩
       ·rw [if_neg c10] at H
        exact absurd H (by simp)
      ·rw [if_neg c8] at H
       have c8b0 : ((rd x0_1 (ji5)) == 0) = false := beq_eq_false_iff_ne.mpr c8
       have c8b1 : ((rd x0_1 (ji5)) != 0) = true := bne_iff_ne.mpr c8
       by_cases c13 : a1 = true
       ·subst c13
        have H1 : (some (x0_1, true)) = some (r1, r2) := by rw [if_pos rfl] at H; exact H
        clear H
        have H := H1
        clear H1
        simp only [Option.some.injEq, Prod.mk.injEq] at H
        obtain ⟨rfl, rfl⟩ := H
        obtain ⟨Ao14, co14, eo14⟩ := Kd.V_slice HO_0.out
        subst eo14
        have p451 : 0 ≤ ((ji5) : Int) := of_decide_eq_true (by first | (with_reducible assumption) | assumption)
        have q451 : (ji5) < (x0_1.length : Int) := of_decide_eq_true (by first | (with_reducible assumption) | assumption)
        obtain ⟨ad451, e451, hx451_0⟩ := Kd.at_int (Kd.V_reads' HO_0.out).2.2 (ji5) p451 q451
        cases e451
        replace p451 := eq_true p451
        replace q451 := eq_true q451
        have hcz15 := blkAll2 BK450.out
        go_wp2
        refine bodyPost_ret (results_cell_row rfl _ _ gb450 37 #[.slice (some ad451) x0_1.length co14, .bool true] (0, 0) _ rfl (by (with_reducible repeat (first | apply kb1 | apply kb2 | apply kb3 | apply blkPut2_1 | apply blkPut2_0)); exact BK450.out) Try.underlying37 rfl (by kernel_rfl)) rfl ?_
        exact ⟨_, by first | rfl | (simp [errW_none, errW_some] <;> rfl) | (simp only [← hji5]; first | rfl | (simp [errW_none, errW_some] <;> rfl)) | (simp [*, errW_none, errW_some] <;> rfl), by (with_reducible repeat (first | apply Kd.V_alloc | apply Kd.V_drewN | apply Kd.V_drew)); exact Kd.V_mono (Kd.V_far (p := ⟨gb450, 1, none⟩) (Kd.V_far (p := ⟨gb450, 0, none⟩) (Kd.V_mono HO_0.out (fun k_ hk => (⟨hk, hk.2⟩ : _ ∧ k_ ≠ gb450))) (fun _ hk => hk.2) (.slice (some ad451) x0_1.length co14)) (fun _ hk => hk.2) (.bool true)) (fun _ hk => hk.1.1), by repeat (first | (with_reducible first | exact HB.out | apply kc1 | apply kc2 | apply kc3 | refine kc4 ?_ GE450.out) | exact HB.out)⟩
       ·replace c13 := Bool.eq_false_iff.mpr c13
        subst c13
        have H1 : (some (x0_1, false)) = some (r1, r2) := by rw [if_neg (show ¬ (false = true) by decide)] at H; exact H
        clear H
        have H := H1
        clear H1
        simp only [Option.some.injEq, Prod.mk.injEq] at H
        obtain ⟨rfl, rfl⟩ := H
        obtain ⟨Ao16, co16, eo16⟩ := Kd.V_slice HO_0.out
        subst eo16
        have p451 : 0 ≤ ((ji5) : Int) := of_decide_eq_true (by first | (with_reducible assumption) | assumption)
        have q451 : (ji5) < (x0_1.length : Int) := of_decide_eq_true (by first | (with_reducible assumption) | assumption)
        obtain ⟨ad451, e451, hx451_0⟩ := Kd.at_int (Kd.V_reads' HO_0.out).2.2 (ji5) p451 q451
        cases e451
        replace p451 := eq_true p451
        replace q451 := eq_true q451
        have hcz17 := blkAll2 BK450.out
        go_wp2
        refine bodyPost_ret (results_cell_row rfl _ _ gb450 37 #[.slice (some ad451) x0_1.length co16, .bool false] (0, 0) _ rfl (by (with_reducible repeat (first | apply kb1 | apply kb2 | apply kb3 | apply blkPut2_1 | apply blkPut2_0)); exact BK450.out) Try.underlying37 rfl (by kernel_rfl)) rfl ?_
        exact ⟨_, by first | rfl | (simp [errW_none, errW_some] <;> rfl) | (simp only [← hji5]; first | rfl | (simp [errW_none, errW_some] <;> rfl)) | (simp [*, errW_none, errW_some] <;> rfl), by (with_reducible repeat (first | apply Kd.V_alloc | apply Kd.V_drewN | apply Kd.V_drew)); exact Kd.V_mono (Kd.V_far (p := ⟨gb450, 1, none⟩) (Kd.V_far (p := ⟨gb450, 0, none⟩) (Kd.V_mono HO_0.out (fun k_ hk => (⟨hk, hk.2⟩ : _ ∧ k_ ≠ gb450))) (fun _ hk => hk.2) (.slice (some ad451) x0_1.length co16)) (fun _ hk => hk.2) (.bool false)) (fun _ hk => hk.1.1), by repeat (first | (with_reducible first | exact HB.out | apply kc1 | apply kc2 | apply kc3 | refine kc4 ?_ GE450.out) | exact HB.out)⟩
     ·rw [if_neg c7] at H
      exact absurd H (by simp)
    ·rw [if_neg c6] at H
     exact absurd H (by simp)
   ·rw [if_neg c4] at H
    have c4b0 : decide (0 < (x0_1.length : Int)) = false := decide_eq_false c4
    have c4b1 : decide (0 < x0_1.length) = false := decide_eq_false (by omega)
    clear c4
    by_cases c18 : a1 = true
    ·subst c18
     have H1 : (some (x0_1, false)) = some (r1, r2) := by rw [if_pos rfl] at H; exact H
     clear H
     have H := H1
     clear H1
     simp only [Option.some.injEq, Prod.mk.injEq] at H
     obtain ⟨rfl, rfl⟩ := H
     obtain ⟨Ao19, co19, eo19⟩ := Kd.V_slice HO_0.out
     subst eo19
     have hcz20 := blkAll2 BK450.out
     go_wp2
     refine bodyPost_ret (results_cell_row rfl _ _ gb450 37 #[.slice Ao19 x0_1.length co19, .bool false] (0, 0) _ rfl (by (with_reducible repeat (first | apply kb1 | apply kb2 | apply kb3 | apply blkPut2_1 | apply blkPut2_0)); exact BK450.out) Try.underlying37 rfl (by kernel_rfl)) rfl ?_
     exact ⟨_, by first | rfl | (simp [errW_none, errW_some] <;> rfl) | (simp [*, errW_none, errW_some] <;> rfl), by (with_reducible repeat (first | apply Kd.V_alloc | apply Kd.V_drewN | apply Kd.V_drew)); exact Kd.V_mono (Kd.V_far (p := ⟨gb450, 1, none⟩) (Kd.V_far (p := ⟨gb450, 0, none⟩) (Kd.V_mono HO_0.out (fun k_ hk => (⟨hk, hk.2⟩ : _ ∧ k_ ≠ gb450))) (fun _ hk => hk.2) (.slice Ao19 x0_1.length co19)) (fun _ hk => hk.2) (.bool false)) (fun _ hk => hk.1.1), by repeat (first | (with_reducible first | exact HB.out | apply kc1 | apply kc2 | apply kc3 | refine kc4 ?_ GE450.out) | exact HB.out)⟩
    ·replace c18 := Bool.eq_false_iff.mpr c18
     subst c18
     have H1 : (some (x0_1, false)) = some (r1, r2) := by rw [if_neg (show ¬ (false = true) by decide)] at H; exact H
     clear H
     have H := H1
     clear H1
     simp only [Option.some.injEq, Prod.mk.injEq] at H
     obtain ⟨rfl, rfl⟩ := H
     obtain ⟨Ao21, co21, eo21⟩ := Kd.V_slice HO_0.out
     subst eo21
     have hcz22 := blkAll2 BK450.out
     go_wp2
     refine bodyPost_ret (results_cell_row rfl _ _ gb450 37 #[.slice Ao21 x0_1.length co21, .bool false] (0, 0) _ rfl (by (with_reducible repeat (first | apply kb1 | apply kb2 | apply kb3 | apply blkPut2_1 | apply blkPut2_0)); exact BK450.out) Try.underlying37 rfl (by kernel_rfl)) rfl ?_
     exact ⟨_, by first | rfl | (simp [errW_none, errW_some] <;> rfl) | (simp [*, errW_none, errW_some] <;> rfl), by (with_reducible repeat (first | apply Kd.V_alloc | apply Kd.V_drewN | apply Kd.V_drew)); exact Kd.V_mono (Kd.V_far (p := ⟨gb450, 1, none⟩) (Kd.V_far (p := ⟨gb450, 0, none⟩) (Kd.V_mono HO_0.out (fun k_ hk => (⟨hk, hk.2⟩ : _ ∧ k_ ≠ gb450))) (fun _ hk => hk.2) (.slice Ao21 x0_1.length co21)) (fun _ hk => hk.2) (.bool false)) (fun _ hk => hk.1.1), by repeat (first | (with_reducible first | exact HB.out | apply kc1 | apply kc2 | apply kc3 | refine kc4 ?_ GE450.out) | exact HB.out)⟩

/-! ### trivetref01_norm: function 25, its laws -/
theorem trivetref01_norm.tells (k : Nat) : ∀ (d : List Int) (m : Bool), U.Dg d → d.length < k → (d.length : Int) < 9223372036854775808 → trivetref01_norm.f k d m = some (U.dig (U.val d), m && !(U.dig (U.val d)).isEmpty) := by
 induction k with
 | zero => intro d m _ h _; omega
 | succ k ih =>
  intro d m hd h hl
  unfold trivetref01_norm.f
  simp only [trivetref01_norm.l0]
  rcases List.eq_nil_or_concat d with rfl | ⟨r, x, rfl⟩
  ·rw [if_neg (by simp)]
   simp only [U.val, U.dig_zero]
   cases m <;> simp
  ·rw [List.concat_eq_append] at *
   have hlen : (r ++ [x]).length = r.length + 1 := by simp
   have hw : wrap64 (((r ++ [x]).length : Int) - 1) = r.length := by rw [hlen, M.w64_id (by omega) (by omega)]; omega
   rw [if_pos (by omega), hw, if_pos (by omega), if_pos (by omega)]
   have hr : rd (r ++ [x]) (r.length : Int) = x := by simp [rd]
   rw [hr]
   by_cases hx : x = 0
   ·subst hx
    rw [if_pos rfl, if_pos (by omega)]
    have ht : (r ++ [(0 : Int)]).take ((r.length : Int)).toNat = r := by simp
    rw [ht, U.val_append, U.val_one, Int.mul_zero, Int.add_zero]
    exact ih r m hd.left (by omega) (by omega)
   ·rw [if_neg hx, U.dig_val_top hd hx]
    cases m <;> simp
theorem trivetref01_norm.num (k : Nat) (d : List Int) (m : Bool) (z : Int) (hd : U.Dg d) (h : d.length < k) (hl : (d.length : Int) < 9223372036854775808) (hz : z = if m = true then -U.val d else U.val d) : trivetref01_norm.f k d m = some (U.num z) := by
 rw [trivetref01_norm.tells k d m hd h hl, U.num_of (U.val_nonneg hd) hz]

end Go.Proofs.Ytonjhfneeejdaaa.P
