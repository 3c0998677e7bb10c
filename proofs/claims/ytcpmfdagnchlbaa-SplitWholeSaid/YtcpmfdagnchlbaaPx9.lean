-- Written by a program of this session out of the translation of the seat: Lean functions and the proofs that the Go functions come to them.
import Derived.Test.YtcpmfdagnchlbaaPx0
import Derived.Test.YtcpmfdagnchlbaaPx3
import Derived.Test.YtcpmfdagnchlbaaPx4
import Derived.Test.YtcpmfdagnchlbaaPx5
import Derived.Test.YtcpmfdagnchlbaaPx6
import Derived.Test.YtcpmfdagnchlbaaPx7
import Derived.Test.YtcpmfdagnchlbaaPx8
namespace Go.Proofs.Ytcpmfdagnchlbaa.P
open Go.RowKit Go.Proofs.YtcpmfdagnchlbaaW.PrintWords Go.Proofs.YtcpmfdagnchlbaaW.PrintLast Go.Proofs.YtcpmfdagnchlbaaW.PrintMore
attribute [local go_sem] max2_int min2_int max_two min_two max_three min_three max_four min_four   -- for this text's walks alone
set_option linter.unusedVariables false
set_option linter.unusedSimpArgs false

/-! ### trivetlaw03_SplitWhole: function 4 -/
mutual
def trivetlaw03_SplitWhole.j0 : Nat → Int → List Int → Bool → List Int → Option Int → Bool → Option (Bool)
 | 0, _, _, _, _, _, _ => none
 | k + 1, x0, x1, x5, x6, x7, x34 => if x34 = true then (if x5 = true then (if x7.isNone = true then (none) else (some true)) else (none)) else (if (x6.length : Int) = (x1.length : Int) then (trivetlaw03_SplitWhole.l0 k x0 x1 x5 x6 0 0 0) else (none))
def trivetlaw03_SplitWhole.l0 : Nat → Int → List Int → Bool → List Int → Int → Int → Int → Option (Bool)
 | 0, _, _, _, _, _, _, _ => none
 | k + 1, x0, x1, x5, x6, x9, x10, x11 => if x11 < (x1.length : Int) then (if 0 ≤ x11 then (if x11 < (x6.length : Int) then (if (rd x6 x11) < 0 then (none) else (if (rd x6 x11) > x0 then (none) else (if (rd x1 x11) = 0 then (if (rd x6 x11) = 0 then (trivetlaw03_SplitWhole.l0 k x0 x1 x5 x6 (wrap64 (x9 + (rd x1 x11))) (wrap64 (x10 + (rd x6 x11))) (wrap64 (x11 + 1))) else (none)) else (trivetlaw03_SplitWhole.l0 k x0 x1 x5 x6 (wrap64 (x9 + (rd x1 x11))) (wrap64 (x10 + (rd x6 x11))) (wrap64 (x11 + 1)))))) else (none)) else (none)) else (trivetlaw03_SplitWhole.l1 k x0 x1 x5 x6 x9 x10 0)
def trivetlaw03_SplitWhole.l1 : Nat → Int → List Int → Bool → List Int → Int → Int → Int → Option (Bool)
 | 0, _, _, _, _, _, _, _ => none
 | k + 1, x0, x1, x5, x6, x9, x10, x12 => if x12 < (x1.length : Int) then ((trivetref01_Of.f k x0).bind fun bt257 => (if 0 ≤ x12 then ((trivetref01_Of.f k (rd x1 x12)).bind fun bt262 => ((trivetref01_Mul.f k bt257.1 bt257.2 bt262.1 bt262.2).bind fun bt266 => (if x12 < (x6.length : Int) then ((trivetref01_Of.f k (rd x6 x12)).bind fun bt272 => ((trivetref01_Of.f k x9).bind fun bt276 => ((trivetref01_Mul.f k bt272.1 bt272.2 bt276.1 bt276.2).bind fun bt280 => ((trivetref01_Neg.f k bt280.1 bt280.2).bind fun bt284 => ((trivetref01_Add.f k bt266.1 bt266.2 bt284.1 bt284.2).bind fun bt288 => ((trivetref01_Of.f k x9).bind fun bt293 => ((trivetref01_Cmp.f k bt288.1 false bt293.1 bt293.2).bind fun t297 => (if t297 ≥ 0 then (none) else (trivetlaw03_SplitWhole.l1 k x0 x1 x5 x6 x9 x10 (wrap64 (x12 + 1))))))))))) else (none)))) else (none))) else (if x5 = true then (some (x10 == x0)) else (none))
end
def trivetlaw03_SplitWhole.f (k : Nat) (a0 : Int) (l1 : List Int) : Option (Bool) := (trivetlaw03_up.f k).bind fun t242 => (if (l1.length : Int) > 500 then (some t242) else ((split_Shares.f k a0 l1).bind fun bt243 => ((trivetref03_May.f k a0 l1).bind fun t247 => (if t247 = true then (if bt243.2.isNone = true then (trivetlaw03_SplitWhole.j0 k a0 l1 t242 bt243.1 none false) else (trivetlaw03_SplitWhole.j0 k a0 l1 t242 bt243.1 (some (bt243.2.getD 0)) true)) else (trivetlaw03_SplitWhole.j0 k a0 l1 t242 bt243.1 bt243.2 true)))))
theorem trivetlaw03_SplitWhole.mono_l : ∀ k, (∀ y0 y1 y2 y3 y4 y5, LeO (trivetlaw03_SplitWhole.j0 k y0 y1 y2 y3 y4 y5) (trivetlaw03_SplitWhole.j0 (k + 1) y0 y1 y2 y3 y4 y5)) ∧ (∀ y0 y1 y2 y3 y4 y5 y6, LeO (trivetlaw03_SplitWhole.l0 k y0 y1 y2 y3 y4 y5 y6) (trivetlaw03_SplitWhole.l0 (k + 1) y0 y1 y2 y3 y4 y5 y6)) ∧ (∀ y0 y1 y2 y3 y4 y5 y6, LeO (trivetlaw03_SplitWhole.l1 k y0 y1 y2 y3 y4 y5 y6) (trivetlaw03_SplitWhole.l1 (k + 1) y0 y1 y2 y3 y4 y5 y6))
 | 0 => ⟨fun _ _ _ _ _ _ r h => by simp [trivetlaw03_SplitWhole.j0] at h, fun _ _ _ _ _ _ _ r h => by simp [trivetlaw03_SplitWhole.l0] at h, fun _ _ _ _ _ _ _ r h => by simp [trivetlaw03_SplitWhole.l1] at h⟩
 | k + 1 => by
  obtain ⟨ih0, ih1, ih2⟩ := trivetlaw03_SplitWhole.mono_l k
  refine ⟨?_, ?_, ?_⟩
  ·intro y0 y1 y2 y3 y4 y5
   unfold trivetlaw03_SplitWhole.j0
   repeat' first
   | (with_reducible exact ih0 _ _ _ _ _ _)
   | (with_reducible exact ih1 _ _ _ _ _ _ _)
   | (with_reducible exact ih2 _ _ _ _ _ _ _)
   | (with_reducible exact split_Shares.mono _ _ _)
   | (with_reducible exact trivetlaw03_up.mono _)
   | (with_reducible exact trivetref01_Add.mono _ _ _ _ _)
   | (with_reducible exact trivetref01_Cmp.mono _ _ _ _ _)
   | (with_reducible exact trivetref01_Mul.mono _ _ _ _ _)
   | (with_reducible exact trivetref01_Neg.mono _ _ _)
   | (with_reducible exact trivetref01_Of.mono _ _)
   | (with_reducible exact trivetref03_May.mono _ _ _)
   | (with_reducible exact LeO.refl _)
   | (with_reducible exact LeO.none _)
   | (with_reducible refine LeO.ite ?_ ?_)
   | (with_reducible refine LeO.bind ?_ (fun _ => ?_))
   | exact ih0 _ _ _ _ _ _
   | exact ih1 _ _ _ _ _ _ _
   | exact ih2 _ _ _ _ _ _ _
   | exact split_Shares.mono _ _ _
   | exact trivetlaw03_up.mono _
   | exact trivetref01_Add.mono _ _ _ _ _
   | exact trivetref01_Cmp.mono _ _ _ _ _
   | exact trivetref01_Mul.mono _ _ _ _ _
   | exact trivetref01_Neg.mono _ _ _
   | exact trivetref01_Of.mono _ _
   | exact trivetref03_May.mono _ _ _
   | exact LeO.none _
   | refine LeO.ite ?_ ?_
   | refine LeO.bind ?_ (fun _ => ?_)
  ·intro y0 y1 y2 y3 y4 y5 y6
   unfold trivetlaw03_SplitWhole.l0
   repeat' first
   | (with_reducible exact ih0 _ _ _ _ _ _)
   | (with_reducible exact ih1 _ _ _ _ _ _ _)
   | (with_reducible exact ih2 _ _ _ _ _ _ _)
   | (with_reducible exact split_Shares.mono _ _ _)
   | (with_reducible exact trivetlaw03_up.mono _)
   | (with_reducible exact trivetref01_Add.mono _ _ _ _ _)
   | (with_reducible exact trivetref01_Cmp.mono _ _ _ _ _)
   | (with_reducible exact trivetref01_Mul.mono _ _ _ _ _)
   | (with_reducible exact trivetref01_Neg.mono _ _ _)
   | (with_reducible exact trivetref01_Of.mono _ _)
   | (with_reducible exact trivetref03_May.mono _ _ _)
   | (with_reducible exact LeO.refl _)
   | (with_reducible exact LeO.none _)
   | (with_reducible refine LeO.ite ?_ ?_)
   | (with_reducible refine LeO.bind ?_ (fun _ => ?_))
   | exact ih0 _ _ _ _ _ _
   | exact ih1 _ _ _ _ _ _ _
   | exact ih2 _ _ _ _ _ _ _
   | exact split_Shares.mono _ _ _
   | exact trivetlaw03_up.mono _
   | exact trivetref01_Add.mono _ _ _ _ _
   | exact trivetref01_Cmp.mono _ _ _ _ _
   | exact trivetref01_Mul.mono _ _ _ _ _
   | exact trivetref01_Neg.mono _ _ _
   | exact trivetref01_Of.mono _ _
   | exact trivetref03_May.mono _ _ _
   | exact LeO.none _
   | refine LeO.ite ?_ ?_
   | refine LeO.bind ?_ (fun _ => ?_)
  ·intro y0 y1 y2 y3 y4 y5 y6
   unfold trivetlaw03_SplitWhole.l1
   repeat' first
   | (with_reducible exact ih0 _ _ _ _ _ _)
   | (with_reducible exact ih1 _ _ _ _ _ _ _)
   | (with_reducible exact ih2 _ _ _ _ _ _ _)
   | (with_reducible exact split_Shares.mono _ _ _)
   | (with_reducible exact trivetlaw03_up.mono _)
   | (with_reducible exact trivetref01_Add.mono _ _ _ _ _)
   | (with_reducible exact trivetref01_Cmp.mono _ _ _ _ _)
   | (with_reducible exact trivetref01_Mul.mono _ _ _ _ _)
   | (with_reducible exact trivetref01_Neg.mono _ _ _)
   | (with_reducible exact trivetref01_Of.mono _ _)
   | (with_reducible exact trivetref03_May.mono _ _ _)
   | (with_reducible exact LeO.refl _)
   | (with_reducible exact LeO.none _)
   | (with_reducible refine LeO.ite ?_ ?_)
   | (with_reducible refine LeO.bind ?_ (fun _ => ?_))
   | exact ih0 _ _ _ _ _ _
   | exact ih1 _ _ _ _ _ _ _
   | exact ih2 _ _ _ _ _ _ _
   | exact split_Shares.mono _ _ _
   | exact trivetlaw03_up.mono _
   | exact trivetref01_Add.mono _ _ _ _ _
   | exact trivetref01_Cmp.mono _ _ _ _ _
   | exact trivetref01_Mul.mono _ _ _ _ _
   | exact trivetref01_Neg.mono _ _ _
   | exact trivetref01_Of.mono _ _
   | exact trivetref03_May.mono _ _ _
   | exact LeO.none _
   | refine LeO.ite ?_ ?_
   | refine LeO.bind ?_ (fun _ => ?_)
theorem trivetlaw03_SplitWhole.mono : ∀ a0 a1 k, LeO (trivetlaw03_SplitWhole.f k a0 a1) (trivetlaw03_SplitWhole.f (k + 1) a0 a1) := by
 intro a0 a1 k
 obtain ⟨ih0, ih1, ih2⟩ := trivetlaw03_SplitWhole.mono_l k
 unfold trivetlaw03_SplitWhole.f
 repeat' first
   | (with_reducible exact ih0 _ _ _ _ _ _)
   | (with_reducible exact ih1 _ _ _ _ _ _ _)
   | (with_reducible exact ih2 _ _ _ _ _ _ _)
   | (with_reducible exact split_Shares.mono _ _ _)
   | (with_reducible exact trivetlaw03_up.mono _)
   | (with_reducible exact trivetref01_Add.mono _ _ _ _ _)
   | (with_reducible exact trivetref01_Cmp.mono _ _ _ _ _)
   | (with_reducible exact trivetref01_Mul.mono _ _ _ _ _)
   | (with_reducible exact trivetref01_Neg.mono _ _ _)
   | (with_reducible exact trivetref01_Of.mono _ _)
   | (with_reducible exact trivetref03_May.mono _ _ _)
   | (with_reducible exact LeO.refl _)
   | (with_reducible exact LeO.none _)
   | (with_reducible refine LeO.ite ?_ ?_)
   | (with_reducible refine LeO.bind ?_ (fun _ => ?_))
   | exact ih0 _ _ _ _ _ _
   | exact ih1 _ _ _ _ _ _ _
   | exact ih2 _ _ _ _ _ _ _
   | exact split_Shares.mono _ _ _
   | exact trivetlaw03_up.mono _
   | exact trivetref01_Add.mono _ _ _ _ _
   | exact trivetref01_Cmp.mono _ _ _ _ _
   | exact trivetref01_Mul.mono _ _ _ _ _
   | exact trivetref01_Neg.mono _ _ _
   | exact trivetref01_Of.mono _ _
   | exact trivetref03_May.mono _ _ _
   | exact LeO.none _
   | refine LeO.ite ?_ ?_
   | refine LeO.bind ?_ (fun _ => ?_)
def trivetlaw03_SplitWhole.T22 : Bool × List (List Nat × List Nat) := (true, [([], []), ([0], [0]), ([], []), ([], []), ([2, 3], [2, 3]), ([4], [4]), ([5, 1], [5]), ([1, 6, 6], [1, 6]), ([], []), ([8, 7, 7, 0, 1, 2, 3, 4, 5, 6, 7, 8], [7, 8])])
def trivetlaw03_SplitWhole.B22 : List Nat := [0, 1, 0, 0, 12, 28, 63, 127, 0, 511]
theorem trivetlaw03_SplitWhole.tab22 : rtab .any (opsOf Try.f4 22) = trivetlaw03_SplitWhole.T22 := by kernel_rfl
theorem trivetlaw03_SplitWhole.bits22 : waitsOk trivetlaw03_SplitWhole.T22.2 trivetlaw03_SplitWhole.B22 = true := by kernel_rfl
def trivetlaw03_SplitWhole.T23 : Bool × List (List Nat × List Nat) := (true, [([], []), ([], []), ([], []), ([1, 2], [1, 2]), ([3], [3]), ([4], [4]), ([], []), ([6, 5], [6]), ([5, 7, 7], [5, 7]), ([8, 8], [8]), ([0, 9, 9], [0, 9]), ([], []), ([11, 10, 10, 0, 1, 2, 3, 4, 5, 6, 7, 8, 9, 10, 11], [10, 11])])
def trivetlaw03_SplitWhole.B23 : List Nat := [0, 0, 0, 6, 14, 30, 0, 126, 254, 510, 1023, 0, 4095]
theorem trivetlaw03_SplitWhole.tab23 : rtab .any (opsOf Try.f4 23) = trivetlaw03_SplitWhole.T23 := by kernel_rfl
theorem trivetlaw03_SplitWhole.bits23 : waitsOk trivetlaw03_SplitWhole.T23.2 trivetlaw03_SplitWhole.B23 = true := by kernel_rfl
set_option maxHeartbeats 8000000 in
set_option maxRecDepth 100000 in
theorem trivetlaw03_SplitWhole.calls (k : Nat) (a0 : Int) (A1 : Option Addr) (c1 : Nat) (l1 : List Int) (r : Bool) (w : World) (hr1 : Kd.C (Kd.int .i64) w A1 l1.length l1) (hc1 : l1.length ≤ c1) (h : trivetlaw03_SplitWhole.f k a0 l1 = some r) :
  Calls Try.prog 4 #[.int .i64 a0, .slice A1 l1.length c1] w fun e w' => e = .returned (.bool r) ∧ Below w.heap.size w w' := by
 have hu34 := Try.underlying34
 have hu25 := Try.underlying25
 have hu29 := Try.underlying29
 have HR1 := ka hr1
 have HC1 := ka hc1
 clear hr1 hc1
 have HB := ka (Below.refl w.heap.size w)
 have H : ((trivetlaw03_up.f k).bind fun t242 => (if (l1.length : Int) > 500 then (some t242) else ((split_Shares.f k a0 l1).bind fun bt243 => ((trivetref03_May.f k a0 l1).bind fun t247 => (if t247 = true then (if bt243.2.isNone = true then (trivetlaw03_SplitWhole.j0 k a0 l1 t242 bt243.1 none false) else (trivetlaw03_SplitWhole.j0 k a0 l1 t242 bt243.1 (some (bt243.2.getD 0)) true)) else (trivetlaw03_SplitWhole.j0 k a0 l1 t242 bt243.1 bt243.2 true)))))) = some r := h
 clear h
 replace H := Option.bind_eq_some_iff.mp H
 obtain ⟨t242, A30, H⟩ := H
 replace H : (if (l1.length : Int) > 500 then (some t242) else ((split_Shares.f k a0 l1).bind fun bt243 => ((trivetref03_May.f k a0 l1).bind fun t247 => (if t247 = true then (if bt243.2.isNone = true then (trivetlaw03_SplitWhole.j0 k a0 l1 t242 bt243.1 none false) else (trivetlaw03_SplitWhole.j0 k a0 l1 t242 bt243.1 (some (bt243.2.getD 0)) true)) else (trivetlaw03_SplitWhole.j0 k a0 l1 t242 bt243.1 bt243.2 true))))) = some r := H
 have A3 := ka A30
 clear A30
 by_cases c4 : (l1.length : Int) > 500
 ·rw [if_pos c4] at H
  have c4b0 : decide (500 < (l1.length : Int)) = true := decide_eq_true c4
  have c4b1 : decide (500 < l1.length) = true := decide_eq_true (by omega)
  clear c4
  obtain rfl := Option.some.inj H
  go_enter Try.func4, Try.ntmps4
  go_wp2_with (first | ((with_reducible refine gate_callee (f := 9) rfl ?_); refine kg (some 15) rfl rfl Try.func9 (by kernel_rfl) rfl #[] rfl ?_; (with_reducible refine (trivetlaw03_up.calls k  t242 _ A3.out).mono ?_); rintro e w5 ⟨rfl, hb⟩; refine ⟨_, rfl, ?_⟩; replace HB := ka (below_step (kw HB.out) hb); (try clear hb); (try clear hb2); (try clear hk); (try clear hi)))
  go_ret
  exact ⟨by first | rfl | (simp [errW_none, errW_some] <;> rfl) | (simp [*, errW_none, errW_some] <;> rfl), by repeat (first | (with_reducible first | exact HB.out | apply kc1 | apply kc2 | apply kc3) | exact HB.out)⟩
 ·rw [if_neg c4] at H
  have c4b0 : decide (500 < (l1.length : Int)) = false := decide_eq_false c4
  have c4b1 : decide (500 < l1.length) = false := decide_eq_false (by omega)
  clear c4
  replace H := Option.bind_eq_some_iff.mp H
  obtain ⟨⟨t243, t244⟩, A60, H⟩ := H
  replace H : ((trivetref03_May.f k a0 l1).bind fun t247 => (if t247 = true then (if t244.isNone = true then (trivetlaw03_SplitWhole.j0 k a0 l1 t242 t243 none false) else (trivetlaw03_SplitWhole.j0 k a0 l1 t242 t243 (some (t244.getD 0)) true)) else (trivetlaw03_SplitWhole.j0 k a0 l1 t242 t243 t244 true))) = some r := H
  have A6 := ka A60
  clear A60
  replace H := Option.bind_eq_some_iff.mp H
  obtain ⟨t247, A70, H⟩ := H
  replace H : (if t247 = true then (if t244.isNone = true then (trivetlaw03_SplitWhole.j0 k a0 l1 t242 t243 none false) else (trivetlaw03_SplitWhole.j0 k a0 l1 t242 t243 (some (t244.getD 0)) true)) else (trivetlaw03_SplitWhole.j0 k a0 l1 t242 t243 t244 true)) = some r := H
  have A7 := ka A70
  clear A70
  have HC8 := ka H
  clear H
  go_enter Try.func4, Try.ntmps4
  go_upto_region 6 with (first | ((with_reducible refine gate_callee (f := 9) rfl ?_); refine kg (some 15) rfl rfl Try.func9 (by kernel_rfl) rfl #[] rfl ?_; (with_reducible refine (trivetlaw03_up.calls k  t242 _ A3.out).mono ?_); rintro e w9 ⟨rfl, hb⟩; refine ⟨_, rfl, ?_⟩; replace HB := ka (below_step (kw HB.out) hb); (try clear hb); (try clear hb2); (try clear hk); (try clear hi)) | ((with_reducible refine gate_callee (f := 10) rfl ?_); refine kg (some 23) rfl rfl Try.func10 (by kernel_rfl) rfl #[.int .i64 a0, .slice A1 l1.length c1] rfl ?_; (with_reducible refine (split_Shares.calls k a0 _ _ l1 t243 t244 _ ?side1 ?side2 A6.out).mono ?_); (case side1 => repeat (first | exact (Kd.C_below HR1.out HB.out) | (with_reducible refine Kd.C_alloc ?_ _) | (with_reducible refine Kd.C_drewN ?_ _) | (with_reducible refine Kd.C_drew ?_))); (case side2 => exact HC1.out); rintro e w10 ⟨v245, rfl, ho0, hb⟩; refine ⟨_, rfl, ?_⟩; have HO246 := ka (Kd.R_lower ho0 (below_size (kw HB.out))); replace HB := ka (below_step (kw HB.out) hb); (try clear hb); (try clear hb2); (try clear hk); (try clear hi); (try clear ho0); (try simp only [errW_none, errW_some])) | ((with_reducible refine gate_callee (f := 11) rfl ?_); refine kg (some 28) rfl rfl Try.func11 (by kernel_rfl) rfl #[.int .i64 a0, .slice A1 l1.length c1] rfl ?_; (with_reducible refine (trivetref03_May.calls k a0 _ _ l1 t247 _ ?side1 ?side2 A7.out).mono ?_); (case side1 => repeat (first | exact (Kd.C_below HR1.out HB.out) | (with_reducible refine Kd.C_alloc ?_ _) | (with_reducible refine Kd.C_drewN ?_ _) | (with_reducible refine Kd.C_drew ?_))); (case side2 => exact HC1.out); rintro e w' ⟨rfl, ⟨nd, rfl⟩⟩; refine ⟨_, rfl, ?_⟩))
  (try simp only [Act.put, List.setIfInBounds_toArray, List.set_cons_zero, List.set_cons_succ])
  go_cut [34] (fun v34 wc => ∃ (kq : Nat) (x34_7 : Bool), v34 = .bool x34_7 ∧ Aside0 (trivetlaw03_SplitWhole.j0 kq a0 l1 t242 t243 t244 x34_7 = some r) ∧ Aside0 (kq ≤ k) ∧ Aside0 (Kd.R (Kd.int .i64) 2 wc w.heap.size (fun _ => True) v245 t243) ∧ Aside0 (Below w.heap.size w wc))
  case first =>
   have H := HC8.out
   clear HC8
   by_cases c11 : t247 = true
   ·subst c11
    have H1 : (if t244.isNone = true then (trivetlaw03_SplitWhole.j0 k a0 l1 t242 t243 none false) else (trivetlaw03_SplitWhole.j0 k a0 l1 t242 t243 (some (t244.getD 0)) true)) = some r := by rw [if_pos rfl] at H; exact H
    clear H
    have H := H1
    clear H1
    rcases t244 with _ | q248
    ·have H1 : (trivetlaw03_SplitWhole.j0 k a0 l1 t242 t243 none false) = some r := by rw [if_pos (show (none : Option Int).isNone = true by rfl)] at H; exact H
     clear H
     have H := H1
     clear H1
     try simp only [errW_none, errW_some]
     have H' := ka H
     clear H
     go_wp2
     go_meet
     case rel => exact ⟨_, (false), (by first | rfl | (simp; done) | (simp [*]; done)), H', ⟨by first | omega | exact Nat.le_refl _⟩, ⟨kr HO246.out⟩, ⟨by repeat (first | (with_reducible first | exact HB.out | apply kc1 | apply kc2 | apply kc3) | exact HB.out)⟩⟩
    ·have H1 : (trivetlaw03_SplitWhole.j0 k a0 l1 t242 t243 (some q248) true) = some r := by rw [if_neg (show ¬ (some q248).isNone = true by simp)] at H; exact H
     clear H
     have H := H1
     clear H1
     try simp only [errW_none, errW_some]
     have H' := ka H
     clear H
     go_wp2
     go_meet
     case rel => exact ⟨_, (true), (by first | rfl | (simp; done) | (simp [*]; done)), H', ⟨by first | omega | exact Nat.le_refl _⟩, ⟨kr HO246.out⟩, ⟨by repeat (first | (with_reducible first | exact HB.out | apply kc1 | apply kc2 | apply kc3) | exact HB.out)⟩⟩
   ·replace c11 := Bool.eq_false_iff.mpr c11
    subst c11
    have H1 : (trivetlaw03_SplitWhole.j0 k a0 l1 t242 t243 t244 true) = some r := by rw [if_neg (show ¬ (false = true) by decide)] at H; exact H
    clear H
    have H := H1
    clear H1
    have H' := ka H
    clear H
    go_wp2
    go_meet
    case rel => exact ⟨_, (true), (by first | rfl | (simp; done) | (simp [*]; done)), H', ⟨by first | omega | exact Nat.le_refl _⟩, ⟨kr HO246.out⟩, ⟨by repeat (first | (with_reducible first | exact HB.out | apply kc1 | apply kc2 | apply kc3) | exact HB.out)⟩⟩
  case rest =>
   clear HC8
   try clear c1
   try clear p2
   try clear q2
   try clear c4
   try clear c4b0
   try clear c4b1
   try clear c9
   try clear c10
   try clear c11
   try clear q248
   obtain ⟨kq, x34_7, rfl, HA, HJ7, HO_6, HB⟩ := hcut
   cases kq with
   | zero => exact absurd HA.out (by simp [trivetlaw03_SplitWhole.j0])
   | succ kj7 =>
    have H := HA.out
    clear HA
    simp only [trivetlaw03_SplitWhole.j0] at H
    by_cases c12 : x34_7 = true
    ·subst c12
     have H1 : (if t242 = true then (if t244.isNone = true then (none) else (some true)) else (none)) = some r := by rw [if_pos rfl] at H; exact H
     clear H
     have H := H1
     clear H1
     by_cases c13 : t242 = true
     ·subst c13
      have H1 : (if t244.isNone = true then (none) else (some true)) = some r := by rw [if_pos rfl] at H; exact H
      clear H
      have H := H1
      clear H1
      rcases t244 with _ | q249
      ·have H1 : (none) = some r := by rw [if_pos (show (none : Option Int).isNone = true by rfl)] at H; exact H
       clear H
       have H := H1
       clear H1
       try simp only [errW_none, errW_some]
       exact absurd H (by simp)
      ·have H1 : (some true) = some r := by rw [if_neg (show ¬ (some q249).isNone = true by simp)] at H; exact H
       clear H
       have H := H1
       clear H1
       try simp only [errW_none, errW_some]
       obtain rfl := Option.some.inj H
       go_wp2
       go_ret
       exact ⟨by first | rfl | (simp [errW_none, errW_some] <;> rfl) | (simp [*, errW_none, errW_some] <;> rfl), by repeat (first | (with_reducible first | exact HB.out | apply kc1 | apply kc2 | apply kc3) | exact HB.out)⟩
     ·replace c13 := Bool.eq_false_iff.mpr c13
      subst c13
      have H1 : (none) = some r := by rw [if_neg (show ¬ (false = true) by decide)] at H; exact H
      clear H
      have H := H1
      clear H1
      exact absurd H (by simp)
    ·replace c12 := Bool.eq_false_iff.mpr c12
     subst c12
     have H1 : (if (t243.length : Int) = (l1.length : Int) then (trivetlaw03_SplitWhole.l0 kj7 a0 l1 t242 t243 0 0 0) else (none)) = some r := by rw [if_neg (show ¬ (false = true) by decide)] at H; exact H
     clear H
     have H := H1
     clear H1
     by_cases c14 : (t243.length : Int) = (l1.length : Int)
     ·rw [if_pos c14] at H
      have c14b0 : ((t243.length : Int) == (l1.length : Int)) = true := beq_iff_eq.mpr c14
      have c14b1 : ((t243.length : Int) != (l1.length : Int)) = false := bne_eq_false_iff_eq.mpr c14
      have c14b2 : (t243.length == l1.length) = true := by first | simpa using c14 | (simp at c14 ⊢; omega)
      clear c14
      have H' := ka H
      clear H
      obtain ⟨Ao15, co15, eo15⟩ := Kd.R_slice HO_6.out
      subst eo15
      go_wp2
      (try simp only [Act.put, List.setIfInBounds_toArray, List.set_cons_zero, List.set_cons_succ])
      go_loopg [9, 10, 11] kj7 (fun kq v9 v10 v11 w' => ∃ (x9_2 : Int) (x10_2 : Int) (x11_2 : Int), v9 = .int .i64 x9_2 ∧ v10 = .int .i64 x10_2 ∧ v11 = .int .i64 x11_2 ∧ Aside0 (trivetlaw03_SplitWhole.l0 kq a0 l1 t242 t243 x9_2 x10_2 x11_2 = some r) ∧ Aside0 (kq ≤ kj7) ∧ Aside0 (Kd.R (Kd.int .i64) 2 w' w.heap.size (fun _ => True) (.slice Ao15 t243.length co15) t243) ∧ Aside0 (Below w.heap.size w w'))
      case atStart => exact ⟨(0), (0), (0), (by first | rfl | (simp; done) | (simp [*]; done)), (by first | rfl | (simp; done) | (simp [*]; done)), (by first | rfl | (simp; done) | (simp [*]; done)), H', ⟨Nat.le_refl _⟩, ⟨kr HO_6.out⟩, ⟨by repeat (first | (with_reducible first | exact HB.out | apply kc1 | apply kc2 | apply kc3) | exact HB.out)⟩⟩
      case round =>
       clear H'
       try clear c1
       try clear p2
       try clear q2
       try clear c4
       try clear c4b0
       try clear c4b1
       try clear c9
       try clear c10
       try clear c11
       try clear c12
       try clear c13
       try clear c14
       try clear c14b0
       try clear c14b1
       try clear c14b2
       try clear p2
       try clear q2
       try clear q248
       try clear q249
       obtain ⟨x9_2, x10_2, x11_2, rfl, rfl, rfl, HA, HK2, HO_6, HB⟩ := hrel
       cases gk with
       | zero => exact absurd HA.out (by simp [trivetlaw03_SplitWhole.l0])
       | succ k2 =>
        have H := HA.out
        clear HA
        simp only [trivetlaw03_SplitWhole.l0] at H
        by_cases c16 : x11_2 < (l1.length : Int)
        ·rw [if_pos c16] at H
         have c16b0 : decide (x11_2 < (l1.length : Int)) = true := decide_eq_true c16
         clear c16
         by_cases c17 : 0 ≤ x11_2
         ·rw [if_pos c17] at H
          have c17b0 : decide (0 ≤ x11_2) = true := decide_eq_true c17
          clear c17
          by_cases c18 : x11_2 < (t243.length : Int)
          ·rw [if_pos c18] at H
           have c18b0 : decide (x11_2 < (t243.length : Int)) = true := decide_eq_true c18
           clear c18
           by_cases c19 : (rd t243 x11_2) < 0
           ·rw [if_pos c19] at H
            exact absurd H (by simp)
           ·rw [if_neg c19] at H
            have c19b0 : decide ((rd t243 x11_2) < 0) = false := decide_eq_false c19
            clear c19
            by_cases c20 : (rd t243 x11_2) > a0
            ·rw [if_pos c20] at H
             exact absurd H (by simp)
            ·rw [if_neg c20] at H
             have c20b0 : decide (a0 < (rd t243 x11_2)) = false := decide_eq_false c20
             clear c20
             by_cases c21 : (rd l1 x11_2) = 0
             ·rw [if_pos c21] at H
              have c21b0 : ((rd l1 x11_2) == 0) = true := beq_iff_eq.mpr c21
              have c21b1 : ((rd l1 x11_2) != 0) = false := bne_eq_false_iff_eq.mpr c21
              clear c21
              by_cases c22 : (rd t243 x11_2) = 0
              ·rw [if_pos c22] at H
               have c22b0 : ((rd t243 x11_2) == 0) = true := beq_iff_eq.mpr c22
               have c22b1 : ((rd t243 x11_2) != 0) = false := bne_eq_false_iff_eq.mpr c22
               clear c22
               have H' := ka H
               clear H
               have p250 : 0 ≤ (x11_2 : Int) := of_decide_eq_true (by first | (with_reducible assumption) | assumption)
               have q250 : x11_2 < (l1.length : Int) := of_decide_eq_true (by first | (with_reducible assumption) | assumption)
               obtain ⟨ad250, e250, hx250_0⟩ := Kd.at_int HR1.out x11_2 p250 q250
               cases e250
               replace hx250_0 := (HB.out.cell (World.block_lt_of_cell? w _ hx250_0)).trans hx250_0
               replace p250 := eq_true p250
               replace q250 := eq_true q250
               have p251 : 0 ≤ (x11_2 : Int) := of_decide_eq_true (by first | (with_reducible assumption) | assumption)
               have q251 : x11_2 < (t243.length : Int) := of_decide_eq_true (by first | (with_reducible assumption) | assumption)
               obtain ⟨ad251, e251, hx251_0⟩ := Kd.at_int (Kd.R_reads' HO_6.out).2.2 x11_2 p251 q251
               cases e251
               replace p251 := eq_true p251
               replace q251 := eq_true q251
               have p252 : 0 ≤ (x11_2 : Int) := of_decide_eq_true (by first | (with_reducible assumption) | assumption)
               have q252 : x11_2 < (t243.length : Int) := of_decide_eq_true (by first | (with_reducible assumption) | assumption)
               obtain ⟨ad252, e252, hx252_0⟩ := Kd.at_int (Kd.R_reads' HO_6.out).2.2 x11_2 p252 q252
               obtain rfl : ad251 = ad252 := (by injection e252)
               replace p252 := eq_true p252
               replace q252 := eq_true q252
               have p253 : 0 ≤ (x11_2 : Int) := of_decide_eq_true (by first | (with_reducible assumption) | assumption)
               have q253 : x11_2 < (l1.length : Int) := of_decide_eq_true (by first | (with_reducible assumption) | assumption)
               obtain ⟨ad253, e253, hx253_0⟩ := Kd.at_int HR1.out x11_2 p253 q253
               obtain rfl : ad250 = ad253 := (by injection e253)
               replace hx253_0 := (HB.out.cell (World.block_lt_of_cell? w _ hx253_0)).trans hx253_0
               replace p253 := eq_true p253
               replace q253 := eq_true q253
               have p254 : 0 ≤ (x11_2 : Int) := of_decide_eq_true (by first | (with_reducible assumption) | assumption)
               have q254 : x11_2 < (t243.length : Int) := of_decide_eq_true (by first | (with_reducible assumption) | assumption)
               obtain ⟨ad254, e254, hx254_0⟩ := Kd.at_int (Kd.R_reads' HO_6.out).2.2 x11_2 p254 q254
               obtain rfl : ad251 = ad254 := (by injection e254)
               replace p254 := eq_true p254
               replace q254 := eq_true q254
               have p255 : 0 ≤ (x11_2 : Int) := of_decide_eq_true (by first | (with_reducible assumption) | assumption)
               have q255 : x11_2 < (t243.length : Int) := of_decide_eq_true (by first | (with_reducible assumption) | assumption)
               obtain ⟨ad255, e255, hx255_0⟩ := Kd.at_int (Kd.R_reads' HO_6.out).2.2 x11_2 p255 q255
               obtain rfl : ad251 = ad255 := (by injection e255)
               replace p255 := eq_true p255
               replace q255 := eq_true q255
               go_wp2
               go_roundg k2
               case measure => have := HJ7.out; have := HK2.out; omega
               case rel => exact ⟨(wrap64 (x9_2 + (rd l1 x11_2))), (wrap64 (x10_2 + (rd t243 x11_2))), (wrap64 (x11_2 + 1)), (by first | rfl | (simp; done) | (simp [*]; done)), (by first | rfl | (simp; done) | (simp [*]; done)), (by first | rfl | (simp; done) | (simp [*]; done)), H', ⟨by have := HJ7.out; have := HK2.out; omega⟩, ⟨kr HO_6.out⟩, ⟨by repeat (first | (with_reducible first | exact HB.out | apply kc1 | apply kc2 | apply kc3) | exact HB.out)⟩⟩
              ·rw [if_neg c22] at H
               exact absurd H (by simp)
             ·rw [if_neg c21] at H
              have c21b0 : ((rd l1 x11_2) == 0) = false := beq_eq_false_iff_ne.mpr c21
              have c21b1 : ((rd l1 x11_2) != 0) = true := bne_iff_ne.mpr c21
              have H' := ka H
              clear H
              have p250 : 0 ≤ (x11_2 : Int) := of_decide_eq_true (by first | (with_reducible assumption) | assumption)
              have q250 : x11_2 < (l1.length : Int) := of_decide_eq_true (by first | (with_reducible assumption) | assumption)
              obtain ⟨ad250, e250, hx250_0⟩ := Kd.at_int HR1.out x11_2 p250 q250
              cases e250
              replace hx250_0 := (HB.out.cell (World.block_lt_of_cell? w _ hx250_0)).trans hx250_0
              replace p250 := eq_true p250
              replace q250 := eq_true q250
              have p251 : 0 ≤ (x11_2 : Int) := of_decide_eq_true (by first | (with_reducible assumption) | assumption)
              have q251 : x11_2 < (t243.length : Int) := of_decide_eq_true (by first | (with_reducible assumption) | assumption)
              obtain ⟨ad251, e251, hx251_0⟩ := Kd.at_int (Kd.R_reads' HO_6.out).2.2 x11_2 p251 q251
              cases e251
              replace p251 := eq_true p251
              replace q251 := eq_true q251
              have p252 : 0 ≤ (x11_2 : Int) := of_decide_eq_true (by first | (with_reducible assumption) | assumption)
              have q252 : x11_2 < (t243.length : Int) := of_decide_eq_true (by first | (with_reducible assumption) | assumption)
              obtain ⟨ad252, e252, hx252_0⟩ := Kd.at_int (Kd.R_reads' HO_6.out).2.2 x11_2 p252 q252
              obtain rfl : ad251 = ad252 := (by injection e252)
              replace p252 := eq_true p252
              replace q252 := eq_true q252
              have p253 : 0 ≤ (x11_2 : Int) := of_decide_eq_true (by first | (with_reducible assumption) | assumption)
              have q253 : x11_2 < (l1.length : Int) := of_decide_eq_true (by first | (with_reducible assumption) | assumption)
              obtain ⟨ad253, e253, hx253_0⟩ := Kd.at_int HR1.out x11_2 p253 q253
              obtain rfl : ad250 = ad253 := (by injection e253)
              replace hx253_0 := (HB.out.cell (World.block_lt_of_cell? w _ hx253_0)).trans hx253_0
              replace p253 := eq_true p253
              replace q253 := eq_true q253
              have p256 : 0 ≤ (x11_2 : Int) := of_decide_eq_true (by first | (with_reducible assumption) | assumption)
              have q256 : x11_2 < (t243.length : Int) := of_decide_eq_true (by first | (with_reducible assumption) | assumption)
              obtain ⟨ad256, e256, hx256_0⟩ := Kd.at_int (Kd.R_reads' HO_6.out).2.2 x11_2 p256 q256
              obtain rfl : ad251 = ad256 := (by injection e256)
              replace p256 := eq_true p256
              replace q256 := eq_true q256
              go_wp2
              go_roundg k2
              case measure => have := HJ7.out; have := HK2.out; omega
              case rel => exact ⟨(wrap64 (x9_2 + (rd l1 x11_2))), (wrap64 (x10_2 + (rd t243 x11_2))), (wrap64 (x11_2 + 1)), (by first | rfl | (simp; done) | (simp [*]; done)), (by first | rfl | (simp; done) | (simp [*]; done)), (by first | rfl | (simp; done) | (simp [*]; done)), H', ⟨by have := HJ7.out; have := HK2.out; omega⟩, ⟨kr HO_6.out⟩, ⟨by repeat (first | (with_reducible first | exact HB.out | apply kc1 | apply kc2 | apply kc3) | exact HB.out)⟩⟩
          ·rw [if_neg c18] at H
           exact absurd H (by simp)
         ·rw [if_neg c17] at H
          exact absurd H (by simp)
        ·rw [if_neg c16] at H
         have c16b0 : decide (x11_2 < (l1.length : Int)) = false := decide_eq_false c16
         clear c16
         have H' := ka H
         clear H
         go_wp2
         (try simp only [Act.put, List.setIfInBounds_toArray, List.set_cons_zero, List.set_cons_succ])
         go_loopg [12] k2 (fun kq v12 w' => ∃ (x12_3 : Int), v12 = .int .i64 x12_3 ∧ Aside0 (trivetlaw03_SplitWhole.l1 kq a0 l1 t242 t243 x9_2 x10_2 x12_3 = some r) ∧ Aside0 (kq ≤ k2) ∧ Aside0 (Kd.R (Kd.int .i64) 2 w' w.heap.size (fun _ => True) (.slice Ao15 t243.length co15) t243) ∧ Aside0 (Below w.heap.size w w'))
         case atStart => exact ⟨(0), (by first | rfl | (simp; done) | (simp [*]; done)), H', ⟨Nat.le_refl _⟩, ⟨kr HO_6.out⟩, ⟨by repeat (first | (with_reducible first | exact HB.out | apply kc1 | apply kc2 | apply kc3) | exact HB.out)⟩⟩
         case round =>
          clear H'
          try clear c1
          try clear c2
          try clear p2
          try clear q2
          try clear hx2
          try clear c4
          try clear c4b0
          try clear c4b1
          try clear p6
          try clear c9
          try clear c10
          try clear c11
          try clear c12
          try clear c13
          try clear c14
          try clear c14b0
          try clear c14b1
          try clear c14b2
          try clear c16
          try clear c16b0
          try clear c17
          try clear c17b0
          try clear c18
          try clear c18b0
          try clear c19
          try clear c19b0
          try clear c20
          try clear c20b0
          try clear c21
          try clear c21b0
          try clear c21b1
          try clear c22
          try clear c22b0
          try clear c22b1
          try clear hx250_0
          try clear hx251_0
          try clear hx252_0
          try clear hx253_0
          try clear hx254_0
          try clear hx255_0
          try clear hx256_0
          try clear p2
          try clear p250
          try clear p251
          try clear p252
          try clear p253
          try clear p254
          try clear p255
          try clear p256
          try clear q2
          try clear q248
          try clear q249
          try clear q250
          try clear q251
          try clear q252
          try clear q253
          try clear q254
          try clear q255
          try clear q256
          obtain ⟨x12_3, rfl, HA, HK3, HO_6, HB⟩ := hrel
          cases gk with
          | zero => exact absurd HA.out (by simp [trivetlaw03_SplitWhole.l1])
          | succ k3 =>
           have H := HA.out
           clear HA
           simp only [trivetlaw03_SplitWhole.l1] at H
           by_cases c23 : x12_3 < (l1.length : Int)
           ·rw [if_pos c23] at H
            have c23b0 : decide (x12_3 < (l1.length : Int)) = true := decide_eq_true c23
            clear c23
            replace H := Option.bind_eq_some_iff.mp H
            obtain ⟨⟨t257, t260⟩, A240, H⟩ := H
            replace H : (if 0 ≤ x12_3 then ((trivetref01_Of.f k3 (rd l1 x12_3)).bind fun bt262 => ((trivetref01_Mul.f k3 t257 t260 bt262.1 bt262.2).bind fun bt266 => (if x12_3 < (t243.length : Int) then ((trivetref01_Of.f k3 (rd t243 x12_3)).bind fun bt272 => ((trivetref01_Of.f k3 x9_2).bind fun bt276 => ((trivetref01_Mul.f k3 bt272.1 bt272.2 bt276.1 bt276.2).bind fun bt280 => ((trivetref01_Neg.f k3 bt280.1 bt280.2).bind fun bt284 => ((trivetref01_Add.f k3 bt266.1 bt266.2 bt284.1 bt284.2).bind fun bt288 => ((trivetref01_Of.f k3 x9_2).bind fun bt293 => ((trivetref01_Cmp.f k3 bt288.1 false bt293.1 bt293.2).bind fun t297 => (if t297 ≥ 0 then (none) else (trivetlaw03_SplitWhole.l1 k3 a0 l1 t242 t243 x9_2 x10_2 (wrap64 (x12_3 + 1))))))))))) else (none)))) else (none)) = some r := H
            have A24 := ka A240
            clear A240
            by_cases c25 : 0 ≤ x12_3
            ·rw [if_pos c25] at H
             have c25b0 : decide (0 ≤ x12_3) = true := decide_eq_true c25
             clear c25
             replace H := Option.bind_eq_some_iff.mp H
             obtain ⟨⟨t262, t265⟩, A260, H⟩ := H
             replace H : ((trivetref01_Mul.f k3 t257 t260 t262 t265).bind fun bt266 => (if x12_3 < (t243.length : Int) then ((trivetref01_Of.f k3 (rd t243 x12_3)).bind fun bt272 => ((trivetref01_Of.f k3 x9_2).bind fun bt276 => ((trivetref01_Mul.f k3 bt272.1 bt272.2 bt276.1 bt276.2).bind fun bt280 => ((trivetref01_Neg.f k3 bt280.1 bt280.2).bind fun bt284 => ((trivetref01_Add.f k3 bt266.1 bt266.2 bt284.1 bt284.2).bind fun bt288 => ((trivetref01_Of.f k3 x9_2).bind fun bt293 => ((trivetref01_Cmp.f k3 bt288.1 false bt293.1 bt293.2).bind fun t297 => (if t297 ≥ 0 then (none) else (trivetlaw03_SplitWhole.l1 k3 a0 l1 t242 t243 x9_2 x10_2 (wrap64 (x12_3 + 1))))))))))) else (none))) = some r := H
             have A26 := ka A260
             clear A260
             replace H := Option.bind_eq_some_iff.mp H
             obtain ⟨⟨t266, t269⟩, A270, H⟩ := H
             replace H : (if x12_3 < (t243.length : Int) then ((trivetref01_Of.f k3 (rd t243 x12_3)).bind fun bt272 => ((trivetref01_Of.f k3 x9_2).bind fun bt276 => ((trivetref01_Mul.f k3 bt272.1 bt272.2 bt276.1 bt276.2).bind fun bt280 => ((trivetref01_Neg.f k3 bt280.1 bt280.2).bind fun bt284 => ((trivetref01_Add.f k3 t266 t269 bt284.1 bt284.2).bind fun bt288 => ((trivetref01_Of.f k3 x9_2).bind fun bt293 => ((trivetref01_Cmp.f k3 bt288.1 false bt293.1 bt293.2).bind fun t297 => (if t297 ≥ 0 then (none) else (trivetlaw03_SplitWhole.l1 k3 a0 l1 t242 t243 x9_2 x10_2 (wrap64 (x12_3 + 1))))))))))) else (none)) = some r := H
             have A27 := ka A270
             clear A270
             by_cases c28 : x12_3 < (t243.length : Int)
             ·rw [if_pos c28] at H
              have c28b0 : decide (x12_3 < (t243.length : Int)) = true := decide_eq_true c28
              clear c28
              replace H := Option.bind_eq_some_iff.mp H
              obtain ⟨⟨t272, t275⟩, A290, H⟩ := H
              replace H : ((trivetref01_Of.f k3 x9_2).bind fun bt276 => ((trivetref01_Mul.f k3 t272 t275 bt276.1 bt276.2).bind fun bt280 => ((trivetref01_Neg.f k3 bt280.1 bt280.2).bind fun bt284 => ((trivetref01_Add.f k3 t266 t269 bt284.1 bt284.2).bind fun bt288 => ((trivetref01_Of.f k3 x9_2).bind fun bt293 => ((trivetref01_Cmp.f k3 bt288.1 false bt293.1 bt293.2).bind fun t297 => (if t297 ≥ 0 then (none) else (trivetlaw03_SplitWhole.l1 k3 a0 l1 t242 t243 x9_2 x10_2 (wrap64 (x12_3 + 1)))))))))) = some r := H
              have A29 := ka A290
              clear A290
              replace H := Option.bind_eq_some_iff.mp H
              obtain ⟨⟨t276, t279⟩, A300, H⟩ := H
              replace H : ((trivetref01_Mul.f k3 t272 t275 t276 t279).bind fun bt280 => ((trivetref01_Neg.f k3 bt280.1 bt280.2).bind fun bt284 => ((trivetref01_Add.f k3 t266 t269 bt284.1 bt284.2).bind fun bt288 => ((trivetref01_Of.f k3 x9_2).bind fun bt293 => ((trivetref01_Cmp.f k3 bt288.1 false bt293.1 bt293.2).bind fun t297 => (if t297 ≥ 0 then (none) else (trivetlaw03_SplitWhole.l1 k3 a0 l1 t242 t243 x9_2 x10_2 (wrap64 (x12_3 + 1))))))))) = some r := H
              have A30 := ka A300
              clear A300
              replace H := Option.bind_eq_some_iff.mp H
              obtain ⟨⟨t280, t283⟩, A310, H⟩ := H
              replace H : ((trivetref01_Neg.f k3 t280 t283).bind fun bt284 => ((trivetref01_Add.f k3 t266 t269 bt284.1 bt284.2).bind fun bt288 => ((trivetref01_Of.f k3 x9_2).bind fun bt293 => ((trivetref01_Cmp.f k3 bt288.1 false bt293.1 bt293.2).bind fun t297 => (if t297 ≥ 0 then (none) else (trivetlaw03_SplitWhole.l1 k3 a0 l1 t242 t243 x9_2 x10_2 (wrap64 (x12_3 + 1)))))))) = some r := H
              have A31 := ka A310
              clear A310
              replace H := Option.bind_eq_some_iff.mp H
              obtain ⟨⟨t284, t287⟩, A320, H⟩ := H
              replace H : ((trivetref01_Add.f k3 t266 t269 t284 t287).bind fun bt288 => ((trivetref01_Of.f k3 x9_2).bind fun bt293 => ((trivetref01_Cmp.f k3 bt288.1 false bt293.1 bt293.2).bind fun t297 => (if t297 ≥ 0 then (none) else (trivetlaw03_SplitWhole.l1 k3 a0 l1 t242 t243 x9_2 x10_2 (wrap64 (x12_3 + 1))))))) = some r := H
              have A32 := ka A320
              clear A320
              replace H := Option.bind_eq_some_iff.mp H
              obtain ⟨⟨t288, t291⟩, A330, H⟩ := H
              replace H : ((trivetref01_Of.f k3 x9_2).bind fun bt293 => ((trivetref01_Cmp.f k3 t288 false bt293.1 bt293.2).bind fun t297 => (if t297 ≥ 0 then (none) else (trivetlaw03_SplitWhole.l1 k3 a0 l1 t242 t243 x9_2 x10_2 (wrap64 (x12_3 + 1)))))) = some r := H
              have A33 := ka A330
              clear A330
              replace H := Option.bind_eq_some_iff.mp H
              obtain ⟨⟨t293, t296⟩, A340, H⟩ := H
              replace H : ((trivetref01_Cmp.f k3 t288 false t293 t296).bind fun t297 => (if t297 ≥ 0 then (none) else (trivetlaw03_SplitWhole.l1 k3 a0 l1 t242 t243 x9_2 x10_2 (wrap64 (x12_3 + 1))))) = some r := H
              have A34 := ka A340
              clear A340
              replace H := Option.bind_eq_some_iff.mp H
              obtain ⟨t297, A350, H⟩ := H
              replace H : (if t297 ≥ 0 then (none) else (trivetlaw03_SplitWhole.l1 k3 a0 l1 t242 t243 x9_2 x10_2 (wrap64 (x12_3 + 1)))) = some r := H
              have A35 := ka A350
              clear A350
              by_cases c36 : t297 ≥ 0
              ·rw [if_pos c36] at H
               exact absurd H (by simp)
              ·rw [if_neg c36] at H
               have c36b0 : decide (0 ≤ t297) = false := decide_eq_false c36
               clear c36
               have H' := ka H
               clear H
               try go_wp2
               replace HO_6 := ka (Kd.R_drew HO_6.out)
               replace HB := ka (below_drew1 HB.out)
               have p261 : 0 ≤ (x12_3 : Int) := of_decide_eq_true (by first | (with_reducible assumption) | assumption)
               have q261 : x12_3 < (l1.length : Int) := of_decide_eq_true (by first | (with_reducible assumption) | assumption)
               obtain ⟨ad261, e261, hx261_0⟩ := Kd.at_int HR1.out x12_3 p261 q261
               have hw261_0 := hx261_0
               cases e261
               replace hx261_0 := (HB.out.cell (World.block_lt_of_cell? w _ hx261_0)).trans hx261_0
               replace p261 := eq_true p261
               replace q261 := eq_true q261
               refine start_ (n := 10) (S := fun w' => w'.cell? (ad261.add (x12_3).toNat) = some (.int .i64 (rd l1 x12_3))) (ds := []) #[false, false, false, false, false, false, false, false, false, false] (by kernel_rfl) rfl rfl (((HB.out.cell (World.block_lt_of_cell? w _ hw261_0)).trans hw261_0)) (fun hHeld => ?_); refine with_tabW trivetlaw03_SplitWhole.tab22 trivetlaw03_SplitWhole.bits22 (fun HT_ HW_ => ?_)
               generalize wr.drew = w37 at HO_6 HB hx261_0 hHeld ⊢
               refine pure_ (i := 0) (N := some 96) (v := ?_) (a' := ?_) #[true, false, false, false, false, false, false, false, false, false] rfl rfl (any_of HT_.out (by kernel_rfl)) (fun _ _ _ h => h) (Or.inl ⟨by rfl, ?_⟩) ?_ ?_
               rotate_left
               ·intro w'
                go_simp
                with_reducible rfl
               rotate_left
               ·simp only [Act.put, List.setIfInBounds_toArray, List.set_cons_zero, List.set_cons_succ, i64_w, i32_w]
                rfl
               refine pure_ (i := 2) (N := some 98) (v := ?_) (a' := ?_) #[true, false, true, false, false, false, false, false, false, false] rfl rfl (any_of HT_.out (by kernel_rfl)) (fun _ _ _ h => h) (Or.inl ⟨by rfl, ?_⟩) ?_ ?_
               rotate_left
               ·intro w'
                go_simp
                with_reducible rfl
               rotate_left
               ·simp only [Act.put, List.setIfInBounds_toArray, List.set_cons_zero, List.set_cons_succ, i64_w, i32_w]
                rfl
               refine pure_ (i := 3) (N := some 99) (v := ?_) (a' := ?_) #[true, false, true, true, false, false, false, false, false, false] rfl rfl (any_of HT_.out (by kernel_rfl)) (fun _ _ _ h => h) (Or.inl ⟨by rfl, ?_⟩) ?_ ?_
               rotate_left
               ·intro w'
                go_simp
                with_reducible rfl
               rotate_left
               ·simp only [Act.put, List.setIfInBounds_toArray, List.set_cons_zero, List.set_cons_succ, i64_w, i32_w]
                rfl
               refine pure_ (i := 4) (N := some 100) (v := ?_) (a' := ?_) #[true, false, true, true, true, false, false, false, false, false] rfl rfl (any_of HT_.out (by kernel_rfl)) (fun _ _ _ h => h) (Or.inl ⟨by rfl, ?_⟩) ?_ ?_
               rotate_left
               ·intro w'
                go_simp
                with_reducible rfl
               rotate_left
               ·simp only [Act.put, List.setIfInBounds_toArray, List.set_cons_zero, List.set_cons_succ, i64_w, i32_w]
                rfl
               refine take_ (i := 5) (N := some 101) (v := ?_) (a' := ?_) #[true, false, true, true, true, true, false, false, false, false] rfl rfl (take_ofW HT_.out HW_.out (by kernel_rfl)) (fun _ _ _ h => h) (Or.inl ⟨by rfl, ?_⟩) hHeld ?_ ?_
               rotate_left
               ·intro w' s0
                go_simp
                with_reducible rfl
               rotate_left
               ·simp only [Act.put, List.setIfInBounds_toArray, List.set_cons_zero, List.set_cons_succ, i64_w, i32_w]
                rfl
               refine join_ (σ := Value × Value × Value × Nat) 1 #[true, true, true, true, true, true, true, true, true, false] (fun s_ => [(97, .agg #[s_.1, .bool t260]), (102, .agg #[s_.2.1, .bool t265]), (103, .agg #[s_.2.2.1, .bool t269]), (13, .pointer (some ⟨s_.2.2.2, 0, none⟩))]) (fun s_ w' => (w'.cell? (ad261.add (x12_3).toNat) = some (.int .i64 (rd l1 x12_3))) ∧ (Kd.V (Kd.int .u64) 42 w' w.heap.size (fun k_ => some k_ ≠ (.slice Ao15 t243.length co15 : Value).ownBlock ∧ k_ ≠ s_.2.2.2) s_.1 t257) ∧ (Kd.V (Kd.int .u64) 42 w' w.heap.size (fun k_ => some k_ ≠ (.slice Ao15 t243.length co15 : Value).ownBlock ∧ k_ ≠ s_.2.2.2) s_.2.1 t262) ∧ (Kd.V (Kd.int .u64) 42 w' w.heap.size (fun k_ => some k_ ≠ (.slice Ao15 t243.length co15 : Value).ownBlock ∧ k_ ≠ s_.2.2.2) s_.2.2.1 t266) ∧ (Kd.R (Kd.int .i64) 2 w' w.heap.size (fun _ => True) (.slice Ao15 t243.length co15) t243) ∧ (w'.heap[s_.2.2.2]? = some (.cells #[.slice none 0 0, .bool false] 34 (0, 0))) ∧ (w.heap.size ≤ s_.2.2.2) ∧ (w.heap.size ≤ s_.2.2.2) ∧ (Below w.heap.size w w')) ?_ ?_
               rotate_left
               ·intro hCont
                refine two_ (i := 1) (j := 8) (Ni := some 97) (Nj := some 13) #[true, true, true, true, true, true, false, false, false, false] #[true, false, true, true, true, true, false, false, true, false] rfl rfl rfl rfl (two_of HT_.out (by kernel_rfl)) (by decide) (by decide) (fun K hK => ?_) (fun K hK => ?_)
                ·skip
                 refine goes_ Try.func15 (by kernel_rfl) rfl #[.int .i64 a0] (by rfl) rfl rfl (by (try simp only [List.map_toArray, List.map_cons, List.map_nil]); first | done | rfl | (simp only [List.length_drop, List.length_take]; rfl)) ?_
                 with_reducible refine (trivetref01_Of.calls k3 a0 t257 t260 _ A24.out).mono ?_
                 rintro e w38 ⟨v258, rfl, ho0, hb⟩
                 refine ⟨_, rfl, ?_⟩
                 have HO259 := ka (Kd.V_lower (Kd.V_mono (ok' := fun k_ => some k_ ≠ (.slice Ao15 t243.length co15 : Value).ownBlock) ho0 (fun k_ hk_ => (Kd.fresh' (Kd.R_lt (kr HO_6.out)) k_ hk_))) (below_size (kw HB.out)))
                 replace HO_6 := ka (Kd.R_below (kr HO_6.out) hb)
                 replace HB := ka (below_step (kw HB.out) hb)
                 (try clear hb)
                 (try clear hb2)
                 (try clear hk)
                 (try clear hi)
                 (try clear ho0)
                 refine hK.out _ _ (((HB.out.cell (World.block_lt_of_cell? w _ hw261_0)).trans hw261_0)) (fun hHeld => ?_)
                 clear hK K
                 refine norm_ (a' := ?_) ?_ ?_
                 rotate_left
                 ·show Act.put _ (some 97) _ = _
                  simp only [Act.put, List.setIfInBounds_toArray, List.set_cons_zero, List.set_cons_succ, i64_w, i32_w]
                  rfl
                 refine two_ (i := 6) (j := 8) (Ni := some 102) (Nj := some 13) #[true, true, true, true, true, true, true, false, false, false] #[true, true, true, true, true, true, false, false, true, false] rfl rfl rfl rfl (two_of HT_.out (by kernel_rfl)) (by decide) (by decide) (fun K hK => ?_) (fun K hK => ?_)
                 ·skip
                  refine goes_ Try.func15 (by kernel_rfl) rfl #[.int .i64 (rd l1 x12_3)] (by rfl) rfl rfl (by (try simp only [List.map_toArray, List.map_cons, List.map_nil]); first | done | rfl | (simp only [List.length_drop, List.length_take]; rfl)) ?_
                  with_reducible refine (trivetref01_Of.calls k3 (rd l1 x12_3) t262 t265 _ A26.out).mono ?_
                  rintro e w39 ⟨v263, rfl, ho0, hb⟩
                  refine ⟨_, rfl, ?_⟩
                  replace HO259 := kvb HO259 hb
                  have HO264 := ka (Kd.V_lower (Kd.V_mono (ok' := fun k_ => some k_ ≠ (.slice Ao15 t243.length co15 : Value).ownBlock) ho0 (fun k_ hk_ => (Kd.fresh' (Kd.R_lt (kr HO_6.out)) k_ hk_))) (below_size (kw HB.out)))
                  replace HO_6 := ka (Kd.R_below (kr HO_6.out) hb)
                  replace HB := ka (below_step (kw HB.out) hb)
                  (try clear hb)
                  (try clear hb2)
                  (try clear hk)
                  (try clear hi)
                  (try clear ho0)
                  obtain ⟨Ao40, co40, eo40⟩ := Kd.V_slice HO259.out
                  (first | subst eo40 | (injection eo40 with f1_ f2_ f3_; have f4_ := f1_.symm; have f5_ := f3_.symm; clear f1_ f2_ f3_; subst f4_; subst f5_))
                  obtain ⟨Ao41, co41, eo41⟩ := Kd.V_slice HO264.out
                  (first | subst eo41 | (injection eo41 with f1_ f2_ f3_; have f4_ := f1_.symm; have f5_ := f3_.symm; clear f1_ f2_ f3_; subst f4_; subst f5_))
                  refine hK.out _ _ (((HB.out.cell (World.block_lt_of_cell? w _ hw261_0)).trans hw261_0)) (fun hHeld => ?_)
                  clear hK K
                  refine norm_ (a' := ?_) ?_ ?_
                  rotate_left
                  ·show Act.put _ (some 102) _ = _
                   simp only [Act.put, List.setIfInBounds_toArray, List.set_cons_zero, List.set_cons_succ, i64_w, i32_w]
                   rfl
                  refine two_ (i := 7) (j := 8) (Ni := some 103) (Nj := some 13) #[true, true, true, true, true, true, true, true, false, false] #[true, true, true, true, true, true, true, false, true, false] rfl rfl rfl rfl (two_of HT_.out (by kernel_rfl)) (by decide) (by decide) (fun K hK => ?_) (fun K hK => ?_)
                  ·skip
                   refine goes_ Try.func14 (by kernel_rfl) rfl #[.agg #[.slice Ao40 t257.length co40, .bool t260], .agg #[.slice Ao41 t262.length co41, .bool t265]] (by rfl) rfl rfl (by (try simp only [List.map_toArray, List.map_cons, List.map_nil]); first | done | rfl | (simp only [List.length_drop, List.length_take]; rfl)) ?_
                   with_reducible refine (trivetref01_Mul.calls k3 _ _ t257 t260 _ _ t262 t265 t266 t269 _ ?side1 ?side2 ?side3 ?side4 A27.out).mono ?_
                   (case side1 => repeat (first | exact (Kd.V_reads' HO259.out).2.2 | (with_reducible refine Kd.C_alloc ?_ _) | (with_reducible refine Kd.C_drewN ?_ _) | (with_reducible refine Kd.C_drew ?_)))
                   (case side2 => exact (Kd.V_reads' HO259.out).2.1)
                   (case side3 => repeat (first | exact (Kd.V_reads' HO264.out).2.2 | (with_reducible refine Kd.C_alloc ?_ _) | (with_reducible refine Kd.C_drewN ?_ _) | (with_reducible refine Kd.C_drew ?_)))
                   (case side4 => exact (Kd.V_reads' HO264.out).2.1)
                   rintro e w42 ⟨v267, rfl, ho0, hb⟩
                   refine ⟨_, rfl, ?_⟩
                   replace HO259 := kvb HO259 hb
                   replace HO264 := kvb HO264 hb
                   have HO268 := ka (Kd.V_lower (Kd.V_mono (ok' := fun k_ => some k_ ≠ (.slice Ao15 t243.length co15 : Value).ownBlock) ho0 (fun k_ hk_ => (Kd.fresh' (Kd.R_lt (kr HO_6.out)) k_ hk_))) (below_size (kw HB.out)))
                   replace HO_6 := ka (Kd.R_below (kr HO_6.out) hb)
                   replace HB := ka (below_step (kw HB.out) hb)
                   (try clear hb)
                   (try clear hb2)
                   (try clear hk)
                   (try clear hi)
                   (try clear ho0)
                   refine hK.out _ _ (((HB.out.cell (World.block_lt_of_cell? w _ hw261_0)).trans hw261_0)) (fun hHeld => ?_)
                   clear hK K
                   refine norm_ (a' := ?_) ?_ ?_
                   rotate_left
                   ·show Act.put _ (some 103) _ = _
                    simp only [Act.put, List.setIfInBounds_toArray, List.set_cons_zero, List.set_cons_succ, i64_w, i32_w]
                    rfl
                   refine one_ (i := 8) (N := some 13) #[true, true, true, true, true, true, true, true, true, false] rfl rfl (one_of HT_.out (by kernel_rfl)) (by decide) (fun K hK => ?_)
                   refine box_step ?hg (N := 13) ?hd (cs := #[.slice none 0 0, .bool false]) (t := 34) ?hr ?_; (case hd => rfl); (case hg => rfl); (case hr => first | (go_simp; done) | (go_simp; rfl))
                   intro gb270 hg w43 hbox hb
                   replace HO_6 := ka (Kd.R_below (kr HO_6.out) hb)
                   replace HO259 := ka (Kd.V_below (Kd.V_elderB (kv HO259.out) gb270 (Nat.le_of_eq hg.symm)) hb)
                   replace HO264 := ka (Kd.V_below (Kd.V_elderB (kv HO264.out) gb270 (Nat.le_of_eq hg.symm)) hb)
                   replace HO268 := ka (Kd.V_below (Kd.V_elderB (kv HO268.out) gb270 (Nat.le_of_eq hg.symm)) hb)
                   have BK270 := ka (hbox)
                   have GW270 := ka ((by rw [hg]; exact (below_size (kw HB.out)) : w.heap.size ≤ gb270))
                   have GE270 := ka ((by rw [hg]; exact (below_size (kw HB.out)) : w.heap.size ≤ gb270))
                   replace HB := ka (below_step (kw HB.out) hb)
                   clear hb hbox hg
                   refine hK.out _ _ (((HB.out.cell (World.block_lt_of_cell? w _ hw261_0)).trans hw261_0)) (fun hHeld => ?_)
                   clear hK K
                   refine norm_ (a' := ?_) ?_ ?_
                   rotate_left
                   ·show Act.put _ (some 13) _ = _
                    simp only [Act.put, List.setIfInBounds_toArray, List.set_cons_zero, List.set_cons_succ, i64_w, i32_w]
                    rfl
                   exact norm_ (by simp only [putAll, Act.put, List.setIfInBounds_toArray, List.set_cons_zero, List.set_cons_succ]) (hCont (.slice Ao40 t257.length co40, .slice Ao41 t262.length co41, v267, gb270) _ ⟨hHeld, (kv HO259.out), (kv HO264.out), (kv HO268.out), (kr HO_6.out), (kz BK270.out), GW270.out, GE270.out, (kw HB.out)⟩)
                  ·skip
                   refine box_step ?hg (N := 13) ?hd (cs := #[.slice none 0 0, .bool false]) (t := 34) ?hr ?_; (case hd => rfl); (case hg => rfl); (case hr => first | (go_simp; done) | (go_simp; rfl))
                   intro gb270 hg w40 hbox hb
                   replace HO_6 := ka (Kd.R_below (kr HO_6.out) hb)
                   replace HO259 := ka (Kd.V_below (Kd.V_elderB (kv HO259.out) gb270 (Nat.le_of_eq hg.symm)) hb)
                   replace HO264 := ka (Kd.V_below (Kd.V_elderB (kv HO264.out) gb270 (Nat.le_of_eq hg.symm)) hb)
                   have BK270 := ka (hbox)
                   have GW270 := ka ((by rw [hg]; exact (below_size (kw HB.out)) : w.heap.size ≤ gb270))
                   have GE270 := ka ((by rw [hg]; exact (below_size (kw HB.out)) : w.heap.size ≤ gb270))
                   replace HB := ka (below_step (kw HB.out) hb)
                   clear hb hbox hg
                   obtain ⟨Ao41, co41, eo41⟩ := Kd.V_slice HO259.out
                   (first | subst eo41 | (injection eo41 with f1_ f2_ f3_; have f4_ := f1_.symm; have f5_ := f3_.symm; clear f1_ f2_ f3_; subst f4_; subst f5_))
                   obtain ⟨Ao42, co42, eo42⟩ := Kd.V_slice HO264.out
                   (first | subst eo42 | (injection eo42 with f1_ f2_ f3_; have f4_ := f1_.symm; have f5_ := f3_.symm; clear f1_ f2_ f3_; subst f4_; subst f5_))
                   refine hK.out _ _ (((HB.out.cell (World.block_lt_of_cell? w _ hw261_0)).trans hw261_0)) (fun hHeld => ?_)
                   clear hK K
                   refine norm_ (a' := ?_) ?_ ?_
                   rotate_left
                   ·show Act.put _ (some 13) _ = _
                    simp only [Act.put, List.setIfInBounds_toArray, List.set_cons_zero, List.set_cons_succ, i64_w, i32_w]
                    rfl
                   refine one_ (i := 7) (N := some 103) #[true, true, true, true, true, true, true, true, true, false] rfl rfl (one_of HT_.out (by kernel_rfl)) (by decide) (fun K hK => ?_)
                   refine goes_ Try.func14 (by kernel_rfl) rfl #[.agg #[.slice Ao41 t257.length co41, .bool t260], .agg #[.slice Ao42 t262.length co42, .bool t265]] (by rfl) rfl rfl (by (try simp only [List.map_toArray, List.map_cons, List.map_nil]); first | done | rfl | (simp only [List.length_drop, List.length_take]; rfl)) ?_
                   with_reducible refine (trivetref01_Mul.calls k3 _ _ t257 t260 _ _ t262 t265 t266 t269 _ ?side1 ?side2 ?side3 ?side4 A27.out).mono ?_
                   (case side1 => repeat (first | exact (Kd.V_reads' HO259.out).2.2 | (with_reducible refine Kd.C_alloc ?_ _) | (with_reducible refine Kd.C_drewN ?_ _) | (with_reducible refine Kd.C_drew ?_)))
                   (case side2 => exact (Kd.V_reads' HO259.out).2.1)
                   (case side3 => repeat (first | exact (Kd.V_reads' HO264.out).2.2 | (with_reducible refine Kd.C_alloc ?_ _) | (with_reducible refine Kd.C_drewN ?_ _) | (with_reducible refine Kd.C_drew ?_)))
                   (case side4 => exact (Kd.V_reads' HO264.out).2.1)
                   rintro e w43 ⟨v267, rfl, ho0, hb⟩
                   refine ⟨_, rfl, ?_⟩
                   replace HO259 := kvb HO259 hb
                   replace HO264 := kvb HO264 hb
                   have HO268 := ka (Kd.V_lower (Kd.V_mono (ok' := fun k_ => some k_ ≠ (.slice Ao15 t243.length co15 : Value).ownBlock ∧ k_ ≠ gb270) ho0 (fun k_ hk_ => ⟨(Kd.fresh' (Kd.R_lt (kr HO_6.out)) k_ hk_), (kf BK270 hk_)⟩)) (below_size (kw HB.out)))
                   replace HO_6 := ka (Kd.R_below (kr HO_6.out) hb)
                   replace BK270 := kbb BK270 hb
                   replace HB := ka (below_step (kw HB.out) hb)
                   (try clear hb)
                   (try clear hb2)
                   (try clear hk)
                   (try clear hi)
                   (try clear ho0)
                   refine hK.out _ _ (((HB.out.cell (World.block_lt_of_cell? w _ hw261_0)).trans hw261_0)) (fun hHeld => ?_)
                   clear hK K
                   refine norm_ (a' := ?_) ?_ ?_
                   rotate_left
                   ·show Act.put _ (some 103) _ = _
                    simp only [Act.put, List.setIfInBounds_toArray, List.set_cons_zero, List.set_cons_succ, i64_w, i32_w]
                    rfl
                   exact norm_ (by simp only [putAll, Act.put, List.setIfInBounds_toArray, List.set_cons_zero, List.set_cons_succ]) (hCont (.slice Ao41 t257.length co41, .slice Ao42 t262.length co42, v267, gb270) _ ⟨hHeld, (kv HO259.out), (kv HO264.out), (kv HO268.out), (kr HO_6.out), (kz BK270.out), GW270.out, GE270.out, (kw HB.out)⟩)
                 ·skip
                  refine box_step ?hg (N := 13) ?hd (cs := #[.slice none 0 0, .bool false]) (t := 34) ?hr ?_; (case hd => rfl); (case hg => rfl); (case hr => first | (go_simp; done) | (go_simp; rfl))
                  intro gb270 hg w39 hbox hb
                  replace HO_6 := ka (Kd.R_below (kr HO_6.out) hb)
                  replace HO259 := ka (Kd.V_below (Kd.V_elderB (kv HO259.out) gb270 (Nat.le_of_eq hg.symm)) hb)
                  have BK270 := ka (hbox)
                  have GW270 := ka ((by rw [hg]; exact (below_size (kw HB.out)) : w.heap.size ≤ gb270))
                  have GE270 := ka ((by rw [hg]; exact (below_size (kw HB.out)) : w.heap.size ≤ gb270))
                  replace HB := ka (below_step (kw HB.out) hb)
                  clear hb hbox hg
                  refine hK.out _ _ (((HB.out.cell (World.block_lt_of_cell? w _ hw261_0)).trans hw261_0)) (fun hHeld => ?_)
                  clear hK K
                  refine norm_ (a' := ?_) ?_ ?_
                  rotate_left
                  ·show Act.put _ (some 13) _ = _
                   simp only [Act.put, List.setIfInBounds_toArray, List.set_cons_zero, List.set_cons_succ, i64_w, i32_w]
                   rfl
                  refine one_ (i := 6) (N := some 102) #[true, true, true, true, true, true, true, false, true, false] rfl rfl (one_of HT_.out (by kernel_rfl)) (by decide) (fun K hK => ?_)
                  refine goes_ Try.func15 (by kernel_rfl) rfl #[.int .i64 (rd l1 x12_3)] (by rfl) rfl rfl (by (try simp only [List.map_toArray, List.map_cons, List.map_nil]); first | done | rfl | (simp only [List.length_drop, List.length_take]; rfl)) ?_
                  with_reducible refine (trivetref01_Of.calls k3 (rd l1 x12_3) t262 t265 _ A26.out).mono ?_
                  rintro e w40 ⟨v263, rfl, ho0, hb⟩
                  refine ⟨_, rfl, ?_⟩
                  replace HO259 := kvb HO259 hb
                  have HO264 := ka (Kd.V_lower (Kd.V_mono (ok' := fun k_ => some k_ ≠ (.slice Ao15 t243.length co15 : Value).ownBlock ∧ k_ ≠ gb270) ho0 (fun k_ hk_ => ⟨(Kd.fresh' (Kd.R_lt (kr HO_6.out)) k_ hk_), (kf BK270 hk_)⟩)) (below_size (kw HB.out)))
                  replace HO_6 := ka (Kd.R_below (kr HO_6.out) hb)
                  replace BK270 := kbb BK270 hb
                  replace HB := ka (below_step (kw HB.out) hb)
                  (try clear hb)
                  (try clear hb2)
                  (try clear hk)
                  (try clear hi)
                  (try clear ho0)
                  obtain ⟨Ao41, co41, eo41⟩ := Kd.V_slice HO259.out
                  (first | subst eo41 | (injection eo41 with f1_ f2_ f3_; have f4_ := f1_.symm; have f5_ := f3_.symm; clear f1_ f2_ f3_; subst f4_; subst f5_))
                  obtain ⟨Ao42, co42, eo42⟩ := Kd.V_slice HO264.out
                  (first | subst eo42 | (injection eo42 with f1_ f2_ f3_; have f4_ := f1_.symm; have f5_ := f3_.symm; clear f1_ f2_ f3_; subst f4_; subst f5_))
                  refine hK.out _ _ (((HB.out.cell (World.block_lt_of_cell? w _ hw261_0)).trans hw261_0)) (fun hHeld => ?_)
                  clear hK K
                  refine norm_ (a' := ?_) ?_ ?_
                  rotate_left
                  ·show Act.put _ (some 102) _ = _
                   simp only [Act.put, List.setIfInBounds_toArray, List.set_cons_zero, List.set_cons_succ, i64_w, i32_w]
                   rfl
                  refine one_ (i := 7) (N := some 103) #[true, true, true, true, true, true, true, true, true, false] rfl rfl (one_of HT_.out (by kernel_rfl)) (by decide) (fun K hK => ?_)
                  refine goes_ Try.func14 (by kernel_rfl) rfl #[.agg #[.slice Ao41 t257.length co41, .bool t260], .agg #[.slice Ao42 t262.length co42, .bool t265]] (by rfl) rfl rfl (by (try simp only [List.map_toArray, List.map_cons, List.map_nil]); first | done | rfl | (simp only [List.length_drop, List.length_take]; rfl)) ?_
                  with_reducible refine (trivetref01_Mul.calls k3 _ _ t257 t260 _ _ t262 t265 t266 t269 _ ?side1 ?side2 ?side3 ?side4 A27.out).mono ?_
                  (case side1 => repeat (first | exact (Kd.V_reads' HO259.out).2.2 | (with_reducible refine Kd.C_alloc ?_ _) | (with_reducible refine Kd.C_drewN ?_ _) | (with_reducible refine Kd.C_drew ?_)))
                  (case side2 => exact (Kd.V_reads' HO259.out).2.1)
                  (case side3 => repeat (first | exact (Kd.V_reads' HO264.out).2.2 | (with_reducible refine Kd.C_alloc ?_ _) | (with_reducible refine Kd.C_drewN ?_ _) | (with_reducible refine Kd.C_drew ?_)))
                  (case side4 => exact (Kd.V_reads' HO264.out).2.1)
                  rintro e w43 ⟨v267, rfl, ho0, hb⟩
                  refine ⟨_, rfl, ?_⟩
                  replace HO259 := kvb HO259 hb
                  replace HO264 := kvb HO264 hb
                  have HO268 := ka (Kd.V_lower (Kd.V_mono (ok' := fun k_ => some k_ ≠ (.slice Ao15 t243.length co15 : Value).ownBlock ∧ k_ ≠ gb270) ho0 (fun k_ hk_ => ⟨(Kd.fresh' (Kd.R_lt (kr HO_6.out)) k_ hk_), (kf BK270 hk_)⟩)) (below_size (kw HB.out)))
                  replace HO_6 := ka (Kd.R_below (kr HO_6.out) hb)
                  replace BK270 := kbb BK270 hb
                  replace HB := ka (below_step (kw HB.out) hb)
                  (try clear hb)
                  (try clear hb2)
                  (try clear hk)
                  (try clear hi)
                  (try clear ho0)
                  refine hK.out _ _ (((HB.out.cell (World.block_lt_of_cell? w _ hw261_0)).trans hw261_0)) (fun hHeld => ?_)
                  clear hK K
                  refine norm_ (a' := ?_) ?_ ?_
                  rotate_left
                  ·show Act.put _ (some 103) _ = _
                   simp only [Act.put, List.setIfInBounds_toArray, List.set_cons_zero, List.set_cons_succ, i64_w, i32_w]
                   rfl
                  exact norm_ (by simp only [putAll, Act.put, List.setIfInBounds_toArray, List.set_cons_zero, List.set_cons_succ]) (hCont (.slice Ao41 t257.length co41, .slice Ao42 t262.length co42, v267, gb270) _ ⟨hHeld, (kv HO259.out), (kv HO264.out), (kv HO268.out), (kr HO_6.out), (kz BK270.out), GW270.out, GE270.out, (kw HB.out)⟩)
                ·skip
                 refine box_step ?hg (N := 13) ?hd (cs := #[.slice none 0 0, .bool false]) (t := 34) ?hr ?_; (case hd => rfl); (case hg => rfl); (case hr => first | (go_simp; done) | (go_simp; rfl))
                 intro gb270 hg w38 hbox hb
                 replace HO_6 := ka (Kd.R_below (kr HO_6.out) hb)
                 have BK270 := ka (hbox)
                 have GW270 := ka ((by rw [hg]; exact (below_size (kw HB.out)) : w.heap.size ≤ gb270))
                 have GE270 := ka ((by rw [hg]; exact (below_size (kw HB.out)) : w.heap.size ≤ gb270))
                 replace HB := ka (below_step (kw HB.out) hb)
                 clear hb hbox hg
                 refine hK.out _ _ (((HB.out.cell (World.block_lt_of_cell? w _ hw261_0)).trans hw261_0)) (fun hHeld => ?_)
                 clear hK K
                 refine norm_ (a' := ?_) ?_ ?_
                 rotate_left
                 ·show Act.put _ (some 13) _ = _
                  simp only [Act.put, List.setIfInBounds_toArray, List.set_cons_zero, List.set_cons_succ, i64_w, i32_w]
                  rfl
                 refine one_ (i := 1) (N := some 97) #[true, true, true, true, true, true, false, false, true, false] rfl rfl (one_of HT_.out (by kernel_rfl)) (by decide) (fun K hK => ?_)
                 refine goes_ Try.func15 (by kernel_rfl) rfl #[.int .i64 a0] (by rfl) rfl rfl (by (try simp only [List.map_toArray, List.map_cons, List.map_nil]); first | done | rfl | (simp only [List.length_drop, List.length_take]; rfl)) ?_
                 with_reducible refine (trivetref01_Of.calls k3 a0 t257 t260 _ A24.out).mono ?_
                 rintro e w39 ⟨v258, rfl, ho0, hb⟩
                 refine ⟨_, rfl, ?_⟩
                 have HO259 := ka (Kd.V_lower (Kd.V_mono (ok' := fun k_ => some k_ ≠ (.slice Ao15 t243.length co15 : Value).ownBlock ∧ k_ ≠ gb270) ho0 (fun k_ hk_ => ⟨(Kd.fresh' (Kd.R_lt (kr HO_6.out)) k_ hk_), (kf BK270 hk_)⟩)) (below_size (kw HB.out)))
                 replace HO_6 := ka (Kd.R_below (kr HO_6.out) hb)
                 replace BK270 := kbb BK270 hb
                 replace HB := ka (below_step (kw HB.out) hb)
                 (try clear hb)
                 (try clear hb2)
                 (try clear hk)
                 (try clear hi)
                 (try clear ho0)
                 refine hK.out _ _ (((HB.out.cell (World.block_lt_of_cell? w _ hw261_0)).trans hw261_0)) (fun hHeld => ?_)
                 clear hK K
                 refine norm_ (a' := ?_) ?_ ?_
                 rotate_left
                 ·show Act.put _ (some 97) _ = _
                  simp only [Act.put, List.setIfInBounds_toArray, List.set_cons_zero, List.set_cons_succ, i64_w, i32_w]
                  rfl
                 refine one_ (i := 6) (N := some 102) #[true, true, true, true, true, true, true, false, true, false] rfl rfl (one_of HT_.out (by kernel_rfl)) (by decide) (fun K hK => ?_)
                 refine goes_ Try.func15 (by kernel_rfl) rfl #[.int .i64 (rd l1 x12_3)] (by rfl) rfl rfl (by (try simp only [List.map_toArray, List.map_cons, List.map_nil]); first | done | rfl | (simp only [List.length_drop, List.length_take]; rfl)) ?_
                 with_reducible refine (trivetref01_Of.calls k3 (rd l1 x12_3) t262 t265 _ A26.out).mono ?_
                 rintro e w40 ⟨v263, rfl, ho0, hb⟩
                 refine ⟨_, rfl, ?_⟩
                 replace HO259 := kvb HO259 hb
                 have HO264 := ka (Kd.V_lower (Kd.V_mono (ok' := fun k_ => some k_ ≠ (.slice Ao15 t243.length co15 : Value).ownBlock ∧ k_ ≠ gb270) ho0 (fun k_ hk_ => ⟨(Kd.fresh' (Kd.R_lt (kr HO_6.out)) k_ hk_), (kf BK270 hk_)⟩)) (below_size (kw HB.out)))
                 replace HO_6 := ka (Kd.R_below (kr HO_6.out) hb)
                 replace BK270 := kbb BK270 hb
                 replace HB := ka (below_step (kw HB.out) hb)
                 (try clear hb)
                 (try clear hb2)
                 (try clear hk)
                 (try clear hi)
                 (try clear ho0)
                 obtain ⟨Ao41, co41, eo41⟩ := Kd.V_slice HO259.out
                 (first | subst eo41 | (injection eo41 with f1_ f2_ f3_; have f4_ := f1_.symm; have f5_ := f3_.symm; clear f1_ f2_ f3_; subst f4_; subst f5_))
                 obtain ⟨Ao42, co42, eo42⟩ := Kd.V_slice HO264.out
                 (first | subst eo42 | (injection eo42 with f1_ f2_ f3_; have f4_ := f1_.symm; have f5_ := f3_.symm; clear f1_ f2_ f3_; subst f4_; subst f5_))
                 refine hK.out _ _ (((HB.out.cell (World.block_lt_of_cell? w _ hw261_0)).trans hw261_0)) (fun hHeld => ?_)
                 clear hK K
                 refine norm_ (a' := ?_) ?_ ?_
                 rotate_left
                 ·show Act.put _ (some 102) _ = _
                  simp only [Act.put, List.setIfInBounds_toArray, List.set_cons_zero, List.set_cons_succ, i64_w, i32_w]
                  rfl
                 refine one_ (i := 7) (N := some 103) #[true, true, true, true, true, true, true, true, true, false] rfl rfl (one_of HT_.out (by kernel_rfl)) (by decide) (fun K hK => ?_)
                 refine goes_ Try.func14 (by kernel_rfl) rfl #[.agg #[.slice Ao41 t257.length co41, .bool t260], .agg #[.slice Ao42 t262.length co42, .bool t265]] (by rfl) rfl rfl (by (try simp only [List.map_toArray, List.map_cons, List.map_nil]); first | done | rfl | (simp only [List.length_drop, List.length_take]; rfl)) ?_
                 with_reducible refine (trivetref01_Mul.calls k3 _ _ t257 t260 _ _ t262 t265 t266 t269 _ ?side1 ?side2 ?side3 ?side4 A27.out).mono ?_
                 (case side1 => repeat (first | exact (Kd.V_reads' HO259.out).2.2 | (with_reducible refine Kd.C_alloc ?_ _) | (with_reducible refine Kd.C_drewN ?_ _) | (with_reducible refine Kd.C_drew ?_)))
                 (case side2 => exact (Kd.V_reads' HO259.out).2.1)
                 (case side3 => repeat (first | exact (Kd.V_reads' HO264.out).2.2 | (with_reducible refine Kd.C_alloc ?_ _) | (with_reducible refine Kd.C_drewN ?_ _) | (with_reducible refine Kd.C_drew ?_)))
                 (case side4 => exact (Kd.V_reads' HO264.out).2.1)
                 rintro e w43 ⟨v267, rfl, ho0, hb⟩
                 refine ⟨_, rfl, ?_⟩
                 replace HO259 := kvb HO259 hb
                 replace HO264 := kvb HO264 hb
                 have HO268 := ka (Kd.V_lower (Kd.V_mono (ok' := fun k_ => some k_ ≠ (.slice Ao15 t243.length co15 : Value).ownBlock ∧ k_ ≠ gb270) ho0 (fun k_ hk_ => ⟨(Kd.fresh' (Kd.R_lt (kr HO_6.out)) k_ hk_), (kf BK270 hk_)⟩)) (below_size (kw HB.out)))
                 replace HO_6 := ka (Kd.R_below (kr HO_6.out) hb)
                 replace BK270 := kbb BK270 hb
                 replace HB := ka (below_step (kw HB.out) hb)
                 (try clear hb)
                 (try clear hb2)
                 (try clear hk)
                 (try clear hi)
                 (try clear ho0)
                 refine hK.out _ _ (((HB.out.cell (World.block_lt_of_cell? w _ hw261_0)).trans hw261_0)) (fun hHeld => ?_)
                 clear hK K
                 refine norm_ (a' := ?_) ?_ ?_
                 rotate_left
                 ·show Act.put _ (some 103) _ = _
                  simp only [Act.put, List.setIfInBounds_toArray, List.set_cons_zero, List.set_cons_succ, i64_w, i32_w]
                  rfl
                 exact norm_ (by simp only [putAll, Act.put, List.setIfInBounds_toArray, List.set_cons_zero, List.set_cons_succ]) (hCont (.slice Ao41 t257.length co41, .slice Ao42 t262.length co42, v267, gb270) _ ⟨hHeld, (kv HO259.out), (kv HO264.out), (kv HO268.out), (kr HO_6.out), (kz BK270.out), GW270.out, GE270.out, (kw HB.out)⟩)
               rintro ⟨v258, v263, v267, gb270⟩ w44 ⟨hS_, h0_, h1_, h2_, h3_, h4_, h5_, h6_, h7_⟩
               have HO259 : Aside0 (Kd.V (Kd.int .u64) 42 w44 w.heap.size (fun k_ => some k_ ≠ (.slice Ao15 t243.length co15 : Value).ownBlock ∧ k_ ≠ gb270) v258 t257) := ⟨h0_⟩
               have HO264 : Aside0 (Kd.V (Kd.int .u64) 42 w44 w.heap.size (fun k_ => some k_ ≠ (.slice Ao15 t243.length co15 : Value).ownBlock ∧ k_ ≠ gb270) v263 t262) := ⟨h1_⟩
               have HO268 : Aside0 (Kd.V (Kd.int .u64) 42 w44 w.heap.size (fun k_ => some k_ ≠ (.slice Ao15 t243.length co15 : Value).ownBlock ∧ k_ ≠ gb270) v267 t266) := ⟨h2_⟩
               replace HO_6 : Aside0 (Kd.R (Kd.int .i64) 2 w44 w.heap.size (fun _ => True) (.slice Ao15 t243.length co15) t243) := ⟨h3_⟩
               have BK270 : Aside0 (w44.heap[gb270]? = some (.cells #[.slice none 0 0, .bool false] 34 (0, 0))) := ⟨h4_⟩
               have GW270 : Aside0 (w.heap.size ≤ gb270) := ⟨h5_⟩
               have GE270 : Aside0 (w.heap.size ≤ gb270) := ⟨h6_⟩
               replace HB : Aside0 (Below w.heap.size w w44) := ⟨h7_⟩
               clear h0_ h1_ h2_ h3_ h4_ h5_ h6_ h7_
               have hHeld : w44.cell? (ad261.add (x12_3).toNat) = some (.int .i64 (rd l1 x12_3)) := hS_
               obtain ⟨Ao45, co45, eo45⟩ := Kd.V_slice HO268.out
               (first | subst eo45 | (injection eo45 with f1_ f2_ f3_; have f4_ := f1_.symm; have f5_ := f3_.symm; clear f1_ f2_ f3_; subst f4_; subst f5_))
               refine norm_ (a' := ?_) ?_ ?_
               rotate_left
               ·simp only [putAll, Act.put, List.setIfInBounds_toArray, List.set_cons_zero, List.set_cons_succ]
                rfl
               refine one_ (i := 9) (N := none) #[true, true, true, true, true, true, true, true, true, true] rfl rfl (one_of HT_.out (by kernel_rfl)) (by decide) (fun K hK => ?_)
               have hs46 : w44.cell? ⟨gb270, 0, none⟩ = some (.slice none 0 0) := (blk_cell BK270.out 0).trans rfl
               have hfs46 := blk_frozen BK270.out 0
               have hs47 : w44.cell? ⟨gb270, 1, none⟩ = some (.bool false) := (blk_cell BK270.out 1).trans rfl
               have hfs47 := blk_frozen BK270.out 1
               refine skip_ (w1 := ?_) (by rfl) rfl ?_ ?_
               rotate_left
               ·go_simp
                rfl
               refine hK.out _ _ (((cell_far (p := ⟨gb270, _, none⟩) (by first | exact Nat.ne_of_lt (Nat.lt_of_lt_of_le (by have := World.block_lt_of_cell? _ _ hw261_0; first | rwa [add_block] at this | exact this) GW270.out) | (rw [add_block]; exact Nat.ne_of_lt (Nat.lt_of_lt_of_le (by have := World.block_lt_of_cell? _ _ hw261_0; first | rwa [add_block] at this | exact this) GW270.out)) | (show (Addr.add _ _).block ≠ _; rw [add_block]; exact Nat.ne_of_lt (Nat.lt_of_lt_of_le (by have := World.block_lt_of_cell? _ _ hw261_0; first | rwa [add_block] at this | exact this) GW270.out)) | (dsimp only; exact Nat.ne_of_lt (Nat.lt_of_lt_of_le (by have := World.block_lt_of_cell? _ _ hw261_0; first | rwa [add_block] at this | exact this) GW270.out))) _).trans (((cell_far (p := ⟨gb270, _, none⟩) (by first | exact Nat.ne_of_lt (Nat.lt_of_lt_of_le (by have := World.block_lt_of_cell? _ _ hw261_0; first | rwa [add_block] at this | exact this) GW270.out) | (rw [add_block]; exact Nat.ne_of_lt (Nat.lt_of_lt_of_le (by have := World.block_lt_of_cell? _ _ hw261_0; first | rwa [add_block] at this | exact this) GW270.out)) | (show (Addr.add _ _).block ≠ _; rw [add_block]; exact Nat.ne_of_lt (Nat.lt_of_lt_of_le (by have := World.block_lt_of_cell? _ _ hw261_0; first | rwa [add_block] at this | exact this) GW270.out)) | (dsimp only; exact Nat.ne_of_lt (Nat.lt_of_lt_of_le (by have := World.block_lt_of_cell? _ _ hw261_0; first | rwa [add_block] at this | exact this) GW270.out))) _).trans (hHeld))))) (fun hHeld => ?_)
               clear hK K
               refine done_ (done_of HT_.out (by kernel_rfl)) ?_
               try go_wp2
               have n0_ : Aside0 (Kd.R (Kd.int .i64) 2 ((w44.setCell ⟨gb270, 0, none⟩ (.slice Ao45 t266.length co45)).setCell ⟨gb270, 1, none⟩ (.bool t269)) w.heap.size (fun _ => True) (.slice Ao15 t243.length co15) t243) := ⟨kr (Kd.R_mono (Kd.R_far (p := ⟨gb270, 1, none⟩) (Kd.R_far (p := ⟨gb270, 0, none⟩) (Kd.R_types HO_6.out BK270.out (by decide)) (fun _ hk => hk.2) (.slice Ao45 t266.length co45)) (fun _ hk => hk.2) (.bool t269)) (fun _ hk => trivial))⟩
               have n1_ : Aside0 (Kd.V (Kd.int .u64) 42 ((w44.setCell ⟨gb270, 0, none⟩ (.slice Ao45 t266.length co45)).setCell ⟨gb270, 1, none⟩ (.bool t269)) w.heap.size (fun k_ => some k_ ≠ (.slice Ao15 t243.length co15 : Value).ownBlock ∧ k_ ≠ gb270) v258 t257) := ⟨kv (Kd.V_mono (Kd.V_far (p := ⟨gb270, 1, none⟩) (Kd.V_far (p := ⟨gb270, 0, none⟩) (Kd.V_mono HO259.out (fun k_ hk => (⟨hk, hk.2⟩ : _ ∧ k_ ≠ gb270))) (fun _ hk => hk.2) (.slice Ao45 t266.length co45)) (fun _ hk => hk.2) (.bool t269)) (fun _ hk => ⟨hk.1.1, hk.1.2⟩))⟩
               have n2_ : Aside0 (Kd.V (Kd.int .u64) 42 ((w44.setCell ⟨gb270, 0, none⟩ (.slice Ao45 t266.length co45)).setCell ⟨gb270, 1, none⟩ (.bool t269)) w.heap.size (fun k_ => some k_ ≠ (.slice Ao15 t243.length co15 : Value).ownBlock ∧ k_ ≠ gb270) v263 t262) := ⟨kv (Kd.V_mono (Kd.V_far (p := ⟨gb270, 1, none⟩) (Kd.V_far (p := ⟨gb270, 0, none⟩) (Kd.V_mono HO264.out (fun k_ hk => (⟨hk, hk.2⟩ : _ ∧ k_ ≠ gb270))) (fun _ hk => hk.2) (.slice Ao45 t266.length co45)) (fun _ hk => hk.2) (.bool t269)) (fun _ hk => ⟨hk.1.1, hk.1.2⟩))⟩
               have n3_ : Aside0 (Kd.V (Kd.int .u64) 42 ((w44.setCell ⟨gb270, 0, none⟩ (.slice Ao45 t266.length co45)).setCell ⟨gb270, 1, none⟩ (.bool t269)) w.heap.size (fun k_ => some k_ ≠ (.slice Ao15 t243.length co15 : Value).ownBlock ∧ k_ ≠ gb270) (.slice Ao45 t266.length co45) t266) := ⟨kv (Kd.V_mono (Kd.V_far (p := ⟨gb270, 1, none⟩) (Kd.V_far (p := ⟨gb270, 0, none⟩) (Kd.V_mono HO268.out (fun k_ hk => (⟨hk, hk.2⟩ : _ ∧ k_ ≠ gb270))) (fun _ hk => hk.2) (.slice Ao45 t266.length co45)) (fun _ hk => hk.2) (.bool t269)) (fun _ hk => ⟨hk.1.1, hk.1.2⟩))⟩
               have n4_ : Aside0 (((w44.setCell ⟨gb270, 0, none⟩ (.slice Ao45 t266.length co45)).setCell ⟨gb270, 1, none⟩ (.bool t269)).heap[gb270]? = some (.cells #[.slice Ao45 t266.length co45, .bool t269] 34 (0, 0))) := ⟨by (with_reducible repeat (first | apply kb1 | apply kb2 | apply kb3 | apply blkPut2_1 | apply blkPut2_0)); exact BK270.out⟩
               have n5_ : Aside0 (Below w.heap.size w ((w44.setCell ⟨gb270, 0, none⟩ (.slice Ao45 t266.length co45)).setCell ⟨gb270, 1, none⟩ (.bool t269))) := ⟨by repeat (first | (with_reducible first | exact HB.out | apply kc1 | apply kc2 | apply kc3 | refine kc4 ?_ GE270.out) | exact HB.out)⟩
               (try clear HO_6)
               (try clear HO259)
               (try clear HO264)
               (try clear HO268)
               (try clear BK270)
               (try clear HB)
               generalize ((w44.setCell ⟨gb270, 0, none⟩ (.slice Ao45 t266.length co45)).setCell ⟨gb270, 1, none⟩ (.bool t269)) = w48 at n0_ n1_ n2_ n3_ n4_ n5_ ⊢
               have HO_6 := n0_
               have HO259 := n1_
               have HO264 := n2_
               have HO268 := n3_
               have BK270 := n4_
               have HB := n5_
               clear n0_ n1_ n2_ n3_ n4_ n5_
               replace HO_6 := ka (Kd.R_drew HO_6.out)
               replace HO259 := ka (Kd.V_drew HO259.out)
               replace HO264 := ka (Kd.V_drew HO264.out)
               replace HO268 := ka (Kd.V_drew HO268.out)
               replace BK270 := ka (blk_drew BK270.out)
               replace HB := ka (below_drew1 HB.out)
               have p271 : 0 ≤ (x12_3 : Int) := of_decide_eq_true (by first | (with_reducible assumption) | assumption)
               have q271 : x12_3 < (t243.length : Int) := of_decide_eq_true (by first | (with_reducible assumption) | assumption)
               obtain ⟨ad271, e271, hx271_0⟩ := Kd.at_int (Kd.R_reads' HO_6.out).2.2 x12_3 p271 q271
               cases e271
               replace p271 := eq_true p271
               replace q271 := eq_true q271
               refine start_ (n := 13) (S := fun w' => w'.cell? ⟨gb270, 0, none⟩ = some (.slice Ao45 t266.length co45) ∧ w'.cell? ⟨gb270, 1, none⟩ = some (.bool t269) ∧ w'.cell? (ad271.add (x12_3).toNat) = some (.int .i64 (rd t243 x12_3))) (ds := []) #[false, false, false, false, false, false, false, false, false, false, false, false, false] (by kernel_rfl) rfl rfl ⟨(blk_cell BK270.out 0).trans rfl, (blk_cell BK270.out 1).trans rfl, hx271_0⟩ (fun hHeld => ?_); refine with_tabW trivetlaw03_SplitWhole.tab23 trivetlaw03_SplitWhole.bits23 (fun HT_ HW_ => ?_)
               generalize w48.drew = w49 at HO_6 HO259 HO264 HO268 BK270 HB hx271_0 hHeld ⊢
               refine pure_ (i := 1) (N := some 105) (v := ?_) (a' := ?_) #[false, true, false, false, false, false, false, false, false, false, false, false, false] rfl rfl (any_of HT_.out (by kernel_rfl)) (fun _ _ _ h => h) (Or.inl ⟨by rfl, ?_⟩) ?_ ?_
               rotate_left
               ·intro w'
                go_simp
                with_reducible rfl
               rotate_left
               ·simp only [Act.put, List.setIfInBounds_toArray, List.set_cons_zero, List.set_cons_succ, i64_w, i32_w]
                rfl
               refine pure_ (i := 2) (N := some 106) (v := ?_) (a' := ?_) #[false, true, true, false, false, false, false, false, false, false, false, false, false] rfl rfl (any_of HT_.out (by kernel_rfl)) (fun _ _ _ h => h) (Or.inl ⟨by rfl, ?_⟩) ?_ ?_
               rotate_left
               ·intro w'
                go_simp
                with_reducible rfl
               rotate_left
               ·simp only [Act.put, List.setIfInBounds_toArray, List.set_cons_zero, List.set_cons_succ, i64_w, i32_w]
                rfl
               refine pure_ (i := 3) (N := some 107) (v := ?_) (a' := ?_) #[false, true, true, true, false, false, false, false, false, false, false, false, false] rfl rfl (any_of HT_.out (by kernel_rfl)) (fun _ _ _ h => h) (Or.inl ⟨by rfl, ?_⟩) ?_ ?_
               rotate_left
               ·intro w'
                go_simp
                with_reducible rfl
               rotate_left
               ·simp only [Act.put, List.setIfInBounds_toArray, List.set_cons_zero, List.set_cons_succ, i64_w, i32_w]
                rfl
               refine pure_ (i := 6) (N := some 110) (v := ?_) (a' := ?_) #[false, true, true, true, false, false, true, false, false, false, false, false, false] rfl rfl (any_of HT_.out (by kernel_rfl)) (fun _ _ _ h => h) (Or.inl ⟨by rfl, ?_⟩) ?_ ?_
               rotate_left
               ·intro w'
                go_simp
                with_reducible rfl
               rotate_left
               ·simp only [Act.put, List.setIfInBounds_toArray, List.set_cons_zero, List.set_cons_succ, i64_w, i32_w]
                rfl
               refine take_ (i := 0) (N := some 104) (v := ?_) (a' := ?_) #[true, true, true, true, false, false, true, false, false, false, false, false, false] rfl rfl (take_ofW HT_.out HW_.out (by kernel_rfl)) (fun _ _ _ h => h) (Or.inl ⟨by rfl, ?_⟩) hHeld ?_ ?_
               rotate_left
               ·rintro w' ⟨s0, s1, s2⟩
                go_simp
                with_reducible rfl
               rotate_left
               ·simp only [Act.put, List.setIfInBounds_toArray, List.set_cons_zero, List.set_cons_succ, i64_w, i32_w]
                rfl
               refine take_ (i := 4) (N := some 108) (v := ?_) (a' := ?_) #[true, true, true, true, true, false, true, false, false, false, false, false, false] rfl rfl (take_ofW HT_.out HW_.out (by kernel_rfl)) (fun _ _ _ h => h) (Or.inl ⟨by rfl, ?_⟩) hHeld ?_ ?_
               rotate_left
               ·rintro w' ⟨s0, s1, s2⟩
                go_simp
                with_reducible rfl
               rotate_left
               ·simp only [Act.put, List.setIfInBounds_toArray, List.set_cons_zero, List.set_cons_succ, i64_w, i32_w]
                rfl
               refine join_ (σ := Value × Value × Value × Value × Value × Nat) 1 #[true, true, true, true, true, true, true, true, true, true, true, true, false] (fun s_ => [(109, .agg #[s_.1, .bool t275]), (111, .agg #[s_.2.1, .bool t279]), (112, .agg #[s_.2.2.1, .bool t283]), (113, .agg #[s_.2.2.2.1, .bool t287]), (114, .agg #[s_.2.2.2.2.1, .bool t291]), (14, .pointer (some ⟨s_.2.2.2.2.2, 0, none⟩))]) (fun s_ w' => (w'.cell? ⟨gb270, 0, none⟩ = some (.slice Ao45 t266.length co45) ∧ w'.cell? ⟨gb270, 1, none⟩ = some (.bool t269) ∧ w'.cell? (ad271.add (x12_3).toNat) = some (.int .i64 (rd t243 x12_3))) ∧ (Kd.V (Kd.int .u64) 42 w' w.heap.size (fun k_ => some k_ ≠ (.slice (some ad271) t243.length co15 : Value).ownBlock ∧ k_ ≠ gb270 ∧ k_ ≠ s_.2.2.2.2.2) v258 t257) ∧ (Kd.V (Kd.int .u64) 42 w' w.heap.size (fun k_ => some k_ ≠ (.slice (some ad271) t243.length co15 : Value).ownBlock ∧ k_ ≠ gb270 ∧ k_ ≠ s_.2.2.2.2.2) v263 t262) ∧ (Kd.V (Kd.int .u64) 42 w' w.heap.size (fun k_ => some k_ ≠ (.slice (some ad271) t243.length co15 : Value).ownBlock ∧ k_ ≠ gb270 ∧ k_ ≠ s_.2.2.2.2.2) (.slice Ao45 t266.length co45) t266) ∧ (Kd.V (Kd.int .u64) 42 w' w.heap.size (fun k_ => some k_ ≠ (.slice (some ad271) t243.length co15 : Value).ownBlock ∧ k_ ≠ gb270 ∧ k_ ≠ s_.2.2.2.2.2) s_.1 t272) ∧ (Kd.V (Kd.int .u64) 42 w' w.heap.size (fun k_ => some k_ ≠ (.slice (some ad271) t243.length co15 : Value).ownBlock ∧ k_ ≠ gb270 ∧ k_ ≠ s_.2.2.2.2.2) s_.2.1 t276) ∧ (Kd.V (Kd.int .u64) 42 w' w.heap.size (fun k_ => some k_ ≠ (.slice (some ad271) t243.length co15 : Value).ownBlock ∧ k_ ≠ gb270 ∧ k_ ≠ s_.2.2.2.2.2) s_.2.2.1 t280) ∧ (Kd.V (Kd.int .u64) 42 w' w.heap.size (fun k_ => some k_ ≠ (.slice (some ad271) t243.length co15 : Value).ownBlock ∧ k_ ≠ gb270 ∧ k_ ≠ s_.2.2.2.2.2) s_.2.2.2.1 t284) ∧ (Kd.V (Kd.int .u64) 42 w' w.heap.size (fun k_ => some k_ ≠ (.slice (some ad271) t243.length co15 : Value).ownBlock ∧ k_ ≠ gb270 ∧ k_ ≠ s_.2.2.2.2.2) s_.2.2.2.2.1 t288) ∧ (Kd.R (Kd.int .i64) 2 w' w.heap.size (fun _ => True) (.slice (some ad271) t243.length co15) t243) ∧ (w'.heap[gb270]? = some (.cells #[.slice Ao45 t266.length co45, .bool t269] 34 (0, 0))) ∧ (w'.heap[s_.2.2.2.2.2]? = some (.cells #[.slice none 0 0, .bool false] 34 (0, 0))) ∧ (w.heap.size ≤ s_.2.2.2.2.2) ∧ (w.heap.size ≤ s_.2.2.2.2.2) ∧ (gb270 ≠ s_.2.2.2.2.2) ∧ (s_.2.2.2.2.2 ≠ gb270) ∧ (Below w.heap.size w w')) ?_ ?_
               rotate_left
               ·intro hJ5_7_8_9_10_11
                refine join_ (σ := Value × Value × Value × Value × Value) 2 #[true, true, true, true, true, true, true, true, true, true, true, false, false] (fun s_ => [(109, .agg #[s_.1, .bool t275]), (111, .agg #[s_.2.1, .bool t279]), (112, .agg #[s_.2.2.1, .bool t283]), (113, .agg #[s_.2.2.2.1, .bool t287]), (114, .agg #[s_.2.2.2.2, .bool t291])]) (fun s_ w' => (w'.cell? ⟨gb270, 0, none⟩ = some (.slice Ao45 t266.length co45) ∧ w'.cell? ⟨gb270, 1, none⟩ = some (.bool t269) ∧ w'.cell? (ad271.add (x12_3).toNat) = some (.int .i64 (rd t243 x12_3))) ∧ (Kd.V (Kd.int .u64) 42 w' w.heap.size (fun k_ => some k_ ≠ (.slice (some ad271) t243.length co15 : Value).ownBlock ∧ k_ ≠ gb270) v258 t257) ∧ (Kd.V (Kd.int .u64) 42 w' w.heap.size (fun k_ => some k_ ≠ (.slice (some ad271) t243.length co15 : Value).ownBlock ∧ k_ ≠ gb270) v263 t262) ∧ (Kd.V (Kd.int .u64) 42 w' w.heap.size (fun k_ => some k_ ≠ (.slice (some ad271) t243.length co15 : Value).ownBlock ∧ k_ ≠ gb270) (.slice Ao45 t266.length co45) t266) ∧ (Kd.V (Kd.int .u64) 42 w' w.heap.size (fun k_ => some k_ ≠ (.slice (some ad271) t243.length co15 : Value).ownBlock ∧ k_ ≠ gb270) s_.1 t272) ∧ (Kd.V (Kd.int .u64) 42 w' w.heap.size (fun k_ => some k_ ≠ (.slice (some ad271) t243.length co15 : Value).ownBlock ∧ k_ ≠ gb270) s_.2.1 t276) ∧ (Kd.V (Kd.int .u64) 42 w' w.heap.size (fun k_ => some k_ ≠ (.slice (some ad271) t243.length co15 : Value).ownBlock ∧ k_ ≠ gb270) s_.2.2.1 t280) ∧ (Kd.V (Kd.int .u64) 42 w' w.heap.size (fun k_ => some k_ ≠ (.slice (some ad271) t243.length co15 : Value).ownBlock ∧ k_ ≠ gb270) s_.2.2.2.1 t284) ∧ (Kd.V (Kd.int .u64) 42 w' w.heap.size (fun k_ => some k_ ≠ (.slice (some ad271) t243.length co15 : Value).ownBlock ∧ k_ ≠ gb270) s_.2.2.2.2 t288) ∧ (Kd.R (Kd.int .i64) 2 w' w.heap.size (fun _ => True) (.slice (some ad271) t243.length co15) t243) ∧ (w'.heap[gb270]? = some (.cells #[.slice Ao45 t266.length co45, .bool t269] 34 (0, 0))) ∧ (Below w.heap.size w w')) ?_ ?_
                rotate_left
                ·intro hJ5_7_8_9_10
                 refine join_ (σ := Value × Value × Value × Value × Nat) 2 #[true, true, true, true, true, true, true, true, true, true, false, true, false] (fun s_ => [(109, .agg #[s_.1, .bool t275]), (111, .agg #[s_.2.1, .bool t279]), (112, .agg #[s_.2.2.1, .bool t283]), (113, .agg #[s_.2.2.2.1, .bool t287]), (14, .pointer (some ⟨s_.2.2.2.2, 0, none⟩))]) (fun s_ w' => (w'.cell? ⟨gb270, 0, none⟩ = some (.slice Ao45 t266.length co45) ∧ w'.cell? ⟨gb270, 1, none⟩ = some (.bool t269) ∧ w'.cell? (ad271.add (x12_3).toNat) = some (.int .i64 (rd t243 x12_3))) ∧ (Kd.V (Kd.int .u64) 42 w' w.heap.size (fun k_ => some k_ ≠ (.slice (some ad271) t243.length co15 : Value).ownBlock ∧ k_ ≠ gb270 ∧ k_ ≠ s_.2.2.2.2) v258 t257) ∧ (Kd.V (Kd.int .u64) 42 w' w.heap.size (fun k_ => some k_ ≠ (.slice (some ad271) t243.length co15 : Value).ownBlock ∧ k_ ≠ gb270 ∧ k_ ≠ s_.2.2.2.2) v263 t262) ∧ (Kd.V (Kd.int .u64) 42 w' w.heap.size (fun k_ => some k_ ≠ (.slice (some ad271) t243.length co15 : Value).ownBlock ∧ k_ ≠ gb270 ∧ k_ ≠ s_.2.2.2.2) (.slice Ao45 t266.length co45) t266) ∧ (Kd.V (Kd.int .u64) 42 w' w.heap.size (fun k_ => some k_ ≠ (.slice (some ad271) t243.length co15 : Value).ownBlock ∧ k_ ≠ gb270 ∧ k_ ≠ s_.2.2.2.2) s_.1 t272) ∧ (Kd.V (Kd.int .u64) 42 w' w.heap.size (fun k_ => some k_ ≠ (.slice (some ad271) t243.length co15 : Value).ownBlock ∧ k_ ≠ gb270 ∧ k_ ≠ s_.2.2.2.2) s_.2.1 t276) ∧ (Kd.V (Kd.int .u64) 42 w' w.heap.size (fun k_ => some k_ ≠ (.slice (some ad271) t243.length co15 : Value).ownBlock ∧ k_ ≠ gb270 ∧ k_ ≠ s_.2.2.2.2) s_.2.2.1 t280) ∧ (Kd.V (Kd.int .u64) 42 w' w.heap.size (fun k_ => some k_ ≠ (.slice (some ad271) t243.length co15 : Value).ownBlock ∧ k_ ≠ gb270 ∧ k_ ≠ s_.2.2.2.2) s_.2.2.2.1 t284) ∧ (Kd.R (Kd.int .i64) 2 w' w.heap.size (fun _ => True) (.slice (some ad271) t243.length co15) t243) ∧ (w'.heap[gb270]? = some (.cells #[.slice Ao45 t266.length co45, .bool t269] 34 (0, 0))) ∧ (w'.heap[s_.2.2.2.2]? = some (.cells #[.slice none 0 0, .bool false] 34 (0, 0))) ∧ (w.heap.size ≤ s_.2.2.2.2) ∧ (w.heap.size ≤ s_.2.2.2.2) ∧ (gb270 ≠ s_.2.2.2.2) ∧ (s_.2.2.2.2 ≠ gb270) ∧ (Below w.heap.size w w')) ?_ ?_
                 rotate_left
                 ·intro hJ5_7_8_9_11
                  refine join_ (σ := Value × Value × Value × Value) 3 #[true, true, true, true, true, true, true, true, true, true, false, false, false] (fun s_ => [(109, .agg #[s_.1, .bool t275]), (111, .agg #[s_.2.1, .bool t279]), (112, .agg #[s_.2.2.1, .bool t283]), (113, .agg #[s_.2.2.2, .bool t287])]) (fun s_ w' => (w'.cell? ⟨gb270, 0, none⟩ = some (.slice Ao45 t266.length co45) ∧ w'.cell? ⟨gb270, 1, none⟩ = some (.bool t269) ∧ w'.cell? (ad271.add (x12_3).toNat) = some (.int .i64 (rd t243 x12_3))) ∧ (Kd.V (Kd.int .u64) 42 w' w.heap.size (fun k_ => some k_ ≠ (.slice (some ad271) t243.length co15 : Value).ownBlock ∧ k_ ≠ gb270) v258 t257) ∧ (Kd.V (Kd.int .u64) 42 w' w.heap.size (fun k_ => some k_ ≠ (.slice (some ad271) t243.length co15 : Value).ownBlock ∧ k_ ≠ gb270) v263 t262) ∧ (Kd.V (Kd.int .u64) 42 w' w.heap.size (fun k_ => some k_ ≠ (.slice (some ad271) t243.length co15 : Value).ownBlock ∧ k_ ≠ gb270) (.slice Ao45 t266.length co45) t266) ∧ (Kd.V (Kd.int .u64) 42 w' w.heap.size (fun k_ => some k_ ≠ (.slice (some ad271) t243.length co15 : Value).ownBlock ∧ k_ ≠ gb270) s_.1 t272) ∧ (Kd.V (Kd.int .u64) 42 w' w.heap.size (fun k_ => some k_ ≠ (.slice (some ad271) t243.length co15 : Value).ownBlock ∧ k_ ≠ gb270) s_.2.1 t276) ∧ (Kd.V (Kd.int .u64) 42 w' w.heap.size (fun k_ => some k_ ≠ (.slice (some ad271) t243.length co15 : Value).ownBlock ∧ k_ ≠ gb270) s_.2.2.1 t280) ∧ (Kd.V (Kd.int .u64) 42 w' w.heap.size (fun k_ => some k_ ≠ (.slice (some ad271) t243.length co15 : Value).ownBlock ∧ k_ ≠ gb270) s_.2.2.2 t284) ∧ (Kd.R (Kd.int .i64) 2 w' w.heap.size (fun _ => True) (.slice (some ad271) t243.length co15) t243) ∧ (w'.heap[gb270]? = some (.cells #[.slice Ao45 t266.length co45, .bool t269] 34 (0, 0))) ∧ (Below w.heap.size w w')) ?_ ?_
                  rotate_left
                  ·intro hJ5_7_8_9
                   refine join_ (σ := Value × Value × Value × Nat) 3 #[true, true, true, true, true, true, true, true, true, false, false, true, false] (fun s_ => [(109, .agg #[s_.1, .bool t275]), (111, .agg #[s_.2.1, .bool t279]), (112, .agg #[s_.2.2.1, .bool t283]), (14, .pointer (some ⟨s_.2.2.2, 0, none⟩))]) (fun s_ w' => (w'.cell? ⟨gb270, 0, none⟩ = some (.slice Ao45 t266.length co45) ∧ w'.cell? ⟨gb270, 1, none⟩ = some (.bool t269) ∧ w'.cell? (ad271.add (x12_3).toNat) = some (.int .i64 (rd t243 x12_3))) ∧ (Kd.V (Kd.int .u64) 42 w' w.heap.size (fun k_ => some k_ ≠ (.slice (some ad271) t243.length co15 : Value).ownBlock ∧ k_ ≠ gb270 ∧ k_ ≠ s_.2.2.2) v258 t257) ∧ (Kd.V (Kd.int .u64) 42 w' w.heap.size (fun k_ => some k_ ≠ (.slice (some ad271) t243.length co15 : Value).ownBlock ∧ k_ ≠ gb270 ∧ k_ ≠ s_.2.2.2) v263 t262) ∧ (Kd.V (Kd.int .u64) 42 w' w.heap.size (fun k_ => some k_ ≠ (.slice (some ad271) t243.length co15 : Value).ownBlock ∧ k_ ≠ gb270 ∧ k_ ≠ s_.2.2.2) (.slice Ao45 t266.length co45) t266) ∧ (Kd.V (Kd.int .u64) 42 w' w.heap.size (fun k_ => some k_ ≠ (.slice (some ad271) t243.length co15 : Value).ownBlock ∧ k_ ≠ gb270 ∧ k_ ≠ s_.2.2.2) s_.1 t272) ∧ (Kd.V (Kd.int .u64) 42 w' w.heap.size (fun k_ => some k_ ≠ (.slice (some ad271) t243.length co15 : Value).ownBlock ∧ k_ ≠ gb270 ∧ k_ ≠ s_.2.2.2) s_.2.1 t276) ∧ (Kd.V (Kd.int .u64) 42 w' w.heap.size (fun k_ => some k_ ≠ (.slice (some ad271) t243.length co15 : Value).ownBlock ∧ k_ ≠ gb270 ∧ k_ ≠ s_.2.2.2) s_.2.2.1 t280) ∧ (Kd.R (Kd.int .i64) 2 w' w.heap.size (fun _ => True) (.slice (some ad271) t243.length co15) t243) ∧ (w'.heap[gb270]? = some (.cells #[.slice Ao45 t266.length co45, .bool t269] 34 (0, 0))) ∧ (w'.heap[s_.2.2.2]? = some (.cells #[.slice none 0 0, .bool false] 34 (0, 0))) ∧ (w.heap.size ≤ s_.2.2.2) ∧ (w.heap.size ≤ s_.2.2.2) ∧ (gb270 ≠ s_.2.2.2) ∧ (s_.2.2.2 ≠ gb270) ∧ (Below w.heap.size w w')) ?_ ?_
                   rotate_left
                   ·intro hJ5_7_8_11
                    refine join_ (σ := Value × Value × Value) 4 #[true, true, true, true, true, true, true, true, true, false, false, false, false] (fun s_ => [(109, .agg #[s_.1, .bool t275]), (111, .agg #[s_.2.1, .bool t279]), (112, .agg #[s_.2.2, .bool t283])]) (fun s_ w' => (w'.cell? ⟨gb270, 0, none⟩ = some (.slice Ao45 t266.length co45) ∧ w'.cell? ⟨gb270, 1, none⟩ = some (.bool t269) ∧ w'.cell? (ad271.add (x12_3).toNat) = some (.int .i64 (rd t243 x12_3))) ∧ (Kd.V (Kd.int .u64) 42 w' w.heap.size (fun k_ => some k_ ≠ (.slice (some ad271) t243.length co15 : Value).ownBlock ∧ k_ ≠ gb270) v258 t257) ∧ (Kd.V (Kd.int .u64) 42 w' w.heap.size (fun k_ => some k_ ≠ (.slice (some ad271) t243.length co15 : Value).ownBlock ∧ k_ ≠ gb270) v263 t262) ∧ (Kd.V (Kd.int .u64) 42 w' w.heap.size (fun k_ => some k_ ≠ (.slice (some ad271) t243.length co15 : Value).ownBlock ∧ k_ ≠ gb270) (.slice Ao45 t266.length co45) t266) ∧ (Kd.V (Kd.int .u64) 42 w' w.heap.size (fun k_ => some k_ ≠ (.slice (some ad271) t243.length co15 : Value).ownBlock ∧ k_ ≠ gb270) s_.1 t272) ∧ (Kd.V (Kd.int .u64) 42 w' w.heap.size (fun k_ => some k_ ≠ (.slice (some ad271) t243.length co15 : Value).ownBlock ∧ k_ ≠ gb270) s_.2.1 t276) ∧ (Kd.V (Kd.int .u64) 42 w' w.heap.size (fun k_ => some k_ ≠ (.slice (some ad271) t243.length co15 : Value).ownBlock ∧ k_ ≠ gb270) s_.2.2 t280) ∧ (Kd.R (Kd.int .i64) 2 w' w.heap.size (fun _ => True) (.slice (some ad271) t243.length co15) t243) ∧ (w'.heap[gb270]? = some (.cells #[.slice Ao45 t266.length co45, .bool t269] 34 (0, 0))) ∧ (Below w.heap.size w w')) ?_ ?_
                    rotate_left
                    ·intro hJ5_7_8
                     refine join_ (σ := Value × Value × Nat) 4 #[true, true, true, true, true, true, true, true, false, false, false, true, false] (fun s_ => [(109, .agg #[s_.1, .bool t275]), (111, .agg #[s_.2.1, .bool t279]), (14, .pointer (some ⟨s_.2.2, 0, none⟩))]) (fun s_ w' => (w'.cell? ⟨gb270, 0, none⟩ = some (.slice Ao45 t266.length co45) ∧ w'.cell? ⟨gb270, 1, none⟩ = some (.bool t269) ∧ w'.cell? (ad271.add (x12_3).toNat) = some (.int .i64 (rd t243 x12_3))) ∧ (Kd.V (Kd.int .u64) 42 w' w.heap.size (fun k_ => some k_ ≠ (.slice (some ad271) t243.length co15 : Value).ownBlock ∧ k_ ≠ gb270 ∧ k_ ≠ s_.2.2) v258 t257) ∧ (Kd.V (Kd.int .u64) 42 w' w.heap.size (fun k_ => some k_ ≠ (.slice (some ad271) t243.length co15 : Value).ownBlock ∧ k_ ≠ gb270 ∧ k_ ≠ s_.2.2) v263 t262) ∧ (Kd.V (Kd.int .u64) 42 w' w.heap.size (fun k_ => some k_ ≠ (.slice (some ad271) t243.length co15 : Value).ownBlock ∧ k_ ≠ gb270 ∧ k_ ≠ s_.2.2) (.slice Ao45 t266.length co45) t266) ∧ (Kd.V (Kd.int .u64) 42 w' w.heap.size (fun k_ => some k_ ≠ (.slice (some ad271) t243.length co15 : Value).ownBlock ∧ k_ ≠ gb270 ∧ k_ ≠ s_.2.2) s_.1 t272) ∧ (Kd.V (Kd.int .u64) 42 w' w.heap.size (fun k_ => some k_ ≠ (.slice (some ad271) t243.length co15 : Value).ownBlock ∧ k_ ≠ gb270 ∧ k_ ≠ s_.2.2) s_.2.1 t276) ∧ (Kd.R (Kd.int .i64) 2 w' w.heap.size (fun _ => True) (.slice (some ad271) t243.length co15) t243) ∧ (w'.heap[gb270]? = some (.cells #[.slice Ao45 t266.length co45, .bool t269] 34 (0, 0))) ∧ (w'.heap[s_.2.2]? = some (.cells #[.slice none 0 0, .bool false] 34 (0, 0))) ∧ (w.heap.size ≤ s_.2.2) ∧ (w.heap.size ≤ s_.2.2) ∧ (gb270 ≠ s_.2.2) ∧ (s_.2.2 ≠ gb270) ∧ (Below w.heap.size w w')) ?_ ?_
                     rotate_left
                     ·intro hJ5_7_11
                      refine join_ (σ := Value × Value) 5 #[true, true, true, true, true, true, true, true, false, false, false, false, false] (fun s_ => [(109, .agg #[s_.1, .bool t275]), (111, .agg #[s_.2, .bool t279])]) (fun s_ w' => (w'.cell? ⟨gb270, 0, none⟩ = some (.slice Ao45 t266.length co45) ∧ w'.cell? ⟨gb270, 1, none⟩ = some (.bool t269) ∧ w'.cell? (ad271.add (x12_3).toNat) = some (.int .i64 (rd t243 x12_3))) ∧ (Kd.V (Kd.int .u64) 42 w' w.heap.size (fun k_ => some k_ ≠ (.slice (some ad271) t243.length co15 : Value).ownBlock ∧ k_ ≠ gb270) v258 t257) ∧ (Kd.V (Kd.int .u64) 42 w' w.heap.size (fun k_ => some k_ ≠ (.slice (some ad271) t243.length co15 : Value).ownBlock ∧ k_ ≠ gb270) v263 t262) ∧ (Kd.V (Kd.int .u64) 42 w' w.heap.size (fun k_ => some k_ ≠ (.slice (some ad271) t243.length co15 : Value).ownBlock ∧ k_ ≠ gb270) (.slice Ao45 t266.length co45) t266) ∧ (Kd.V (Kd.int .u64) 42 w' w.heap.size (fun k_ => some k_ ≠ (.slice (some ad271) t243.length co15 : Value).ownBlock ∧ k_ ≠ gb270) s_.1 t272) ∧ (Kd.V (Kd.int .u64) 42 w' w.heap.size (fun k_ => some k_ ≠ (.slice (some ad271) t243.length co15 : Value).ownBlock ∧ k_ ≠ gb270) s_.2 t276) ∧ (Kd.R (Kd.int .i64) 2 w' w.heap.size (fun _ => True) (.slice (some ad271) t243.length co15) t243) ∧ (w'.heap[gb270]? = some (.cells #[.slice Ao45 t266.length co45, .bool t269] 34 (0, 0))) ∧ (Below w.heap.size w w')) ?_ ?_
                      rotate_left
                      ·intro hJ5_7
                       refine join_ (σ := Value × Nat) 5 #[true, true, true, true, true, true, true, false, false, false, false, true, false] (fun s_ => [(109, .agg #[s_.1, .bool t275]), (14, .pointer (some ⟨s_.2, 0, none⟩))]) (fun s_ w' => (w'.cell? ⟨gb270, 0, none⟩ = some (.slice Ao45 t266.length co45) ∧ w'.cell? ⟨gb270, 1, none⟩ = some (.bool t269) ∧ w'.cell? (ad271.add (x12_3).toNat) = some (.int .i64 (rd t243 x12_3))) ∧ (Kd.V (Kd.int .u64) 42 w' w.heap.size (fun k_ => some k_ ≠ (.slice (some ad271) t243.length co15 : Value).ownBlock ∧ k_ ≠ gb270 ∧ k_ ≠ s_.2) v258 t257) ∧ (Kd.V (Kd.int .u64) 42 w' w.heap.size (fun k_ => some k_ ≠ (.slice (some ad271) t243.length co15 : Value).ownBlock ∧ k_ ≠ gb270 ∧ k_ ≠ s_.2) v263 t262) ∧ (Kd.V (Kd.int .u64) 42 w' w.heap.size (fun k_ => some k_ ≠ (.slice (some ad271) t243.length co15 : Value).ownBlock ∧ k_ ≠ gb270 ∧ k_ ≠ s_.2) (.slice Ao45 t266.length co45) t266) ∧ (Kd.V (Kd.int .u64) 42 w' w.heap.size (fun k_ => some k_ ≠ (.slice (some ad271) t243.length co15 : Value).ownBlock ∧ k_ ≠ gb270 ∧ k_ ≠ s_.2) s_.1 t272) ∧ (Kd.R (Kd.int .i64) 2 w' w.heap.size (fun _ => True) (.slice (some ad271) t243.length co15) t243) ∧ (w'.heap[gb270]? = some (.cells #[.slice Ao45 t266.length co45, .bool t269] 34 (0, 0))) ∧ (w'.heap[s_.2]? = some (.cells #[.slice none 0 0, .bool false] 34 (0, 0))) ∧ (w.heap.size ≤ s_.2) ∧ (w.heap.size ≤ s_.2) ∧ (gb270 ≠ s_.2) ∧ (s_.2 ≠ gb270) ∧ (Below w.heap.size w w')) ?_ ?_
                       rotate_left
                       ·intro hJ5_11
                        refine join_ (σ := Value) 6 #[true, true, true, true, true, true, true, false, false, false, false, false, false] (fun s_ => [(109, .agg #[s_, .bool t275])]) (fun s_ w' => (w'.cell? ⟨gb270, 0, none⟩ = some (.slice Ao45 t266.length co45) ∧ w'.cell? ⟨gb270, 1, none⟩ = some (.bool t269) ∧ w'.cell? (ad271.add (x12_3).toNat) = some (.int .i64 (rd t243 x12_3))) ∧ (Kd.V (Kd.int .u64) 42 w' w.heap.size (fun k_ => some k_ ≠ (.slice (some ad271) t243.length co15 : Value).ownBlock ∧ k_ ≠ gb270) v258 t257) ∧ (Kd.V (Kd.int .u64) 42 w' w.heap.size (fun k_ => some k_ ≠ (.slice (some ad271) t243.length co15 : Value).ownBlock ∧ k_ ≠ gb270) v263 t262) ∧ (Kd.V (Kd.int .u64) 42 w' w.heap.size (fun k_ => some k_ ≠ (.slice (some ad271) t243.length co15 : Value).ownBlock ∧ k_ ≠ gb270) (.slice Ao45 t266.length co45) t266) ∧ (Kd.V (Kd.int .u64) 42 w' w.heap.size (fun k_ => some k_ ≠ (.slice (some ad271) t243.length co15 : Value).ownBlock ∧ k_ ≠ gb270) s_ t272) ∧ (Kd.R (Kd.int .i64) 2 w' w.heap.size (fun _ => True) (.slice (some ad271) t243.length co15) t243) ∧ (w'.heap[gb270]? = some (.cells #[.slice Ao45 t266.length co45, .bool t269] 34 (0, 0))) ∧ (Below w.heap.size w w')) ?_ ?_
                        rotate_left
                        ·intro hJ5
                         refine join_ (σ := Nat) 6 #[true, true, true, true, true, false, true, false, false, false, false, true, false] (fun s_ => [(14, .pointer (some ⟨s_, 0, none⟩))]) (fun s_ w' => (w'.cell? ⟨gb270, 0, none⟩ = some (.slice Ao45 t266.length co45) ∧ w'.cell? ⟨gb270, 1, none⟩ = some (.bool t269) ∧ w'.cell? (ad271.add (x12_3).toNat) = some (.int .i64 (rd t243 x12_3))) ∧ (Kd.V (Kd.int .u64) 42 w' w.heap.size (fun k_ => some k_ ≠ (.slice (some ad271) t243.length co15 : Value).ownBlock ∧ k_ ≠ gb270 ∧ k_ ≠ s_) v258 t257) ∧ (Kd.V (Kd.int .u64) 42 w' w.heap.size (fun k_ => some k_ ≠ (.slice (some ad271) t243.length co15 : Value).ownBlock ∧ k_ ≠ gb270 ∧ k_ ≠ s_) v263 t262) ∧ (Kd.V (Kd.int .u64) 42 w' w.heap.size (fun k_ => some k_ ≠ (.slice (some ad271) t243.length co15 : Value).ownBlock ∧ k_ ≠ gb270 ∧ k_ ≠ s_) (.slice Ao45 t266.length co45) t266) ∧ (Kd.R (Kd.int .i64) 2 w' w.heap.size (fun _ => True) (.slice (some ad271) t243.length co15) t243) ∧ (w'.heap[gb270]? = some (.cells #[.slice Ao45 t266.length co45, .bool t269] 34 (0, 0))) ∧ (w'.heap[s_]? = some (.cells #[.slice none 0 0, .bool false] 34 (0, 0))) ∧ (w.heap.size ≤ s_) ∧ (w.heap.size ≤ s_) ∧ (gb270 ≠ s_) ∧ (s_ ≠ gb270) ∧ (Below w.heap.size w w')) ?_ ?_
                         rotate_left
                         ·intro hJ11
                          refine two_ (i := 5) (j := 11) (Ni := some 109) (Nj := some 14) #[true, true, true, true, true, true, true, false, false, false, false, false, false] #[true, true, true, true, true, false, true, false, false, false, false, true, false] rfl rfl rfl rfl (two_of HT_.out (by kernel_rfl)) (by decide) (by decide) (fun K hK => ?_) (fun K hK => ?_)
                          ·skip
                           refine goes_ Try.func15 (by kernel_rfl) rfl #[.int .i64 (rd t243 x12_3)] (by rfl) rfl rfl (by (try simp only [List.map_toArray, List.map_cons, List.map_nil]); first | done | rfl | (simp only [List.length_drop, List.length_take]; rfl)) ?_
                           with_reducible refine (trivetref01_Of.calls k3 (rd t243 x12_3) t272 t275 _ A29.out).mono ?_
                           rintro e w50 ⟨v273, rfl, ho0, hb⟩
                           have HS2_ := (hb.cell (World.block_lt_of_cell? _ _ (hHeld.2.2))).trans (hHeld.2.2)
                           refine ⟨_, rfl, ?_⟩
                           replace HO259 := kvb HO259 hb
                           replace HO264 := kvb HO264 hb
                           replace HO268 := kvb HO268 hb
                           have HO274 := ka (Kd.V_lower (Kd.V_mono (ok' := fun k_ => some k_ ≠ (.slice (some ad271) t243.length co15 : Value).ownBlock ∧ k_ ≠ gb270) ho0 (fun k_ hk_ => ⟨(Kd.fresh' (Kd.R_lt (kr HO_6.out)) k_ hk_), (kf BK270 hk_)⟩)) (below_size (kw HB.out)))
                           replace HO_6 := ka (Kd.R_below (kr HO_6.out) hb)
                           replace BK270 := kbb BK270 hb
                           replace HB := ka (below_step (kw HB.out) hb)
                           (try clear hb)
                           (try clear hb2)
                           (try clear hk)
                           (try clear hi)
                           (try clear ho0)
                           refine hK.out _ _ ⟨(blk_cell BK270.out 0).trans rfl, (blk_cell BK270.out 1).trans rfl, HS2_⟩ (fun hHeld => ?_)
                           clear hK K
                           refine norm_ (a' := ?_) ?_ ?_
                           rotate_left
                           ·show Act.put _ (some 109) _ = _
                            simp only [Act.put, List.setIfInBounds_toArray, List.set_cons_zero, List.set_cons_succ, i64_w, i32_w]
                            rfl
                           exact norm_ (by first | (simp only [putAll, Act.put, List.setIfInBounds_toArray, List.set_cons_zero, List.set_cons_succ]; done) | (simp only [putAll, Act.put, List.setIfInBounds_toArray, List.set_cons_zero, List.set_cons_succ]; rfl)) (hJ5 (_) _ ⟨hHeld, (kv HO259.out), (kv HO264.out), (kv HO268.out), (kv HO274.out), (kr HO_6.out), (kz BK270.out), (kw HB.out)⟩)
                          ·skip
                           refine box_step ?hg (N := 14) ?hd (cs := #[.slice none 0 0, .bool false]) (t := 34) ?hr ?_; (case hd => rfl); (case hg => rfl); (case hr => first | (go_simp; done) | (go_simp; rfl))
                           intro gb292 hg w50 hbox hb
                           have HS2_ := (hb.cell (World.block_lt_of_cell? _ _ (hHeld.2.2))).trans (hHeld.2.2)
                           replace HO_6 := ka (Kd.R_below (kr HO_6.out) hb)
                           replace HO259 := ka (Kd.V_below (Kd.V_elderB (kv HO259.out) gb292 (Nat.le_of_eq hg.symm)) hb)
                           replace HO264 := ka (Kd.V_below (Kd.V_elderB (kv HO264.out) gb292 (Nat.le_of_eq hg.symm)) hb)
                           replace HO268 := ka (Kd.V_below (Kd.V_elderB (kv HO268.out) gb292 (Nat.le_of_eq hg.symm)) hb)
                           have BK292 := ka (hbox)
                           have GW292 := ka ((by rw [hg]; exact (below_size (kw HB.out)) : w.heap.size ≤ gb292))
                           have GE292 := ka ((by rw [hg]; exact (below_size (kw HB.out)) : w.heap.size ≤ gb292))
                           replace HB := ka (below_step (kw HB.out) hb)
                           have NB270_292 := knb hg BK270
                           have NB292_270 := ka NB270_292.out.symm
                           replace BK270 := kbb BK270 hb
                           clear hb hbox hg
                           refine hK.out _ _ ⟨(blk_cell BK270.out 0).trans rfl, (blk_cell BK270.out 1).trans rfl, HS2_⟩ (fun hHeld => ?_)
                           clear hK K
                           refine norm_ (a' := ?_) ?_ ?_
                           rotate_left
                           ·show Act.put _ (some 14) _ = _
                            simp only [Act.put, List.setIfInBounds_toArray, List.set_cons_zero, List.set_cons_succ, i64_w, i32_w]
                            rfl
                           exact norm_ (by first | (simp only [putAll, Act.put, List.setIfInBounds_toArray, List.set_cons_zero, List.set_cons_succ]; done) | (simp only [putAll, Act.put, List.setIfInBounds_toArray, List.set_cons_zero, List.set_cons_succ]; rfl)) (hJ11 (gb292) _ ⟨hHeld, (kv (Kd.V_mono HO259.out (fun _ => ra2))), (kv (Kd.V_mono HO264.out (fun _ => ra2))), (kv (Kd.V_mono HO268.out (fun _ => ra2))), (kr HO_6.out), (kz BK270.out), (kz BK292.out), GW292.out, GE292.out, NB270_292.out, NB292_270.out, (kw HB.out)⟩)
                         ·skip
                          rintro gb292 w51 ⟨hS_, h0_, h1_, h2_, h3_, h4_, h5_, h6_, h7_, h8_, h9_, h10_⟩
                          replace HO259 : Aside0 (Kd.V (Kd.int .u64) 42 w51 w.heap.size (fun k_ => some k_ ≠ (.slice (some ad271) t243.length co15 : Value).ownBlock ∧ k_ ≠ gb270 ∧ k_ ≠ gb292) v258 t257) := ⟨h0_⟩
                          replace HO264 : Aside0 (Kd.V (Kd.int .u64) 42 w51 w.heap.size (fun k_ => some k_ ≠ (.slice (some ad271) t243.length co15 : Value).ownBlock ∧ k_ ≠ gb270 ∧ k_ ≠ gb292) v263 t262) := ⟨h1_⟩
                          replace HO268 : Aside0 (Kd.V (Kd.int .u64) 42 w51 w.heap.size (fun k_ => some k_ ≠ (.slice (some ad271) t243.length co15 : Value).ownBlock ∧ k_ ≠ gb270 ∧ k_ ≠ gb292) (.slice Ao45 t266.length co45) t266) := ⟨h2_⟩
                          replace HO_6 : Aside0 (Kd.R (Kd.int .i64) 2 w51 w.heap.size (fun _ => True) (.slice (some ad271) t243.length co15) t243) := ⟨h3_⟩
                          replace BK270 : Aside0 (w51.heap[gb270]? = some (.cells #[.slice Ao45 t266.length co45, .bool t269] 34 (0, 0))) := ⟨h4_⟩
                          have BK292 : Aside0 (w51.heap[gb292]? = some (.cells #[.slice none 0 0, .bool false] 34 (0, 0))) := ⟨h5_⟩
                          have GW292 : Aside0 (w.heap.size ≤ gb292) := ⟨h6_⟩
                          have GE292 : Aside0 (w.heap.size ≤ gb292) := ⟨h7_⟩
                          have NB270_292 : Aside0 (gb270 ≠ gb292) := ⟨h8_⟩
                          have NB292_270 : Aside0 (gb292 ≠ gb270) := ⟨h9_⟩
                          replace HB : Aside0 (Below w.heap.size w w51) := ⟨h10_⟩
                          clear h0_ h1_ h2_ h3_ h4_ h5_ h6_ h7_ h8_ h9_ h10_
                          have hHeld : w51.cell? ⟨gb270, 0, none⟩ = some (.slice Ao45 t266.length co45) ∧ w51.cell? ⟨gb270, 1, none⟩ = some (.bool t269) ∧ w51.cell? (ad271.add (x12_3).toNat) = some (.int .i64 (rd t243 x12_3)) := hS_
                          refine norm_ (a' := ?_) ?_ ?_
                          rotate_left
                          ·simp only [putAll, Act.put, List.setIfInBounds_toArray, List.set_cons_zero, List.set_cons_succ]
                           rfl
                          refine one_ (i := 5) (N := some 109) #[true, true, true, true, true, true, true, false, false, false, false, true, false] rfl rfl (one_of HT_.out (by kernel_rfl)) (by decide) (fun K hK => ?_)
                          refine goes_ Try.func15 (by kernel_rfl) rfl #[.int .i64 (rd t243 x12_3)] (by rfl) rfl rfl (by (try simp only [List.map_toArray, List.map_cons, List.map_nil]); first | done | rfl | (simp only [List.length_drop, List.length_take]; rfl)) ?_
                          with_reducible refine (trivetref01_Of.calls k3 (rd t243 x12_3) t272 t275 _ A29.out).mono ?_
                          rintro e w52 ⟨v273, rfl, ho0, hb⟩
                          have HS2_ := (hb.cell (World.block_lt_of_cell? _ _ (hHeld.2.2))).trans (hHeld.2.2)
                          refine ⟨_, rfl, ?_⟩
                          replace HO259 := kvb HO259 hb
                          replace HO264 := kvb HO264 hb
                          replace HO268 := kvb HO268 hb
                          have HO274 := ka (Kd.V_lower (Kd.V_mono (ok' := fun k_ => some k_ ≠ (.slice (some ad271) t243.length co15 : Value).ownBlock ∧ k_ ≠ gb270 ∧ k_ ≠ gb292) ho0 (fun k_ hk_ => ⟨(Kd.fresh' (Kd.R_lt (kr HO_6.out)) k_ hk_), (kf BK270 hk_), (kf BK292 hk_)⟩)) (below_size (kw HB.out)))
                          replace HO_6 := ka (Kd.R_below (kr HO_6.out) hb)
                          replace BK270 := kbb BK270 hb
                          replace BK292 := kbb BK292 hb
                          replace HB := ka (below_step (kw HB.out) hb)
                          (try clear hb)
                          (try clear hb2)
                          (try clear hk)
                          (try clear hi)
                          (try clear ho0)
                          refine hK.out _ _ ⟨(blk_cell BK270.out 0).trans rfl, (blk_cell BK270.out 1).trans rfl, HS2_⟩ (fun hHeld => ?_)
                          clear hK K
                          refine norm_ (a' := ?_) ?_ ?_
                          rotate_left
                          ·show Act.put _ (some 109) _ = _
                           simp only [Act.put, List.setIfInBounds_toArray, List.set_cons_zero, List.set_cons_succ, i64_w, i32_w]
                           rfl
                          exact norm_ (by first | (simp only [putAll, Act.put, List.setIfInBounds_toArray, List.set_cons_zero, List.set_cons_succ]; done) | (simp only [putAll, Act.put, List.setIfInBounds_toArray, List.set_cons_zero, List.set_cons_succ]; rfl)) (hJ5_11 (_, gb292) _ ⟨hHeld, (kv HO259.out), (kv HO264.out), (kv HO268.out), (kv HO274.out), (kr HO_6.out), (kz BK270.out), (kz BK292.out), GW292.out, GE292.out, NB270_292.out, NB292_270.out, (kw HB.out)⟩)
                        ·skip
                         rintro v273 w51 ⟨hS_, h0_, h1_, h2_, h3_, h4_, h5_, h6_⟩
                         replace HO259 : Aside0 (Kd.V (Kd.int .u64) 42 w51 w.heap.size (fun k_ => some k_ ≠ (.slice (some ad271) t243.length co15 : Value).ownBlock ∧ k_ ≠ gb270) v258 t257) := ⟨h0_⟩
                         replace HO264 : Aside0 (Kd.V (Kd.int .u64) 42 w51 w.heap.size (fun k_ => some k_ ≠ (.slice (some ad271) t243.length co15 : Value).ownBlock ∧ k_ ≠ gb270) v263 t262) := ⟨h1_⟩
                         replace HO268 : Aside0 (Kd.V (Kd.int .u64) 42 w51 w.heap.size (fun k_ => some k_ ≠ (.slice (some ad271) t243.length co15 : Value).ownBlock ∧ k_ ≠ gb270) (.slice Ao45 t266.length co45) t266) := ⟨h2_⟩
                         have HO274 : Aside0 (Kd.V (Kd.int .u64) 42 w51 w.heap.size (fun k_ => some k_ ≠ (.slice (some ad271) t243.length co15 : Value).ownBlock ∧ k_ ≠ gb270) v273 t272) := ⟨h3_⟩
                         replace HO_6 : Aside0 (Kd.R (Kd.int .i64) 2 w51 w.heap.size (fun _ => True) (.slice (some ad271) t243.length co15) t243) := ⟨h4_⟩
                         replace BK270 : Aside0 (w51.heap[gb270]? = some (.cells #[.slice Ao45 t266.length co45, .bool t269] 34 (0, 0))) := ⟨h5_⟩
                         replace HB : Aside0 (Below w.heap.size w w51) := ⟨h6_⟩
                         clear h0_ h1_ h2_ h3_ h4_ h5_ h6_
                         have hHeld : w51.cell? ⟨gb270, 0, none⟩ = some (.slice Ao45 t266.length co45) ∧ w51.cell? ⟨gb270, 1, none⟩ = some (.bool t269) ∧ w51.cell? (ad271.add (x12_3).toNat) = some (.int .i64 (rd t243 x12_3)) := hS_
                         refine norm_ (a' := ?_) ?_ ?_
                         rotate_left
                         ·simp only [putAll, Act.put, List.setIfInBounds_toArray, List.set_cons_zero, List.set_cons_succ]
                          rfl
                         refine two_ (i := 7) (j := 11) (Ni := some 111) (Nj := some 14) #[true, true, true, true, true, true, true, true, false, false, false, false, false] #[true, true, true, true, true, true, true, false, false, false, false, true, false] rfl rfl rfl rfl (two_of HT_.out (by kernel_rfl)) (by decide) (by decide) (fun K hK => ?_) (fun K hK => ?_)
                         ·skip
                          refine goes_ Try.func15 (by kernel_rfl) rfl #[.int .i64 x9_2] (by rfl) rfl rfl (by (try simp only [List.map_toArray, List.map_cons, List.map_nil]); first | done | rfl | (simp only [List.length_drop, List.length_take]; rfl)) ?_
                          with_reducible refine (trivetref01_Of.calls k3 x9_2 t276 t279 _ A30.out).mono ?_
                          rintro e w52 ⟨v277, rfl, ho0, hb⟩
                          have HS2_ := (hb.cell (World.block_lt_of_cell? _ _ (hHeld.2.2))).trans (hHeld.2.2)
                          refine ⟨_, rfl, ?_⟩
                          replace HO259 := kvb HO259 hb
                          replace HO264 := kvb HO264 hb
                          replace HO268 := kvb HO268 hb
                          replace HO274 := kvb HO274 hb
                          have HO278 := ka (Kd.V_lower (Kd.V_mono (ok' := fun k_ => some k_ ≠ (.slice (some ad271) t243.length co15 : Value).ownBlock ∧ k_ ≠ gb270) ho0 (fun k_ hk_ => ⟨(Kd.fresh' (Kd.R_lt (kr HO_6.out)) k_ hk_), (kf BK270 hk_)⟩)) (below_size (kw HB.out)))
                          replace HO_6 := ka (Kd.R_below (kr HO_6.out) hb)
                          replace BK270 := kbb BK270 hb
                          replace HB := ka (below_step (kw HB.out) hb)
                          (try clear hb)
                          (try clear hb2)
                          (try clear hk)
                          (try clear hi)
                          (try clear ho0)
                          refine hK.out _ _ ⟨(blk_cell BK270.out 0).trans rfl, (blk_cell BK270.out 1).trans rfl, HS2_⟩ (fun hHeld => ?_)
                          clear hK K
                          refine norm_ (a' := ?_) ?_ ?_
                          rotate_left
                          ·show Act.put _ (some 111) _ = _
                           simp only [Act.put, List.setIfInBounds_toArray, List.set_cons_zero, List.set_cons_succ, i64_w, i32_w]
                           rfl
                          exact norm_ (by first | (simp only [putAll, Act.put, List.setIfInBounds_toArray, List.set_cons_zero, List.set_cons_succ]; done) | (simp only [putAll, Act.put, List.setIfInBounds_toArray, List.set_cons_zero, List.set_cons_succ]; rfl)) (hJ5_7 (_, _) _ ⟨hHeld, (kv HO259.out), (kv HO264.out), (kv HO268.out), (kv HO274.out), (kv HO278.out), (kr HO_6.out), (kz BK270.out), (kw HB.out)⟩)
                         ·skip
                          refine box_step ?hg (N := 14) ?hd (cs := #[.slice none 0 0, .bool false]) (t := 34) ?hr ?_; (case hd => rfl); (case hg => rfl); (case hr => first | (go_simp; done) | (go_simp; rfl))
                          intro gb292 hg w52 hbox hb
                          have HS2_ := (hb.cell (World.block_lt_of_cell? _ _ (hHeld.2.2))).trans (hHeld.2.2)
                          replace HO_6 := ka (Kd.R_below (kr HO_6.out) hb)
                          replace HO259 := ka (Kd.V_below (Kd.V_elderB (kv HO259.out) gb292 (Nat.le_of_eq hg.symm)) hb)
                          replace HO264 := ka (Kd.V_below (Kd.V_elderB (kv HO264.out) gb292 (Nat.le_of_eq hg.symm)) hb)
                          replace HO268 := ka (Kd.V_below (Kd.V_elderB (kv HO268.out) gb292 (Nat.le_of_eq hg.symm)) hb)
                          replace HO274 := ka (Kd.V_below (Kd.V_elderB (kv HO274.out) gb292 (Nat.le_of_eq hg.symm)) hb)
                          have BK292 := ka (hbox)
                          have GW292 := ka ((by rw [hg]; exact (below_size (kw HB.out)) : w.heap.size ≤ gb292))
                          have GE292 := ka ((by rw [hg]; exact (below_size (kw HB.out)) : w.heap.size ≤ gb292))
                          replace HB := ka (below_step (kw HB.out) hb)
                          have NB270_292 := knb hg BK270
                          have NB292_270 := ka NB270_292.out.symm
                          replace BK270 := kbb BK270 hb
                          clear hb hbox hg
                          refine hK.out _ _ ⟨(blk_cell BK270.out 0).trans rfl, (blk_cell BK270.out 1).trans rfl, HS2_⟩ (fun hHeld => ?_)
                          clear hK K
                          refine norm_ (a' := ?_) ?_ ?_
                          rotate_left
                          ·show Act.put _ (some 14) _ = _
                           simp only [Act.put, List.setIfInBounds_toArray, List.set_cons_zero, List.set_cons_succ, i64_w, i32_w]
                           rfl
                          exact norm_ (by first | (simp only [putAll, Act.put, List.setIfInBounds_toArray, List.set_cons_zero, List.set_cons_succ]; done) | (simp only [putAll, Act.put, List.setIfInBounds_toArray, List.set_cons_zero, List.set_cons_succ]; rfl)) (hJ5_11 (_, gb292) _ ⟨hHeld, (kv (Kd.V_mono HO259.out (fun _ => ra2))), (kv (Kd.V_mono HO264.out (fun _ => ra2))), (kv (Kd.V_mono HO268.out (fun _ => ra2))), (kv (Kd.V_mono HO274.out (fun _ => ra2))), (kr HO_6.out), (kz BK270.out), (kz BK292.out), GW292.out, GE292.out, NB270_292.out, NB292_270.out, (kw HB.out)⟩)
                       ·skip
                        rintro ⟨v273, gb292⟩ w52 ⟨hS_, h0_, h1_, h2_, h3_, h4_, h5_, h6_, h7_, h8_, h9_, h10_, h11_⟩
                        replace HO259 : Aside0 (Kd.V (Kd.int .u64) 42 w52 w.heap.size (fun k_ => some k_ ≠ (.slice (some ad271) t243.length co15 : Value).ownBlock ∧ k_ ≠ gb270 ∧ k_ ≠ gb292) v258 t257) := ⟨h0_⟩
                        replace HO264 : Aside0 (Kd.V (Kd.int .u64) 42 w52 w.heap.size (fun k_ => some k_ ≠ (.slice (some ad271) t243.length co15 : Value).ownBlock ∧ k_ ≠ gb270 ∧ k_ ≠ gb292) v263 t262) := ⟨h1_⟩
                        replace HO268 : Aside0 (Kd.V (Kd.int .u64) 42 w52 w.heap.size (fun k_ => some k_ ≠ (.slice (some ad271) t243.length co15 : Value).ownBlock ∧ k_ ≠ gb270 ∧ k_ ≠ gb292) (.slice Ao45 t266.length co45) t266) := ⟨h2_⟩
                        have HO274 : Aside0 (Kd.V (Kd.int .u64) 42 w52 w.heap.size (fun k_ => some k_ ≠ (.slice (some ad271) t243.length co15 : Value).ownBlock ∧ k_ ≠ gb270 ∧ k_ ≠ gb292) v273 t272) := ⟨h3_⟩
                        replace HO_6 : Aside0 (Kd.R (Kd.int .i64) 2 w52 w.heap.size (fun _ => True) (.slice (some ad271) t243.length co15) t243) := ⟨h4_⟩
                        replace BK270 : Aside0 (w52.heap[gb270]? = some (.cells #[.slice Ao45 t266.length co45, .bool t269] 34 (0, 0))) := ⟨h5_⟩
                        have BK292 : Aside0 (w52.heap[gb292]? = some (.cells #[.slice none 0 0, .bool false] 34 (0, 0))) := ⟨h6_⟩
                        have GW292 : Aside0 (w.heap.size ≤ gb292) := ⟨h7_⟩
                        have GE292 : Aside0 (w.heap.size ≤ gb292) := ⟨h8_⟩
                        have NB270_292 : Aside0 (gb270 ≠ gb292) := ⟨h9_⟩
                        have NB292_270 : Aside0 (gb292 ≠ gb270) := ⟨h10_⟩
                        replace HB : Aside0 (Below w.heap.size w w52) := ⟨h11_⟩
                        clear h0_ h1_ h2_ h3_ h4_ h5_ h6_ h7_ h8_ h9_ h10_ h11_
                        have hHeld : w52.cell? ⟨gb270, 0, none⟩ = some (.slice Ao45 t266.length co45) ∧ w52.cell? ⟨gb270, 1, none⟩ = some (.bool t269) ∧ w52.cell? (ad271.add (x12_3).toNat) = some (.int .i64 (rd t243 x12_3)) := hS_
                        refine norm_ (a' := ?_) ?_ ?_
                        rotate_left
                        ·simp only [putAll, Act.put, List.setIfInBounds_toArray, List.set_cons_zero, List.set_cons_succ]
                         rfl
                        refine one_ (i := 7) (N := some 111) #[true, true, true, true, true, true, true, true, false, false, false, true, false] rfl rfl (one_of HT_.out (by kernel_rfl)) (by decide) (fun K hK => ?_)
                        refine goes_ Try.func15 (by kernel_rfl) rfl #[.int .i64 x9_2] (by rfl) rfl rfl (by (try simp only [List.map_toArray, List.map_cons, List.map_nil]); first | done | rfl | (simp only [List.length_drop, List.length_take]; rfl)) ?_
                        with_reducible refine (trivetref01_Of.calls k3 x9_2 t276 t279 _ A30.out).mono ?_
                        rintro e w53 ⟨v277, rfl, ho0, hb⟩
                        have HS2_ := (hb.cell (World.block_lt_of_cell? _ _ (hHeld.2.2))).trans (hHeld.2.2)
                        refine ⟨_, rfl, ?_⟩
                        replace HO259 := kvb HO259 hb
                        replace HO264 := kvb HO264 hb
                        replace HO268 := kvb HO268 hb
                        replace HO274 := kvb HO274 hb
                        have HO278 := ka (Kd.V_lower (Kd.V_mono (ok' := fun k_ => some k_ ≠ (.slice (some ad271) t243.length co15 : Value).ownBlock ∧ k_ ≠ gb270 ∧ k_ ≠ gb292) ho0 (fun k_ hk_ => ⟨(Kd.fresh' (Kd.R_lt (kr HO_6.out)) k_ hk_), (kf BK270 hk_), (kf BK292 hk_)⟩)) (below_size (kw HB.out)))
                        replace HO_6 := ka (Kd.R_below (kr HO_6.out) hb)
                        replace BK270 := kbb BK270 hb
                        replace BK292 := kbb BK292 hb
                        replace HB := ka (below_step (kw HB.out) hb)
                        (try clear hb)
                        (try clear hb2)
                        (try clear hk)
                        (try clear hi)
                        (try clear ho0)
                        refine hK.out _ _ ⟨(blk_cell BK270.out 0).trans rfl, (blk_cell BK270.out 1).trans rfl, HS2_⟩ (fun hHeld => ?_)
                        clear hK K
                        refine norm_ (a' := ?_) ?_ ?_
                        rotate_left
                        ·show Act.put _ (some 111) _ = _
                         simp only [Act.put, List.setIfInBounds_toArray, List.set_cons_zero, List.set_cons_succ, i64_w, i32_w]
                         rfl
                        exact norm_ (by first | (simp only [putAll, Act.put, List.setIfInBounds_toArray, List.set_cons_zero, List.set_cons_succ]; done) | (simp only [putAll, Act.put, List.setIfInBounds_toArray, List.set_cons_zero, List.set_cons_succ]; rfl)) (hJ5_7_11 (_, _, gb292) _ ⟨hHeld, (kv HO259.out), (kv HO264.out), (kv HO268.out), (kv HO274.out), (kv HO278.out), (kr HO_6.out), (kz BK270.out), (kz BK292.out), GW292.out, GE292.out, NB270_292.out, NB292_270.out, (kw HB.out)⟩)
                      ·skip
                       rintro ⟨v273, v277⟩ w52 ⟨hS_, h0_, h1_, h2_, h3_, h4_, h5_, h6_, h7_⟩
                       replace HO259 : Aside0 (Kd.V (Kd.int .u64) 42 w52 w.heap.size (fun k_ => some k_ ≠ (.slice (some ad271) t243.length co15 : Value).ownBlock ∧ k_ ≠ gb270) v258 t257) := ⟨h0_⟩
                       replace HO264 : Aside0 (Kd.V (Kd.int .u64) 42 w52 w.heap.size (fun k_ => some k_ ≠ (.slice (some ad271) t243.length co15 : Value).ownBlock ∧ k_ ≠ gb270) v263 t262) := ⟨h1_⟩
                       replace HO268 : Aside0 (Kd.V (Kd.int .u64) 42 w52 w.heap.size (fun k_ => some k_ ≠ (.slice (some ad271) t243.length co15 : Value).ownBlock ∧ k_ ≠ gb270) (.slice Ao45 t266.length co45) t266) := ⟨h2_⟩
                       have HO274 : Aside0 (Kd.V (Kd.int .u64) 42 w52 w.heap.size (fun k_ => some k_ ≠ (.slice (some ad271) t243.length co15 : Value).ownBlock ∧ k_ ≠ gb270) v273 t272) := ⟨h3_⟩
                       have HO278 : Aside0 (Kd.V (Kd.int .u64) 42 w52 w.heap.size (fun k_ => some k_ ≠ (.slice (some ad271) t243.length co15 : Value).ownBlock ∧ k_ ≠ gb270) v277 t276) := ⟨h4_⟩
                       replace HO_6 : Aside0 (Kd.R (Kd.int .i64) 2 w52 w.heap.size (fun _ => True) (.slice (some ad271) t243.length co15) t243) := ⟨h5_⟩
                       replace BK270 : Aside0 (w52.heap[gb270]? = some (.cells #[.slice Ao45 t266.length co45, .bool t269] 34 (0, 0))) := ⟨h6_⟩
                       replace HB : Aside0 (Below w.heap.size w w52) := ⟨h7_⟩
                       clear h0_ h1_ h2_ h3_ h4_ h5_ h6_ h7_
                       have hHeld : w52.cell? ⟨gb270, 0, none⟩ = some (.slice Ao45 t266.length co45) ∧ w52.cell? ⟨gb270, 1, none⟩ = some (.bool t269) ∧ w52.cell? (ad271.add (x12_3).toNat) = some (.int .i64 (rd t243 x12_3)) := hS_
                       obtain ⟨Ao53, co53, eo53⟩ := Kd.V_slice HO274.out
                       (first | subst eo53 | (injection eo53 with f1_ f2_ f3_; have f4_ := f1_.symm; have f5_ := f3_.symm; clear f1_ f2_ f3_; subst f4_; subst f5_))
                       obtain ⟨Ao54, co54, eo54⟩ := Kd.V_slice HO278.out
                       (first | subst eo54 | (injection eo54 with f1_ f2_ f3_; have f4_ := f1_.symm; have f5_ := f3_.symm; clear f1_ f2_ f3_; subst f4_; subst f5_))
                       refine norm_ (a' := ?_) ?_ ?_
                       rotate_left
                       ·simp only [putAll, Act.put, List.setIfInBounds_toArray, List.set_cons_zero, List.set_cons_succ]
                        rfl
                       refine two_ (i := 8) (j := 11) (Ni := some 112) (Nj := some 14) #[true, true, true, true, true, true, true, true, true, false, false, false, false] #[true, true, true, true, true, true, true, true, false, false, false, true, false] rfl rfl rfl rfl (two_of HT_.out (by kernel_rfl)) (by decide) (by decide) (fun K hK => ?_) (fun K hK => ?_)
                       ·skip
                        refine goes_ Try.func14 (by kernel_rfl) rfl #[.agg #[.slice Ao53 t272.length co53, .bool t275], .agg #[.slice Ao54 t276.length co54, .bool t279]] (by rfl) rfl rfl (by (try simp only [List.map_toArray, List.map_cons, List.map_nil]); first | done | rfl | (simp only [List.length_drop, List.length_take]; rfl)) ?_
                        with_reducible refine (trivetref01_Mul.calls k3 _ _ t272 t275 _ _ t276 t279 t280 t283 _ ?side1 ?side2 ?side3 ?side4 A31.out).mono ?_
                        (case side1 => repeat (first | exact (Kd.V_reads' HO274.out).2.2 | (with_reducible refine Kd.C_alloc ?_ _) | (with_reducible refine Kd.C_drewN ?_ _) | (with_reducible refine Kd.C_drew ?_)))
                        (case side2 => exact (Kd.V_reads' HO274.out).2.1)
                        (case side3 => repeat (first | exact (Kd.V_reads' HO278.out).2.2 | (with_reducible refine Kd.C_alloc ?_ _) | (with_reducible refine Kd.C_drewN ?_ _) | (with_reducible refine Kd.C_drew ?_)))
                        (case side4 => exact (Kd.V_reads' HO278.out).2.1)
                        rintro e w55 ⟨v281, rfl, ho0, hb⟩
                        have HS2_ := (hb.cell (World.block_lt_of_cell? _ _ (hHeld.2.2))).trans (hHeld.2.2)
                        refine ⟨_, rfl, ?_⟩
                        replace HO259 := kvb HO259 hb
                        replace HO264 := kvb HO264 hb
                        replace HO268 := kvb HO268 hb
                        replace HO274 := kvb HO274 hb
                        replace HO278 := kvb HO278 hb
                        have HO282 := ka (Kd.V_lower (Kd.V_mono (ok' := fun k_ => some k_ ≠ (.slice (some ad271) t243.length co15 : Value).ownBlock ∧ k_ ≠ gb270) ho0 (fun k_ hk_ => ⟨(Kd.fresh' (Kd.R_lt (kr HO_6.out)) k_ hk_), (kf BK270 hk_)⟩)) (below_size (kw HB.out)))
                        replace HO_6 := ka (Kd.R_below (kr HO_6.out) hb)
                        replace BK270 := kbb BK270 hb
                        replace HB := ka (below_step (kw HB.out) hb)
                        (try clear hb)
                        (try clear hb2)
                        (try clear hk)
                        (try clear hi)
                        (try clear ho0)
                        refine hK.out _ _ ⟨(blk_cell BK270.out 0).trans rfl, (blk_cell BK270.out 1).trans rfl, HS2_⟩ (fun hHeld => ?_)
                        clear hK K
                        refine norm_ (a' := ?_) ?_ ?_
                        rotate_left
                        ·show Act.put _ (some 112) _ = _
                         simp only [Act.put, List.setIfInBounds_toArray, List.set_cons_zero, List.set_cons_succ, i64_w, i32_w]
                         rfl
                        exact norm_ (by first | (simp only [putAll, Act.put, List.setIfInBounds_toArray, List.set_cons_zero, List.set_cons_succ]; done) | (simp only [putAll, Act.put, List.setIfInBounds_toArray, List.set_cons_zero, List.set_cons_succ]; rfl)) (hJ5_7_8 (.slice Ao53 t272.length co53, .slice Ao54 t276.length co54, _) _ ⟨hHeld, (kv HO259.out), (kv HO264.out), (kv HO268.out), (kv HO274.out), (kv HO278.out), (kv HO282.out), (kr HO_6.out), (kz BK270.out), (kw HB.out)⟩)
                       ·skip
                        refine box_step ?hg (N := 14) ?hd (cs := #[.slice none 0 0, .bool false]) (t := 34) ?hr ?_; (case hd => rfl); (case hg => rfl); (case hr => first | (go_simp; done) | (go_simp; rfl))
                        intro gb292 hg w53 hbox hb
                        have HS2_ := (hb.cell (World.block_lt_of_cell? _ _ (hHeld.2.2))).trans (hHeld.2.2)
                        replace HO_6 := ka (Kd.R_below (kr HO_6.out) hb)
                        replace HO259 := ka (Kd.V_below (Kd.V_elderB (kv HO259.out) gb292 (Nat.le_of_eq hg.symm)) hb)
                        replace HO264 := ka (Kd.V_below (Kd.V_elderB (kv HO264.out) gb292 (Nat.le_of_eq hg.symm)) hb)
                        replace HO268 := ka (Kd.V_below (Kd.V_elderB (kv HO268.out) gb292 (Nat.le_of_eq hg.symm)) hb)
                        replace HO274 := ka (Kd.V_below (Kd.V_elderB (kv HO274.out) gb292 (Nat.le_of_eq hg.symm)) hb)
                        replace HO278 := ka (Kd.V_below (Kd.V_elderB (kv HO278.out) gb292 (Nat.le_of_eq hg.symm)) hb)
                        have BK292 := ka (hbox)
                        have GW292 := ka ((by rw [hg]; exact (below_size (kw HB.out)) : w.heap.size ≤ gb292))
                        have GE292 := ka ((by rw [hg]; exact (below_size (kw HB.out)) : w.heap.size ≤ gb292))
                        replace HB := ka (below_step (kw HB.out) hb)
                        have NB270_292 := knb hg BK270
                        have NB292_270 := ka NB270_292.out.symm
                        replace BK270 := kbb BK270 hb
                        clear hb hbox hg
                        refine hK.out _ _ ⟨(blk_cell BK270.out 0).trans rfl, (blk_cell BK270.out 1).trans rfl, HS2_⟩ (fun hHeld => ?_)
                        clear hK K
                        refine norm_ (a' := ?_) ?_ ?_
                        rotate_left
                        ·show Act.put _ (some 14) _ = _
                         simp only [Act.put, List.setIfInBounds_toArray, List.set_cons_zero, List.set_cons_succ, i64_w, i32_w]
                         rfl
                        exact norm_ (by first | (simp only [putAll, Act.put, List.setIfInBounds_toArray, List.set_cons_zero, List.set_cons_succ]; done) | (simp only [putAll, Act.put, List.setIfInBounds_toArray, List.set_cons_zero, List.set_cons_succ]; rfl)) (hJ5_7_11 (_, _, gb292) _ ⟨hHeld, (kv (Kd.V_mono HO259.out (fun _ => ra2))), (kv (Kd.V_mono HO264.out (fun _ => ra2))), (kv (Kd.V_mono HO268.out (fun _ => ra2))), (kv (Kd.V_mono HO274.out (fun _ => ra2))), (kv (Kd.V_mono HO278.out (fun _ => ra2))), (kr HO_6.out), (kz BK270.out), (kz BK292.out), GW292.out, GE292.out, NB270_292.out, NB292_270.out, (kw HB.out)⟩)
                     ·skip
                      rintro ⟨v273, v277, gb292⟩ w53 ⟨hS_, h0_, h1_, h2_, h3_, h4_, h5_, h6_, h7_, h8_, h9_, h10_, h11_, h12_⟩
                      replace HO259 : Aside0 (Kd.V (Kd.int .u64) 42 w53 w.heap.size (fun k_ => some k_ ≠ (.slice (some ad271) t243.length co15 : Value).ownBlock ∧ k_ ≠ gb270 ∧ k_ ≠ gb292) v258 t257) := ⟨h0_⟩
                      replace HO264 : Aside0 (Kd.V (Kd.int .u64) 42 w53 w.heap.size (fun k_ => some k_ ≠ (.slice (some ad271) t243.length co15 : Value).ownBlock ∧ k_ ≠ gb270 ∧ k_ ≠ gb292) v263 t262) := ⟨h1_⟩
                      replace HO268 : Aside0 (Kd.V (Kd.int .u64) 42 w53 w.heap.size (fun k_ => some k_ ≠ (.slice (some ad271) t243.length co15 : Value).ownBlock ∧ k_ ≠ gb270 ∧ k_ ≠ gb292) (.slice Ao45 t266.length co45) t266) := ⟨h2_⟩
                      have HO274 : Aside0 (Kd.V (Kd.int .u64) 42 w53 w.heap.size (fun k_ => some k_ ≠ (.slice (some ad271) t243.length co15 : Value).ownBlock ∧ k_ ≠ gb270 ∧ k_ ≠ gb292) v273 t272) := ⟨h3_⟩
                      have HO278 : Aside0 (Kd.V (Kd.int .u64) 42 w53 w.heap.size (fun k_ => some k_ ≠ (.slice (some ad271) t243.length co15 : Value).ownBlock ∧ k_ ≠ gb270 ∧ k_ ≠ gb292) v277 t276) := ⟨h4_⟩
                      replace HO_6 : Aside0 (Kd.R (Kd.int .i64) 2 w53 w.heap.size (fun _ => True) (.slice (some ad271) t243.length co15) t243) := ⟨h5_⟩
                      replace BK270 : Aside0 (w53.heap[gb270]? = some (.cells #[.slice Ao45 t266.length co45, .bool t269] 34 (0, 0))) := ⟨h6_⟩
                      have BK292 : Aside0 (w53.heap[gb292]? = some (.cells #[.slice none 0 0, .bool false] 34 (0, 0))) := ⟨h7_⟩
                      have GW292 : Aside0 (w.heap.size ≤ gb292) := ⟨h8_⟩
                      have GE292 : Aside0 (w.heap.size ≤ gb292) := ⟨h9_⟩
                      have NB270_292 : Aside0 (gb270 ≠ gb292) := ⟨h10_⟩
                      have NB292_270 : Aside0 (gb292 ≠ gb270) := ⟨h11_⟩
                      replace HB : Aside0 (Below w.heap.size w w53) := ⟨h12_⟩
                      clear h0_ h1_ h2_ h3_ h4_ h5_ h6_ h7_ h8_ h9_ h10_ h11_ h12_
                      have hHeld : w53.cell? ⟨gb270, 0, none⟩ = some (.slice Ao45 t266.length co45) ∧ w53.cell? ⟨gb270, 1, none⟩ = some (.bool t269) ∧ w53.cell? (ad271.add (x12_3).toNat) = some (.int .i64 (rd t243 x12_3)) := hS_
                      obtain ⟨Ao54, co54, eo54⟩ := Kd.V_slice HO274.out
                      (first | subst eo54 | (injection eo54 with f1_ f2_ f3_; have f4_ := f1_.symm; have f5_ := f3_.symm; clear f1_ f2_ f3_; subst f4_; subst f5_))
                      obtain ⟨Ao55, co55, eo55⟩ := Kd.V_slice HO278.out
                      (first | subst eo55 | (injection eo55 with f1_ f2_ f3_; have f4_ := f1_.symm; have f5_ := f3_.symm; clear f1_ f2_ f3_; subst f4_; subst f5_))
                      refine norm_ (a' := ?_) ?_ ?_
                      rotate_left
                      ·simp only [putAll, Act.put, List.setIfInBounds_toArray, List.set_cons_zero, List.set_cons_succ]
                       rfl
                      refine one_ (i := 8) (N := some 112) #[true, true, true, true, true, true, true, true, true, false, false, true, false] rfl rfl (one_of HT_.out (by kernel_rfl)) (by decide) (fun K hK => ?_)
                      refine goes_ Try.func14 (by kernel_rfl) rfl #[.agg #[.slice Ao54 t272.length co54, .bool t275], .agg #[.slice Ao55 t276.length co55, .bool t279]] (by rfl) rfl rfl (by (try simp only [List.map_toArray, List.map_cons, List.map_nil]); first | done | rfl | (simp only [List.length_drop, List.length_take]; rfl)) ?_
                      with_reducible refine (trivetref01_Mul.calls k3 _ _ t272 t275 _ _ t276 t279 t280 t283 _ ?side1 ?side2 ?side3 ?side4 A31.out).mono ?_
                      (case side1 => repeat (first | exact (Kd.V_reads' HO274.out).2.2 | (with_reducible refine Kd.C_alloc ?_ _) | (with_reducible refine Kd.C_drewN ?_ _) | (with_reducible refine Kd.C_drew ?_)))
                      (case side2 => exact (Kd.V_reads' HO274.out).2.1)
                      (case side3 => repeat (first | exact (Kd.V_reads' HO278.out).2.2 | (with_reducible refine Kd.C_alloc ?_ _) | (with_reducible refine Kd.C_drewN ?_ _) | (with_reducible refine Kd.C_drew ?_)))
                      (case side4 => exact (Kd.V_reads' HO278.out).2.1)
                      rintro e w56 ⟨v281, rfl, ho0, hb⟩
                      have HS2_ := (hb.cell (World.block_lt_of_cell? _ _ (hHeld.2.2))).trans (hHeld.2.2)
                      refine ⟨_, rfl, ?_⟩
                      replace HO259 := kvb HO259 hb
                      replace HO264 := kvb HO264 hb
                      replace HO268 := kvb HO268 hb
                      replace HO274 := kvb HO274 hb
                      replace HO278 := kvb HO278 hb
                      have HO282 := ka (Kd.V_lower (Kd.V_mono (ok' := fun k_ => some k_ ≠ (.slice (some ad271) t243.length co15 : Value).ownBlock ∧ k_ ≠ gb270 ∧ k_ ≠ gb292) ho0 (fun k_ hk_ => ⟨(Kd.fresh' (Kd.R_lt (kr HO_6.out)) k_ hk_), (kf BK270 hk_), (kf BK292 hk_)⟩)) (below_size (kw HB.out)))
                      replace HO_6 := ka (Kd.R_below (kr HO_6.out) hb)
                      replace BK270 := kbb BK270 hb
                      replace BK292 := kbb BK292 hb
                      replace HB := ka (below_step (kw HB.out) hb)
                      (try clear hb)
                      (try clear hb2)
                      (try clear hk)
                      (try clear hi)
                      (try clear ho0)
                      refine hK.out _ _ ⟨(blk_cell BK270.out 0).trans rfl, (blk_cell BK270.out 1).trans rfl, HS2_⟩ (fun hHeld => ?_)
                      clear hK K
                      refine norm_ (a' := ?_) ?_ ?_
                      rotate_left
                      ·show Act.put _ (some 112) _ = _
                       simp only [Act.put, List.setIfInBounds_toArray, List.set_cons_zero, List.set_cons_succ, i64_w, i32_w]
                       rfl
                      exact norm_ (by first | (simp only [putAll, Act.put, List.setIfInBounds_toArray, List.set_cons_zero, List.set_cons_succ]; done) | (simp only [putAll, Act.put, List.setIfInBounds_toArray, List.set_cons_zero, List.set_cons_succ]; rfl)) (hJ5_7_8_11 (.slice Ao54 t272.length co54, .slice Ao55 t276.length co55, _, gb292) _ ⟨hHeld, (kv HO259.out), (kv HO264.out), (kv HO268.out), (kv HO274.out), (kv HO278.out), (kv HO282.out), (kr HO_6.out), (kz BK270.out), (kz BK292.out), GW292.out, GE292.out, NB270_292.out, NB292_270.out, (kw HB.out)⟩)
                    ·skip
                     rintro ⟨v273, v277, v281⟩ w55 ⟨hS_, h0_, h1_, h2_, h3_, h4_, h5_, h6_, h7_, h8_⟩
                     replace HO259 : Aside0 (Kd.V (Kd.int .u64) 42 w55 w.heap.size (fun k_ => some k_ ≠ (.slice (some ad271) t243.length co15 : Value).ownBlock ∧ k_ ≠ gb270) v258 t257) := ⟨h0_⟩
                     replace HO264 : Aside0 (Kd.V (Kd.int .u64) 42 w55 w.heap.size (fun k_ => some k_ ≠ (.slice (some ad271) t243.length co15 : Value).ownBlock ∧ k_ ≠ gb270) v263 t262) := ⟨h1_⟩
                     replace HO268 : Aside0 (Kd.V (Kd.int .u64) 42 w55 w.heap.size (fun k_ => some k_ ≠ (.slice (some ad271) t243.length co15 : Value).ownBlock ∧ k_ ≠ gb270) (.slice Ao45 t266.length co45) t266) := ⟨h2_⟩
                     have HO274 : Aside0 (Kd.V (Kd.int .u64) 42 w55 w.heap.size (fun k_ => some k_ ≠ (.slice (some ad271) t243.length co15 : Value).ownBlock ∧ k_ ≠ gb270) v273 t272) := ⟨h3_⟩
                     have HO278 : Aside0 (Kd.V (Kd.int .u64) 42 w55 w.heap.size (fun k_ => some k_ ≠ (.slice (some ad271) t243.length co15 : Value).ownBlock ∧ k_ ≠ gb270) v277 t276) := ⟨h4_⟩
                     have HO282 : Aside0 (Kd.V (Kd.int .u64) 42 w55 w.heap.size (fun k_ => some k_ ≠ (.slice (some ad271) t243.length co15 : Value).ownBlock ∧ k_ ≠ gb270) v281 t280) := ⟨h5_⟩
                     replace HO_6 : Aside0 (Kd.R (Kd.int .i64) 2 w55 w.heap.size (fun _ => True) (.slice (some ad271) t243.length co15) t243) := ⟨h6_⟩
                     replace BK270 : Aside0 (w55.heap[gb270]? = some (.cells #[.slice Ao45 t266.length co45, .bool t269] 34 (0, 0))) := ⟨h7_⟩
                     replace HB : Aside0 (Below w.heap.size w w55) := ⟨h8_⟩
                     clear h0_ h1_ h2_ h3_ h4_ h5_ h6_ h7_ h8_
                     have hHeld : w55.cell? ⟨gb270, 0, none⟩ = some (.slice Ao45 t266.length co45) ∧ w55.cell? ⟨gb270, 1, none⟩ = some (.bool t269) ∧ w55.cell? (ad271.add (x12_3).toNat) = some (.int .i64 (rd t243 x12_3)) := hS_
                     obtain ⟨Ao56, co56, eo56⟩ := Kd.V_slice HO282.out
                     (first | subst eo56 | (injection eo56 with f1_ f2_ f3_; have f4_ := f1_.symm; have f5_ := f3_.symm; clear f1_ f2_ f3_; subst f4_; subst f5_))
                     refine norm_ (a' := ?_) ?_ ?_
                     rotate_left
                     ·simp only [putAll, Act.put, List.setIfInBounds_toArray, List.set_cons_zero, List.set_cons_succ]
                      rfl
                     refine two_ (i := 9) (j := 11) (Ni := some 113) (Nj := some 14) #[true, true, true, true, true, true, true, true, true, true, false, false, false] #[true, true, true, true, true, true, true, true, true, false, false, true, false] rfl rfl rfl rfl (two_of HT_.out (by kernel_rfl)) (by decide) (by decide) (fun K hK => ?_) (fun K hK => ?_)
                     ·skip
                      refine goes_ Try.func17 (by kernel_rfl) rfl #[.agg #[.slice Ao56 t280.length co56, .bool t283]] (by rfl) rfl rfl (by (try simp only [List.map_toArray, List.map_cons, List.map_nil]); first | done | rfl | (simp only [List.length_drop, List.length_take]; rfl)) ?_
                      with_reducible refine (trivetref01_Neg.calls k3 (fun k_ => (some k_ ≠ (.slice (some ad271) t243.length co15 : Value).ownBlock ∧ k_ ≠ gb270)) _ _ t280 t283 t284 t287 _ ?side1 A32.out).mono ?_
                      (case side1 => exact HO282.out)
                      rintro e w57 ⟨v285, rfl, ho0, hb⟩
                      have HS2_ := (hb.cell (World.block_lt_of_cell? _ _ (hHeld.2.2))).trans (hHeld.2.2)
                      refine ⟨_, rfl, ?_⟩
                      replace HO259 := kvb HO259 hb
                      replace HO264 := kvb HO264 hb
                      replace HO268 := kvb HO268 hb
                      replace HO274 := kvb HO274 hb
                      replace HO278 := kvb HO278 hb
                      replace HO282 := kvb HO282 hb
                      have HO286 := ka (Kd.V_lower (Kd.V_mono (ok' := fun k_ => some k_ ≠ (.slice (some ad271) t243.length co15 : Value).ownBlock ∧ k_ ≠ gb270) ho0 (fun k_ hk_ => ⟨Or.elim hk_ (fun hs_ => hs_.1) (fun hn_ => (Kd.fresh' (Kd.R_lt (kr HO_6.out)) k_ hn_)), Or.elim hk_ (fun hs_ => hs_.2) (fun hn_ => (kf BK270 hn_))⟩)) (below_size (kw HB.out)))
                      replace HO_6 := ka (Kd.R_below (kr HO_6.out) hb)
                      replace BK270 := kbb BK270 hb
                      replace HB := ka (below_step (kw HB.out) hb)
                      (try clear hb)
                      (try clear hb2)
                      (try clear hk)
                      (try clear hi)
                      (try clear ho0)
                      refine hK.out _ _ ⟨(blk_cell BK270.out 0).trans rfl, (blk_cell BK270.out 1).trans rfl, HS2_⟩ (fun hHeld => ?_)
                      clear hK K
                      refine norm_ (a' := ?_) ?_ ?_
                      rotate_left
                      ·show Act.put _ (some 113) _ = _
                       simp only [Act.put, List.setIfInBounds_toArray, List.set_cons_zero, List.set_cons_succ, i64_w, i32_w]
                       rfl
                      exact norm_ (by first | (simp only [putAll, Act.put, List.setIfInBounds_toArray, List.set_cons_zero, List.set_cons_succ]; done) | (simp only [putAll, Act.put, List.setIfInBounds_toArray, List.set_cons_zero, List.set_cons_succ]; rfl)) (hJ5_7_8_9 (_, _, .slice Ao56 t280.length co56, _) _ ⟨hHeld, (kv HO259.out), (kv HO264.out), (kv HO268.out), (kv HO274.out), (kv HO278.out), (kv HO282.out), (kv HO286.out), (kr HO_6.out), (kz BK270.out), (kw HB.out)⟩)
                     ·skip
                      refine box_step ?hg (N := 14) ?hd (cs := #[.slice none 0 0, .bool false]) (t := 34) ?hr ?_; (case hd => rfl); (case hg => rfl); (case hr => first | (go_simp; done) | (go_simp; rfl))
                      intro gb292 hg w56 hbox hb
                      have HS2_ := (hb.cell (World.block_lt_of_cell? _ _ (hHeld.2.2))).trans (hHeld.2.2)
                      replace HO_6 := ka (Kd.R_below (kr HO_6.out) hb)
                      replace HO259 := ka (Kd.V_below (Kd.V_elderB (kv HO259.out) gb292 (Nat.le_of_eq hg.symm)) hb)
                      replace HO264 := ka (Kd.V_below (Kd.V_elderB (kv HO264.out) gb292 (Nat.le_of_eq hg.symm)) hb)
                      replace HO268 := ka (Kd.V_below (Kd.V_elderB (kv HO268.out) gb292 (Nat.le_of_eq hg.symm)) hb)
                      replace HO274 := ka (Kd.V_below (Kd.V_elderB (kv HO274.out) gb292 (Nat.le_of_eq hg.symm)) hb)
                      replace HO278 := ka (Kd.V_below (Kd.V_elderB (kv HO278.out) gb292 (Nat.le_of_eq hg.symm)) hb)
                      replace HO282 := ka (Kd.V_below (Kd.V_elderB (kv HO282.out) gb292 (Nat.le_of_eq hg.symm)) hb)
                      have BK292 := ka (hbox)
                      have GW292 := ka ((by rw [hg]; exact (below_size (kw HB.out)) : w.heap.size ≤ gb292))
                      have GE292 := ka ((by rw [hg]; exact (below_size (kw HB.out)) : w.heap.size ≤ gb292))
                      replace HB := ka (below_step (kw HB.out) hb)
                      have NB270_292 := knb hg BK270
                      have NB292_270 := ka NB270_292.out.symm
                      replace BK270 := kbb BK270 hb
                      clear hb hbox hg
                      refine hK.out _ _ ⟨(blk_cell BK270.out 0).trans rfl, (blk_cell BK270.out 1).trans rfl, HS2_⟩ (fun hHeld => ?_)
                      clear hK K
                      refine norm_ (a' := ?_) ?_ ?_
                      rotate_left
                      ·show Act.put _ (some 14) _ = _
                       simp only [Act.put, List.setIfInBounds_toArray, List.set_cons_zero, List.set_cons_succ, i64_w, i32_w]
                       rfl
                      exact norm_ (by first | (simp only [putAll, Act.put, List.setIfInBounds_toArray, List.set_cons_zero, List.set_cons_succ]; done) | (simp only [putAll, Act.put, List.setIfInBounds_toArray, List.set_cons_zero, List.set_cons_succ]; rfl)) (hJ5_7_8_11 (_, _, _, gb292) _ ⟨hHeld, (kv (Kd.V_mono HO259.out (fun _ => ra2))), (kv (Kd.V_mono HO264.out (fun _ => ra2))), (kv (Kd.V_mono HO268.out (fun _ => ra2))), (kv (Kd.V_mono HO274.out (fun _ => ra2))), (kv (Kd.V_mono HO278.out (fun _ => ra2))), (kv (Kd.V_mono HO282.out (fun _ => ra2))), (kr HO_6.out), (kz BK270.out), (kz BK292.out), GW292.out, GE292.out, NB270_292.out, NB292_270.out, (kw HB.out)⟩)
                   ·skip
                    rintro ⟨v273, v277, v281, gb292⟩ w56 ⟨hS_, h0_, h1_, h2_, h3_, h4_, h5_, h6_, h7_, h8_, h9_, h10_, h11_, h12_, h13_⟩
                    replace HO259 : Aside0 (Kd.V (Kd.int .u64) 42 w56 w.heap.size (fun k_ => some k_ ≠ (.slice (some ad271) t243.length co15 : Value).ownBlock ∧ k_ ≠ gb270 ∧ k_ ≠ gb292) v258 t257) := ⟨h0_⟩
                    replace HO264 : Aside0 (Kd.V (Kd.int .u64) 42 w56 w.heap.size (fun k_ => some k_ ≠ (.slice (some ad271) t243.length co15 : Value).ownBlock ∧ k_ ≠ gb270 ∧ k_ ≠ gb292) v263 t262) := ⟨h1_⟩
                    replace HO268 : Aside0 (Kd.V (Kd.int .u64) 42 w56 w.heap.size (fun k_ => some k_ ≠ (.slice (some ad271) t243.length co15 : Value).ownBlock ∧ k_ ≠ gb270 ∧ k_ ≠ gb292) (.slice Ao45 t266.length co45) t266) := ⟨h2_⟩
                    have HO274 : Aside0 (Kd.V (Kd.int .u64) 42 w56 w.heap.size (fun k_ => some k_ ≠ (.slice (some ad271) t243.length co15 : Value).ownBlock ∧ k_ ≠ gb270 ∧ k_ ≠ gb292) v273 t272) := ⟨h3_⟩
                    have HO278 : Aside0 (Kd.V (Kd.int .u64) 42 w56 w.heap.size (fun k_ => some k_ ≠ (.slice (some ad271) t243.length co15 : Value).ownBlock ∧ k_ ≠ gb270 ∧ k_ ≠ gb292) v277 t276) := ⟨h4_⟩
                    have HO282 : Aside0 (Kd.V (Kd.int .u64) 42 w56 w.heap.size (fun k_ => some k_ ≠ (.slice (some ad271) t243.length co15 : Value).ownBlock ∧ k_ ≠ gb270 ∧ k_ ≠ gb292) v281 t280) := ⟨h5_⟩
                    replace HO_6 : Aside0 (Kd.R (Kd.int .i64) 2 w56 w.heap.size (fun _ => True) (.slice (some ad271) t243.length co15) t243) := ⟨h6_⟩
                    replace BK270 : Aside0 (w56.heap[gb270]? = some (.cells #[.slice Ao45 t266.length co45, .bool t269] 34 (0, 0))) := ⟨h7_⟩
                    have BK292 : Aside0 (w56.heap[gb292]? = some (.cells #[.slice none 0 0, .bool false] 34 (0, 0))) := ⟨h8_⟩
                    have GW292 : Aside0 (w.heap.size ≤ gb292) := ⟨h9_⟩
                    have GE292 : Aside0 (w.heap.size ≤ gb292) := ⟨h10_⟩
                    have NB270_292 : Aside0 (gb270 ≠ gb292) := ⟨h11_⟩
                    have NB292_270 : Aside0 (gb292 ≠ gb270) := ⟨h12_⟩
                    replace HB : Aside0 (Below w.heap.size w w56) := ⟨h13_⟩
                    clear h0_ h1_ h2_ h3_ h4_ h5_ h6_ h7_ h8_ h9_ h10_ h11_ h12_ h13_
                    have hHeld : w56.cell? ⟨gb270, 0, none⟩ = some (.slice Ao45 t266.length co45) ∧ w56.cell? ⟨gb270, 1, none⟩ = some (.bool t269) ∧ w56.cell? (ad271.add (x12_3).toNat) = some (.int .i64 (rd t243 x12_3)) := hS_
                    obtain ⟨Ao57, co57, eo57⟩ := Kd.V_slice HO282.out
                    (first | subst eo57 | (injection eo57 with f1_ f2_ f3_; have f4_ := f1_.symm; have f5_ := f3_.symm; clear f1_ f2_ f3_; subst f4_; subst f5_))
                    refine norm_ (a' := ?_) ?_ ?_
                    rotate_left
                    ·simp only [putAll, Act.put, List.setIfInBounds_toArray, List.set_cons_zero, List.set_cons_succ]
                     rfl
                    refine one_ (i := 9) (N := some 113) #[true, true, true, true, true, true, true, true, true, true, false, true, false] rfl rfl (one_of HT_.out (by kernel_rfl)) (by decide) (fun K hK => ?_)
                    refine goes_ Try.func17 (by kernel_rfl) rfl #[.agg #[.slice Ao57 t280.length co57, .bool t283]] (by rfl) rfl rfl (by (try simp only [List.map_toArray, List.map_cons, List.map_nil]); first | done | rfl | (simp only [List.length_drop, List.length_take]; rfl)) ?_
                    with_reducible refine (trivetref01_Neg.calls k3 (fun k_ => (some k_ ≠ (.slice (some ad271) t243.length co15 : Value).ownBlock ∧ (k_ ≠ gb270 ∧ k_ ≠ gb292))) _ _ t280 t283 t284 t287 _ ?side1 A32.out).mono ?_
                    (case side1 => exact HO282.out)
                    rintro e w58 ⟨v285, rfl, ho0, hb⟩
                    have HS2_ := (hb.cell (World.block_lt_of_cell? _ _ (hHeld.2.2))).trans (hHeld.2.2)
                    refine ⟨_, rfl, ?_⟩
                    replace HO259 := kvb HO259 hb
                    replace HO264 := kvb HO264 hb
                    replace HO268 := kvb HO268 hb
                    replace HO274 := kvb HO274 hb
                    replace HO278 := kvb HO278 hb
                    replace HO282 := kvb HO282 hb
                    have HO286 := ka (Kd.V_lower (Kd.V_mono (ok' := fun k_ => some k_ ≠ (.slice (some ad271) t243.length co15 : Value).ownBlock ∧ k_ ≠ gb270 ∧ k_ ≠ gb292) ho0 (fun k_ hk_ => ⟨Or.elim hk_ (fun hs_ => hs_.1) (fun hn_ => (Kd.fresh' (Kd.R_lt (kr HO_6.out)) k_ hn_)), Or.elim hk_ (fun hs_ => hs_.2.1) (fun hn_ => (kf BK270 hn_)), Or.elim hk_ (fun hs_ => hs_.2.2) (fun hn_ => (kf BK292 hn_))⟩)) (below_size (kw HB.out)))
                    replace HO_6 := ka (Kd.R_below (kr HO_6.out) hb)
                    replace BK270 := kbb BK270 hb
                    replace BK292 := kbb BK292 hb
                    replace HB := ka (below_step (kw HB.out) hb)
                    (try clear hb)
                    (try clear hb2)
                    (try clear hk)
                    (try clear hi)
                    (try clear ho0)
                    refine hK.out _ _ ⟨(blk_cell BK270.out 0).trans rfl, (blk_cell BK270.out 1).trans rfl, HS2_⟩ (fun hHeld => ?_)
                    clear hK K
                    refine norm_ (a' := ?_) ?_ ?_
                    rotate_left
                    ·show Act.put _ (some 113) _ = _
                     simp only [Act.put, List.setIfInBounds_toArray, List.set_cons_zero, List.set_cons_succ, i64_w, i32_w]
                     rfl
                    exact norm_ (by first | (simp only [putAll, Act.put, List.setIfInBounds_toArray, List.set_cons_zero, List.set_cons_succ]; done) | (simp only [putAll, Act.put, List.setIfInBounds_toArray, List.set_cons_zero, List.set_cons_succ]; rfl)) (hJ5_7_8_9_11 (_, _, .slice Ao57 t280.length co57, _, gb292) _ ⟨hHeld, (kv HO259.out), (kv HO264.out), (kv HO268.out), (kv HO274.out), (kv HO278.out), (kv HO282.out), (kv HO286.out), (kr HO_6.out), (kz BK270.out), (kz BK292.out), GW292.out, GE292.out, NB270_292.out, NB292_270.out, (kw HB.out)⟩)
                  ·skip
                   rintro ⟨v273, v277, v281, v285⟩ w57 ⟨hS_, h0_, h1_, h2_, h3_, h4_, h5_, h6_, h7_, h8_, h9_⟩
                   replace HO259 : Aside0 (Kd.V (Kd.int .u64) 42 w57 w.heap.size (fun k_ => some k_ ≠ (.slice (some ad271) t243.length co15 : Value).ownBlock ∧ k_ ≠ gb270) v258 t257) := ⟨h0_⟩
                   replace HO264 : Aside0 (Kd.V (Kd.int .u64) 42 w57 w.heap.size (fun k_ => some k_ ≠ (.slice (some ad271) t243.length co15 : Value).ownBlock ∧ k_ ≠ gb270) v263 t262) := ⟨h1_⟩
                   replace HO268 : Aside0 (Kd.V (Kd.int .u64) 42 w57 w.heap.size (fun k_ => some k_ ≠ (.slice (some ad271) t243.length co15 : Value).ownBlock ∧ k_ ≠ gb270) (.slice Ao45 t266.length co45) t266) := ⟨h2_⟩
                   have HO274 : Aside0 (Kd.V (Kd.int .u64) 42 w57 w.heap.size (fun k_ => some k_ ≠ (.slice (some ad271) t243.length co15 : Value).ownBlock ∧ k_ ≠ gb270) v273 t272) := ⟨h3_⟩
                   have HO278 : Aside0 (Kd.V (Kd.int .u64) 42 w57 w.heap.size (fun k_ => some k_ ≠ (.slice (some ad271) t243.length co15 : Value).ownBlock ∧ k_ ≠ gb270) v277 t276) := ⟨h4_⟩
                   have HO282 : Aside0 (Kd.V (Kd.int .u64) 42 w57 w.heap.size (fun k_ => some k_ ≠ (.slice (some ad271) t243.length co15 : Value).ownBlock ∧ k_ ≠ gb270) v281 t280) := ⟨h5_⟩
                   have HO286 : Aside0 (Kd.V (Kd.int .u64) 42 w57 w.heap.size (fun k_ => some k_ ≠ (.slice (some ad271) t243.length co15 : Value).ownBlock ∧ k_ ≠ gb270) v285 t284) := ⟨h6_⟩
                   replace HO_6 : Aside0 (Kd.R (Kd.int .i64) 2 w57 w.heap.size (fun _ => True) (.slice (some ad271) t243.length co15) t243) := ⟨h7_⟩
                   replace BK270 : Aside0 (w57.heap[gb270]? = some (.cells #[.slice Ao45 t266.length co45, .bool t269] 34 (0, 0))) := ⟨h8_⟩
                   replace HB : Aside0 (Below w.heap.size w w57) := ⟨h9_⟩
                   clear h0_ h1_ h2_ h3_ h4_ h5_ h6_ h7_ h8_ h9_
                   have hHeld : w57.cell? ⟨gb270, 0, none⟩ = some (.slice Ao45 t266.length co45) ∧ w57.cell? ⟨gb270, 1, none⟩ = some (.bool t269) ∧ w57.cell? (ad271.add (x12_3).toNat) = some (.int .i64 (rd t243 x12_3)) := hS_
                   obtain ⟨Ao58, co58, eo58⟩ := Kd.V_slice HO286.out
                   (first | subst eo58 | (injection eo58 with f1_ f2_ f3_; have f4_ := f1_.symm; have f5_ := f3_.symm; clear f1_ f2_ f3_; subst f4_; subst f5_))
                   refine norm_ (a' := ?_) ?_ ?_
                   rotate_left
                   ·simp only [putAll, Act.put, List.setIfInBounds_toArray, List.set_cons_zero, List.set_cons_succ]
                    rfl
                   refine two_ (i := 10) (j := 11) (Ni := some 114) (Nj := some 14) #[true, true, true, true, true, true, true, true, true, true, true, false, false] #[true, true, true, true, true, true, true, true, true, true, false, true, false] rfl rfl rfl rfl (two_of HT_.out (by kernel_rfl)) (by decide) (by decide) (fun K hK => ?_) (fun K hK => ?_)
                   ·skip
                    refine goes_ Try.func16 (by kernel_rfl) rfl #[.agg #[.slice Ao45 t266.length co45, .bool t269], .agg #[.slice Ao58 t284.length co58, .bool t287]] (by rfl) rfl rfl (by (try simp only [List.map_toArray, List.map_cons, List.map_nil]); first | done | rfl | (simp only [List.length_drop, List.length_take]; rfl)) ?_
                    with_reducible refine (trivetref01_Add.calls k3 _ _ t266 t269 _ _ t284 t287 t288 t291 _ ?side1 ?side2 ?side3 ?side4 A33.out).mono ?_
                    (case side1 => repeat (first | exact (Kd.V_reads' HO268.out).2.2 | (with_reducible refine Kd.C_alloc ?_ _) | (with_reducible refine Kd.C_drewN ?_ _) | (with_reducible refine Kd.C_drew ?_)))
                    (case side2 => exact (Kd.V_reads' HO268.out).2.1)
                    (case side3 => repeat (first | exact (Kd.V_reads' HO286.out).2.2 | (with_reducible refine Kd.C_alloc ?_ _) | (with_reducible refine Kd.C_drewN ?_ _) | (with_reducible refine Kd.C_drew ?_)))
                    (case side4 => exact (Kd.V_reads' HO286.out).2.1)
                    rintro e w59 ⟨v289, rfl, ho0, hb⟩
                    have HS2_ := (hb.cell (World.block_lt_of_cell? _ _ (hHeld.2.2))).trans (hHeld.2.2)
                    refine ⟨_, rfl, ?_⟩
                    replace HO259 := kvb HO259 hb
                    replace HO264 := kvb HO264 hb
                    replace HO268 := kvb HO268 hb
                    replace HO274 := kvb HO274 hb
                    replace HO278 := kvb HO278 hb
                    replace HO282 := kvb HO282 hb
                    replace HO286 := kvb HO286 hb
                    have HO290 := ka (Kd.V_lower (Kd.V_mono (ok' := fun k_ => some k_ ≠ (.slice (some ad271) t243.length co15 : Value).ownBlock ∧ k_ ≠ gb270) ho0 (fun k_ hk_ => ⟨(Kd.fresh' (Kd.R_lt (kr HO_6.out)) k_ hk_), (kf BK270 hk_)⟩)) (below_size (kw HB.out)))
                    replace HO_6 := ka (Kd.R_below (kr HO_6.out) hb)
                    replace BK270 := kbb BK270 hb
                    replace HB := ka (below_step (kw HB.out) hb)
                    (try clear hb)
                    (try clear hb2)
                    (try clear hk)
                    (try clear hi)
                    (try clear ho0)
                    refine hK.out _ _ ⟨(blk_cell BK270.out 0).trans rfl, (blk_cell BK270.out 1).trans rfl, HS2_⟩ (fun hHeld => ?_)
                    clear hK K
                    refine norm_ (a' := ?_) ?_ ?_
                    rotate_left
                    ·show Act.put _ (some 114) _ = _
                     simp only [Act.put, List.setIfInBounds_toArray, List.set_cons_zero, List.set_cons_succ, i64_w, i32_w]
                     rfl
                    exact norm_ (by first | (simp only [putAll, Act.put, List.setIfInBounds_toArray, List.set_cons_zero, List.set_cons_succ]; done) | (simp only [putAll, Act.put, List.setIfInBounds_toArray, List.set_cons_zero, List.set_cons_succ]; rfl)) (hJ5_7_8_9_10 (_, _, _, .slice Ao58 t284.length co58, _) _ ⟨hHeld, (kv HO259.out), (kv HO264.out), (kv HO268.out), (kv HO274.out), (kv HO278.out), (kv HO282.out), (kv HO286.out), (kv HO290.out), (kr HO_6.out), (kz BK270.out), (kw HB.out)⟩)
                   ·skip
                    refine box_step ?hg (N := 14) ?hd (cs := #[.slice none 0 0, .bool false]) (t := 34) ?hr ?_; (case hd => rfl); (case hg => rfl); (case hr => first | (go_simp; done) | (go_simp; rfl))
                    intro gb292 hg w58 hbox hb
                    have HS2_ := (hb.cell (World.block_lt_of_cell? _ _ (hHeld.2.2))).trans (hHeld.2.2)
                    replace HO_6 := ka (Kd.R_below (kr HO_6.out) hb)
                    replace HO259 := ka (Kd.V_below (Kd.V_elderB (kv HO259.out) gb292 (Nat.le_of_eq hg.symm)) hb)
                    replace HO264 := ka (Kd.V_below (Kd.V_elderB (kv HO264.out) gb292 (Nat.le_of_eq hg.symm)) hb)
                    replace HO268 := ka (Kd.V_below (Kd.V_elderB (kv HO268.out) gb292 (Nat.le_of_eq hg.symm)) hb)
                    replace HO274 := ka (Kd.V_below (Kd.V_elderB (kv HO274.out) gb292 (Nat.le_of_eq hg.symm)) hb)
                    replace HO278 := ka (Kd.V_below (Kd.V_elderB (kv HO278.out) gb292 (Nat.le_of_eq hg.symm)) hb)
                    replace HO282 := ka (Kd.V_below (Kd.V_elderB (kv HO282.out) gb292 (Nat.le_of_eq hg.symm)) hb)
                    replace HO286 := ka (Kd.V_below (Kd.V_elderB (kv HO286.out) gb292 (Nat.le_of_eq hg.symm)) hb)
                    have BK292 := ka (hbox)
                    have GW292 := ka ((by rw [hg]; exact (below_size (kw HB.out)) : w.heap.size ≤ gb292))
                    have GE292 := ka ((by rw [hg]; exact (below_size (kw HB.out)) : w.heap.size ≤ gb292))
                    replace HB := ka (below_step (kw HB.out) hb)
                    have NB270_292 := knb hg BK270
                    have NB292_270 := ka NB270_292.out.symm
                    replace BK270 := kbb BK270 hb
                    clear hb hbox hg
                    refine hK.out _ _ ⟨(blk_cell BK270.out 0).trans rfl, (blk_cell BK270.out 1).trans rfl, HS2_⟩ (fun hHeld => ?_)
                    clear hK K
                    refine norm_ (a' := ?_) ?_ ?_
                    rotate_left
                    ·show Act.put _ (some 14) _ = _
                     simp only [Act.put, List.setIfInBounds_toArray, List.set_cons_zero, List.set_cons_succ, i64_w, i32_w]
                     rfl
                    exact norm_ (by first | (simp only [putAll, Act.put, List.setIfInBounds_toArray, List.set_cons_zero, List.set_cons_succ]; done) | (simp only [putAll, Act.put, List.setIfInBounds_toArray, List.set_cons_zero, List.set_cons_succ]; rfl)) (hJ5_7_8_9_11 (_, _, _, _, gb292) _ ⟨hHeld, (kv (Kd.V_mono HO259.out (fun _ => ra2))), (kv (Kd.V_mono HO264.out (fun _ => ra2))), (kv (Kd.V_mono HO268.out (fun _ => ra2))), (kv (Kd.V_mono HO274.out (fun _ => ra2))), (kv (Kd.V_mono HO278.out (fun _ => ra2))), (kv (Kd.V_mono HO282.out (fun _ => ra2))), (kv (Kd.V_mono HO286.out (fun _ => ra2))), (kr HO_6.out), (kz BK270.out), (kz BK292.out), GW292.out, GE292.out, NB270_292.out, NB292_270.out, (kw HB.out)⟩)
                 ·skip
                  rintro ⟨v273, v277, v281, v285, gb292⟩ w58 ⟨hS_, h0_, h1_, h2_, h3_, h4_, h5_, h6_, h7_, h8_, h9_, h10_, h11_, h12_, h13_, h14_⟩
                  replace HO259 : Aside0 (Kd.V (Kd.int .u64) 42 w58 w.heap.size (fun k_ => some k_ ≠ (.slice (some ad271) t243.length co15 : Value).ownBlock ∧ k_ ≠ gb270 ∧ k_ ≠ gb292) v258 t257) := ⟨h0_⟩
                  replace HO264 : Aside0 (Kd.V (Kd.int .u64) 42 w58 w.heap.size (fun k_ => some k_ ≠ (.slice (some ad271) t243.length co15 : Value).ownBlock ∧ k_ ≠ gb270 ∧ k_ ≠ gb292) v263 t262) := ⟨h1_⟩
                  replace HO268 : Aside0 (Kd.V (Kd.int .u64) 42 w58 w.heap.size (fun k_ => some k_ ≠ (.slice (some ad271) t243.length co15 : Value).ownBlock ∧ k_ ≠ gb270 ∧ k_ ≠ gb292) (.slice Ao45 t266.length co45) t266) := ⟨h2_⟩
                  have HO274 : Aside0 (Kd.V (Kd.int .u64) 42 w58 w.heap.size (fun k_ => some k_ ≠ (.slice (some ad271) t243.length co15 : Value).ownBlock ∧ k_ ≠ gb270 ∧ k_ ≠ gb292) v273 t272) := ⟨h3_⟩
                  have HO278 : Aside0 (Kd.V (Kd.int .u64) 42 w58 w.heap.size (fun k_ => some k_ ≠ (.slice (some ad271) t243.length co15 : Value).ownBlock ∧ k_ ≠ gb270 ∧ k_ ≠ gb292) v277 t276) := ⟨h4_⟩
                  have HO282 : Aside0 (Kd.V (Kd.int .u64) 42 w58 w.heap.size (fun k_ => some k_ ≠ (.slice (some ad271) t243.length co15 : Value).ownBlock ∧ k_ ≠ gb270 ∧ k_ ≠ gb292) v281 t280) := ⟨h5_⟩
                  have HO286 : Aside0 (Kd.V (Kd.int .u64) 42 w58 w.heap.size (fun k_ => some k_ ≠ (.slice (some ad271) t243.length co15 : Value).ownBlock ∧ k_ ≠ gb270 ∧ k_ ≠ gb292) v285 t284) := ⟨h6_⟩
                  replace HO_6 : Aside0 (Kd.R (Kd.int .i64) 2 w58 w.heap.size (fun _ => True) (.slice (some ad271) t243.length co15) t243) := ⟨h7_⟩
                  replace BK270 : Aside0 (w58.heap[gb270]? = some (.cells #[.slice Ao45 t266.length co45, .bool t269] 34 (0, 0))) := ⟨h8_⟩
                  have BK292 : Aside0 (w58.heap[gb292]? = some (.cells #[.slice none 0 0, .bool false] 34 (0, 0))) := ⟨h9_⟩
                  have GW292 : Aside0 (w.heap.size ≤ gb292) := ⟨h10_⟩
                  have GE292 : Aside0 (w.heap.size ≤ gb292) := ⟨h11_⟩
                  have NB270_292 : Aside0 (gb270 ≠ gb292) := ⟨h12_⟩
                  have NB292_270 : Aside0 (gb292 ≠ gb270) := ⟨h13_⟩
                  replace HB : Aside0 (Below w.heap.size w w58) := ⟨h14_⟩
                  clear h0_ h1_ h2_ h3_ h4_ h5_ h6_ h7_ h8_ h9_ h10_ h11_ h12_ h13_ h14_
                  have hHeld : w58.cell? ⟨gb270, 0, none⟩ = some (.slice Ao45 t266.length co45) ∧ w58.cell? ⟨gb270, 1, none⟩ = some (.bool t269) ∧ w58.cell? (ad271.add (x12_3).toNat) = some (.int .i64 (rd t243 x12_3)) := hS_
                  obtain ⟨Ao59, co59, eo59⟩ := Kd.V_slice HO286.out
                  (first | subst eo59 | (injection eo59 with f1_ f2_ f3_; have f4_ := f1_.symm; have f5_ := f3_.symm; clear f1_ f2_ f3_; subst f4_; subst f5_))
                  refine norm_ (a' := ?_) ?_ ?_
                  rotate_left
                  ·simp only [putAll, Act.put, List.setIfInBounds_toArray, List.set_cons_zero, List.set_cons_succ]
                   rfl
                  refine one_ (i := 10) (N := some 114) #[true, true, true, true, true, true, true, true, true, true, true, true, false] rfl rfl (one_of HT_.out (by kernel_rfl)) (by decide) (fun K hK => ?_)
                  refine goes_ Try.func16 (by kernel_rfl) rfl #[.agg #[.slice Ao45 t266.length co45, .bool t269], .agg #[.slice Ao59 t284.length co59, .bool t287]] (by rfl) rfl rfl (by (try simp only [List.map_toArray, List.map_cons, List.map_nil]); first | done | rfl | (simp only [List.length_drop, List.length_take]; rfl)) ?_
                  with_reducible refine (trivetref01_Add.calls k3 _ _ t266 t269 _ _ t284 t287 t288 t291 _ ?side1 ?side2 ?side3 ?side4 A33.out).mono ?_
                  (case side1 => repeat (first | exact (Kd.V_reads' HO268.out).2.2 | (with_reducible refine Kd.C_alloc ?_ _) | (with_reducible refine Kd.C_drewN ?_ _) | (with_reducible refine Kd.C_drew ?_)))
                  (case side2 => exact (Kd.V_reads' HO268.out).2.1)
                  (case side3 => repeat (first | exact (Kd.V_reads' HO286.out).2.2 | (with_reducible refine Kd.C_alloc ?_ _) | (with_reducible refine Kd.C_drewN ?_ _) | (with_reducible refine Kd.C_drew ?_)))
                  (case side4 => exact (Kd.V_reads' HO286.out).2.1)
                  rintro e w60 ⟨v289, rfl, ho0, hb⟩
                  have HS2_ := (hb.cell (World.block_lt_of_cell? _ _ (hHeld.2.2))).trans (hHeld.2.2)
                  refine ⟨_, rfl, ?_⟩
                  replace HO259 := kvb HO259 hb
                  replace HO264 := kvb HO264 hb
                  replace HO268 := kvb HO268 hb
                  replace HO274 := kvb HO274 hb
                  replace HO278 := kvb HO278 hb
                  replace HO282 := kvb HO282 hb
                  replace HO286 := kvb HO286 hb
                  have HO290 := ka (Kd.V_lower (Kd.V_mono (ok' := fun k_ => some k_ ≠ (.slice (some ad271) t243.length co15 : Value).ownBlock ∧ k_ ≠ gb270 ∧ k_ ≠ gb292) ho0 (fun k_ hk_ => ⟨(Kd.fresh' (Kd.R_lt (kr HO_6.out)) k_ hk_), (kf BK270 hk_), (kf BK292 hk_)⟩)) (below_size (kw HB.out)))
                  replace HO_6 := ka (Kd.R_below (kr HO_6.out) hb)
                  replace BK270 := kbb BK270 hb
                  replace BK292 := kbb BK292 hb
                  replace HB := ka (below_step (kw HB.out) hb)
                  (try clear hb)
                  (try clear hb2)
                  (try clear hk)
                  (try clear hi)
                  (try clear ho0)
                  refine hK.out _ _ ⟨(blk_cell BK270.out 0).trans rfl, (blk_cell BK270.out 1).trans rfl, HS2_⟩ (fun hHeld => ?_)
                  clear hK K
                  refine norm_ (a' := ?_) ?_ ?_
                  rotate_left
                  ·show Act.put _ (some 114) _ = _
                   simp only [Act.put, List.setIfInBounds_toArray, List.set_cons_zero, List.set_cons_succ, i64_w, i32_w]
                   rfl
                  exact norm_ (by first | (simp only [putAll, Act.put, List.setIfInBounds_toArray, List.set_cons_zero, List.set_cons_succ]; done) | (simp only [putAll, Act.put, List.setIfInBounds_toArray, List.set_cons_zero, List.set_cons_succ]; rfl)) (hJ5_7_8_9_10_11 (_, _, _, .slice Ao59 t284.length co59, _, gb292) _ ⟨hHeld, (kv HO259.out), (kv HO264.out), (kv HO268.out), (kv HO274.out), (kv HO278.out), (kv HO282.out), (kv HO286.out), (kv HO290.out), (kr HO_6.out), (kz BK270.out), (kz BK292.out), GW292.out, GE292.out, NB270_292.out, NB292_270.out, (kw HB.out)⟩)
                ·skip
                 rintro ⟨v273, v277, v281, v285, v289⟩ w59 ⟨hS_, h0_, h1_, h2_, h3_, h4_, h5_, h6_, h7_, h8_, h9_, h10_⟩
                 replace HO259 : Aside0 (Kd.V (Kd.int .u64) 42 w59 w.heap.size (fun k_ => some k_ ≠ (.slice (some ad271) t243.length co15 : Value).ownBlock ∧ k_ ≠ gb270) v258 t257) := ⟨h0_⟩
                 replace HO264 : Aside0 (Kd.V (Kd.int .u64) 42 w59 w.heap.size (fun k_ => some k_ ≠ (.slice (some ad271) t243.length co15 : Value).ownBlock ∧ k_ ≠ gb270) v263 t262) := ⟨h1_⟩
                 replace HO268 : Aside0 (Kd.V (Kd.int .u64) 42 w59 w.heap.size (fun k_ => some k_ ≠ (.slice (some ad271) t243.length co15 : Value).ownBlock ∧ k_ ≠ gb270) (.slice Ao45 t266.length co45) t266) := ⟨h2_⟩
                 have HO274 : Aside0 (Kd.V (Kd.int .u64) 42 w59 w.heap.size (fun k_ => some k_ ≠ (.slice (some ad271) t243.length co15 : Value).ownBlock ∧ k_ ≠ gb270) v273 t272) := ⟨h3_⟩
                 have HO278 : Aside0 (Kd.V (Kd.int .u64) 42 w59 w.heap.size (fun k_ => some k_ ≠ (.slice (some ad271) t243.length co15 : Value).ownBlock ∧ k_ ≠ gb270) v277 t276) := ⟨h4_⟩
                 have HO282 : Aside0 (Kd.V (Kd.int .u64) 42 w59 w.heap.size (fun k_ => some k_ ≠ (.slice (some ad271) t243.length co15 : Value).ownBlock ∧ k_ ≠ gb270) v281 t280) := ⟨h5_⟩
                 have HO286 : Aside0 (Kd.V (Kd.int .u64) 42 w59 w.heap.size (fun k_ => some k_ ≠ (.slice (some ad271) t243.length co15 : Value).ownBlock ∧ k_ ≠ gb270) v285 t284) := ⟨h6_⟩
                 have HO290 : Aside0 (Kd.V (Kd.int .u64) 42 w59 w.heap.size (fun k_ => some k_ ≠ (.slice (some ad271) t243.length co15 : Value).ownBlock ∧ k_ ≠ gb270) v289 t288) := ⟨h7_⟩
                 replace HO_6 : Aside0 (Kd.R (Kd.int .i64) 2 w59 w.heap.size (fun _ => True) (.slice (some ad271) t243.length co15) t243) := ⟨h8_⟩
                 replace BK270 : Aside0 (w59.heap[gb270]? = some (.cells #[.slice Ao45 t266.length co45, .bool t269] 34 (0, 0))) := ⟨h9_⟩
                 replace HB : Aside0 (Below w.heap.size w w59) := ⟨h10_⟩
                 clear h0_ h1_ h2_ h3_ h4_ h5_ h6_ h7_ h8_ h9_ h10_
                 have hHeld : w59.cell? ⟨gb270, 0, none⟩ = some (.slice Ao45 t266.length co45) ∧ w59.cell? ⟨gb270, 1, none⟩ = some (.bool t269) ∧ w59.cell? (ad271.add (x12_3).toNat) = some (.int .i64 (rd t243 x12_3)) := hS_
                 refine norm_ (a' := ?_) ?_ ?_
                 rotate_left
                 ·simp only [putAll, Act.put, List.setIfInBounds_toArray, List.set_cons_zero, List.set_cons_succ]
                  rfl
                 refine one_ (i := 11) (N := some 14) #[true, true, true, true, true, true, true, true, true, true, true, true, false] rfl rfl (one_of HT_.out (by kernel_rfl)) (by decide) (fun K hK => ?_)
                 refine box_step ?hg (N := 14) ?hd (cs := #[.slice none 0 0, .bool false]) (t := 34) ?hr ?_; (case hd => rfl); (case hg => rfl); (case hr => first | (go_simp; done) | (go_simp; rfl))
                 intro gb292 hg w60 hbox hb
                 have HS2_ := (hb.cell (World.block_lt_of_cell? _ _ (hHeld.2.2))).trans (hHeld.2.2)
                 replace HO_6 := ka (Kd.R_below (kr HO_6.out) hb)
                 replace HO259 := ka (Kd.V_below (Kd.V_elderB (kv HO259.out) gb292 (Nat.le_of_eq hg.symm)) hb)
                 replace HO264 := ka (Kd.V_below (Kd.V_elderB (kv HO264.out) gb292 (Nat.le_of_eq hg.symm)) hb)
                 replace HO268 := ka (Kd.V_below (Kd.V_elderB (kv HO268.out) gb292 (Nat.le_of_eq hg.symm)) hb)
                 replace HO274 := ka (Kd.V_below (Kd.V_elderB (kv HO274.out) gb292 (Nat.le_of_eq hg.symm)) hb)
                 replace HO278 := ka (Kd.V_below (Kd.V_elderB (kv HO278.out) gb292 (Nat.le_of_eq hg.symm)) hb)
                 replace HO282 := ka (Kd.V_below (Kd.V_elderB (kv HO282.out) gb292 (Nat.le_of_eq hg.symm)) hb)
                 replace HO286 := ka (Kd.V_below (Kd.V_elderB (kv HO286.out) gb292 (Nat.le_of_eq hg.symm)) hb)
                 replace HO290 := ka (Kd.V_below (Kd.V_elderB (kv HO290.out) gb292 (Nat.le_of_eq hg.symm)) hb)
                 have BK292 := ka (hbox)
                 have GW292 := ka ((by rw [hg]; exact (below_size (kw HB.out)) : w.heap.size ≤ gb292))
                 have GE292 := ka ((by rw [hg]; exact (below_size (kw HB.out)) : w.heap.size ≤ gb292))
                 replace HB := ka (below_step (kw HB.out) hb)
                 have NB270_292 := knb hg BK270
                 have NB292_270 := ka NB270_292.out.symm
                 replace BK270 := kbb BK270 hb
                 clear hb hbox hg
                 refine hK.out _ _ ⟨(blk_cell BK270.out 0).trans rfl, (blk_cell BK270.out 1).trans rfl, HS2_⟩ (fun hHeld => ?_)
                 clear hK K
                 refine norm_ (a' := ?_) ?_ ?_
                 rotate_left
                 ·show Act.put _ (some 14) _ = _
                  simp only [Act.put, List.setIfInBounds_toArray, List.set_cons_zero, List.set_cons_succ, i64_w, i32_w]
                  rfl
                 exact norm_ (by first | (simp only [putAll, Act.put, List.setIfInBounds_toArray, List.set_cons_zero, List.set_cons_succ]; done) | (simp only [putAll, Act.put, List.setIfInBounds_toArray, List.set_cons_zero, List.set_cons_succ]; rfl)) (hJ5_7_8_9_10_11 (_, _, _, _, _, gb292) _ ⟨hHeld, (kv (Kd.V_mono HO259.out (fun _ => ra2))), (kv (Kd.V_mono HO264.out (fun _ => ra2))), (kv (Kd.V_mono HO268.out (fun _ => ra2))), (kv (Kd.V_mono HO274.out (fun _ => ra2))), (kv (Kd.V_mono HO278.out (fun _ => ra2))), (kv (Kd.V_mono HO282.out (fun _ => ra2))), (kv (Kd.V_mono HO286.out (fun _ => ra2))), (kv (Kd.V_mono HO290.out (fun _ => ra2))), (kr HO_6.out), (kz BK270.out), (kz BK292.out), GW292.out, GE292.out, NB270_292.out, NB292_270.out, (kw HB.out)⟩)
               rintro ⟨v273, v277, v281, v285, v289, gb292⟩ w60 ⟨hS_, h0_, h1_, h2_, h3_, h4_, h5_, h6_, h7_, h8_, h9_, h10_, h11_, h12_, h13_, h14_, h15_⟩
               replace HO259 : Aside0 (Kd.V (Kd.int .u64) 42 w60 w.heap.size (fun k_ => some k_ ≠ (.slice (some ad271) t243.length co15 : Value).ownBlock ∧ k_ ≠ gb270 ∧ k_ ≠ gb292) v258 t257) := ⟨h0_⟩
               replace HO264 : Aside0 (Kd.V (Kd.int .u64) 42 w60 w.heap.size (fun k_ => some k_ ≠ (.slice (some ad271) t243.length co15 : Value).ownBlock ∧ k_ ≠ gb270 ∧ k_ ≠ gb292) v263 t262) := ⟨h1_⟩
               replace HO268 : Aside0 (Kd.V (Kd.int .u64) 42 w60 w.heap.size (fun k_ => some k_ ≠ (.slice (some ad271) t243.length co15 : Value).ownBlock ∧ k_ ≠ gb270 ∧ k_ ≠ gb292) (.slice Ao45 t266.length co45) t266) := ⟨h2_⟩
               have HO274 : Aside0 (Kd.V (Kd.int .u64) 42 w60 w.heap.size (fun k_ => some k_ ≠ (.slice (some ad271) t243.length co15 : Value).ownBlock ∧ k_ ≠ gb270 ∧ k_ ≠ gb292) v273 t272) := ⟨h3_⟩
               have HO278 : Aside0 (Kd.V (Kd.int .u64) 42 w60 w.heap.size (fun k_ => some k_ ≠ (.slice (some ad271) t243.length co15 : Value).ownBlock ∧ k_ ≠ gb270 ∧ k_ ≠ gb292) v277 t276) := ⟨h4_⟩
               have HO282 : Aside0 (Kd.V (Kd.int .u64) 42 w60 w.heap.size (fun k_ => some k_ ≠ (.slice (some ad271) t243.length co15 : Value).ownBlock ∧ k_ ≠ gb270 ∧ k_ ≠ gb292) v281 t280) := ⟨h5_⟩
               have HO286 : Aside0 (Kd.V (Kd.int .u64) 42 w60 w.heap.size (fun k_ => some k_ ≠ (.slice (some ad271) t243.length co15 : Value).ownBlock ∧ k_ ≠ gb270 ∧ k_ ≠ gb292) v285 t284) := ⟨h6_⟩
               have HO290 : Aside0 (Kd.V (Kd.int .u64) 42 w60 w.heap.size (fun k_ => some k_ ≠ (.slice (some ad271) t243.length co15 : Value).ownBlock ∧ k_ ≠ gb270 ∧ k_ ≠ gb292) v289 t288) := ⟨h7_⟩
               replace HO_6 : Aside0 (Kd.R (Kd.int .i64) 2 w60 w.heap.size (fun _ => True) (.slice (some ad271) t243.length co15) t243) := ⟨h8_⟩
               replace BK270 : Aside0 (w60.heap[gb270]? = some (.cells #[.slice Ao45 t266.length co45, .bool t269] 34 (0, 0))) := ⟨h9_⟩
               have BK292 : Aside0 (w60.heap[gb292]? = some (.cells #[.slice none 0 0, .bool false] 34 (0, 0))) := ⟨h10_⟩
               have GW292 : Aside0 (w.heap.size ≤ gb292) := ⟨h11_⟩
               have GE292 : Aside0 (w.heap.size ≤ gb292) := ⟨h12_⟩
               have NB270_292 : Aside0 (gb270 ≠ gb292) := ⟨h13_⟩
               have NB292_270 : Aside0 (gb292 ≠ gb270) := ⟨h14_⟩
               replace HB : Aside0 (Below w.heap.size w w60) := ⟨h15_⟩
               clear h0_ h1_ h2_ h3_ h4_ h5_ h6_ h7_ h8_ h9_ h10_ h11_ h12_ h13_ h14_ h15_
               have hHeld : w60.cell? ⟨gb270, 0, none⟩ = some (.slice Ao45 t266.length co45) ∧ w60.cell? ⟨gb270, 1, none⟩ = some (.bool t269) ∧ w60.cell? (ad271.add (x12_3).toNat) = some (.int .i64 (rd t243 x12_3)) := hS_
               obtain ⟨Ao61, co61, eo61⟩ := Kd.V_slice HO290.out
               (first | subst eo61 | (injection eo61 with f1_ f2_ f3_; have f4_ := f1_.symm; have f5_ := f3_.symm; clear f1_ f2_ f3_; subst f4_; subst f5_))
               refine norm_ (a' := ?_) ?_ ?_
               rotate_left
               ·simp only [putAll, Act.put, List.setIfInBounds_toArray, List.set_cons_zero, List.set_cons_succ]
                rfl
               refine one_ (i := 12) (N := none) #[true, true, true, true, true, true, true, true, true, true, true, true, true] rfl rfl (one_of HT_.out (by kernel_rfl)) (by decide) (fun K hK => ?_)
               have hs62 : w60.cell? ⟨gb292, 0, none⟩ = some (.slice none 0 0) := (blk_cell BK292.out 0).trans rfl
               have hfs62 := blk_frozen BK292.out 0
               have hns62_0 := NB270_292.out
               have hms62_0 := NB292_270.out
               have hs63 : w60.cell? ⟨gb292, 1, none⟩ = some (.bool false) := (blk_cell BK292.out 1).trans rfl
               have hfs63 := blk_frozen BK292.out 1
               have hns63_0 := NB270_292.out
               have hms63_0 := NB292_270.out
               refine skip_ (w1 := ?_) (by rfl) rfl ?_ ?_
               rotate_left
               ·go_simp
                rfl
               refine hK.out _ _ ⟨((cell_far (p := ⟨gb292, _, none⟩) NB270_292.out _).trans (((cell_far (p := ⟨gb292, _, none⟩) NB270_292.out _).trans (hHeld.1)))), ((cell_far (p := ⟨gb292, _, none⟩) NB270_292.out _).trans (((cell_far (p := ⟨gb292, _, none⟩) NB270_292.out _).trans (hHeld.2.1)))), ((cell_far (p := ⟨gb292, _, none⟩) (by first | exact Kd.own_blk (Kd.R_ne HO_6.out BK292.out (by decide)) | (rw [add_block]; exact Kd.own_blk (Kd.R_ne HO_6.out BK292.out (by decide))) | (show (Addr.add _ _).block ≠ _; rw [add_block]; exact Kd.own_blk (Kd.R_ne HO_6.out BK292.out (by decide))) | (dsimp only; exact Kd.own_blk (Kd.R_ne HO_6.out BK292.out (by decide)))) _).trans (((cell_far (p := ⟨gb292, _, none⟩) (by first | exact Kd.own_blk (Kd.R_ne HO_6.out BK292.out (by decide)) | (rw [add_block]; exact Kd.own_blk (Kd.R_ne HO_6.out BK292.out (by decide))) | (show (Addr.add _ _).block ≠ _; rw [add_block]; exact Kd.own_blk (Kd.R_ne HO_6.out BK292.out (by decide))) | (dsimp only; exact Kd.own_blk (Kd.R_ne HO_6.out BK292.out (by decide)))) _).trans (hHeld.2.2))))⟩ (fun hHeld => ?_)
               clear hK K
               refine done_ (done_of HT_.out (by kernel_rfl)) ?_
               have hnb64 := NB292_270.out
               have hnc64 := NB270_292.out
               have hcz65 := blkAll2 BK292.out
               try go_wp2
               have n0_ : Aside0 (Kd.R (Kd.int .i64) 2 (((w60.setCell ⟨gb292, 0, none⟩ (.slice Ao61 t288.length co61)).setCell ⟨gb292, 1, none⟩ (.bool t291)).setCell ⟨gb292, 1, none⟩ (.bool false)) w.heap.size (fun _ => True) (.slice (some ad271) t243.length co15) t243) := ⟨kr (Kd.R_mono (Kd.R_far (p := ⟨gb292, 1, none⟩) (Kd.R_far (p := ⟨gb292, 1, none⟩) (Kd.R_far (p := ⟨gb292, 0, none⟩) (Kd.R_types HO_6.out BK292.out (by decide)) (fun _ hk => hk.2) (.slice Ao61 t288.length co61)) (fun _ hk => hk.2) (.bool t291)) (fun _ hk => hk.2) (.bool false)) (fun _ hk => trivial))⟩
               have n1_ : Aside0 (Kd.V (Kd.int .u64) 42 (((w60.setCell ⟨gb292, 0, none⟩ (.slice Ao61 t288.length co61)).setCell ⟨gb292, 1, none⟩ (.bool t291)).setCell ⟨gb292, 1, none⟩ (.bool false)) w.heap.size (fun k_ => some k_ ≠ (.slice (some ad271) t243.length co15 : Value).ownBlock ∧ k_ ≠ gb270 ∧ k_ ≠ gb292) v258 t257) := ⟨kv (Kd.V_mono (Kd.V_far (p := ⟨gb292, 1, none⟩) (Kd.V_far (p := ⟨gb292, 1, none⟩) (Kd.V_far (p := ⟨gb292, 0, none⟩) (Kd.V_mono HO259.out (fun k_ hk => (⟨hk, hk.2.2⟩ : _ ∧ k_ ≠ gb292))) (fun _ hk => hk.2) (.slice Ao61 t288.length co61)) (fun _ hk => hk.2) (.bool t291)) (fun _ hk => hk.2) (.bool false)) (fun _ hk => ⟨hk.1.1, ⟨hk.1.2.1, hk.1.2.2⟩⟩))⟩
               have n2_ : Aside0 (Kd.V (Kd.int .u64) 42 (((w60.setCell ⟨gb292, 0, none⟩ (.slice Ao61 t288.length co61)).setCell ⟨gb292, 1, none⟩ (.bool t291)).setCell ⟨gb292, 1, none⟩ (.bool false)) w.heap.size (fun k_ => some k_ ≠ (.slice (some ad271) t243.length co15 : Value).ownBlock ∧ k_ ≠ gb270 ∧ k_ ≠ gb292) v263 t262) := ⟨kv (Kd.V_mono (Kd.V_far (p := ⟨gb292, 1, none⟩) (Kd.V_far (p := ⟨gb292, 1, none⟩) (Kd.V_far (p := ⟨gb292, 0, none⟩) (Kd.V_mono HO264.out (fun k_ hk => (⟨hk, hk.2.2⟩ : _ ∧ k_ ≠ gb292))) (fun _ hk => hk.2) (.slice Ao61 t288.length co61)) (fun _ hk => hk.2) (.bool t291)) (fun _ hk => hk.2) (.bool false)) (fun _ hk => ⟨hk.1.1, ⟨hk.1.2.1, hk.1.2.2⟩⟩))⟩
               have n3_ : Aside0 (Kd.V (Kd.int .u64) 42 (((w60.setCell ⟨gb292, 0, none⟩ (.slice Ao61 t288.length co61)).setCell ⟨gb292, 1, none⟩ (.bool t291)).setCell ⟨gb292, 1, none⟩ (.bool false)) w.heap.size (fun k_ => some k_ ≠ (.slice (some ad271) t243.length co15 : Value).ownBlock ∧ k_ ≠ gb270 ∧ k_ ≠ gb292) (.slice Ao45 t266.length co45) t266) := ⟨kv (Kd.V_mono (Kd.V_far (p := ⟨gb292, 1, none⟩) (Kd.V_far (p := ⟨gb292, 1, none⟩) (Kd.V_far (p := ⟨gb292, 0, none⟩) (Kd.V_mono HO268.out (fun k_ hk => (⟨hk, hk.2.2⟩ : _ ∧ k_ ≠ gb292))) (fun _ hk => hk.2) (.slice Ao61 t288.length co61)) (fun _ hk => hk.2) (.bool t291)) (fun _ hk => hk.2) (.bool false)) (fun _ hk => ⟨hk.1.1, ⟨hk.1.2.1, hk.1.2.2⟩⟩))⟩
               have n4_ : Aside0 (Kd.V (Kd.int .u64) 42 (((w60.setCell ⟨gb292, 0, none⟩ (.slice Ao61 t288.length co61)).setCell ⟨gb292, 1, none⟩ (.bool t291)).setCell ⟨gb292, 1, none⟩ (.bool false)) w.heap.size (fun k_ => some k_ ≠ (.slice (some ad271) t243.length co15 : Value).ownBlock ∧ k_ ≠ gb270 ∧ k_ ≠ gb292) v273 t272) := ⟨kv (Kd.V_mono (Kd.V_far (p := ⟨gb292, 1, none⟩) (Kd.V_far (p := ⟨gb292, 1, none⟩) (Kd.V_far (p := ⟨gb292, 0, none⟩) (Kd.V_mono HO274.out (fun k_ hk => (⟨hk, hk.2.2⟩ : _ ∧ k_ ≠ gb292))) (fun _ hk => hk.2) (.slice Ao61 t288.length co61)) (fun _ hk => hk.2) (.bool t291)) (fun _ hk => hk.2) (.bool false)) (fun _ hk => ⟨hk.1.1, ⟨hk.1.2.1, hk.1.2.2⟩⟩))⟩
               have n5_ : Aside0 (Kd.V (Kd.int .u64) 42 (((w60.setCell ⟨gb292, 0, none⟩ (.slice Ao61 t288.length co61)).setCell ⟨gb292, 1, none⟩ (.bool t291)).setCell ⟨gb292, 1, none⟩ (.bool false)) w.heap.size (fun k_ => some k_ ≠ (.slice (some ad271) t243.length co15 : Value).ownBlock ∧ k_ ≠ gb270 ∧ k_ ≠ gb292) v277 t276) := ⟨kv (Kd.V_mono (Kd.V_far (p := ⟨gb292, 1, none⟩) (Kd.V_far (p := ⟨gb292, 1, none⟩) (Kd.V_far (p := ⟨gb292, 0, none⟩) (Kd.V_mono HO278.out (fun k_ hk => (⟨hk, hk.2.2⟩ : _ ∧ k_ ≠ gb292))) (fun _ hk => hk.2) (.slice Ao61 t288.length co61)) (fun _ hk => hk.2) (.bool t291)) (fun _ hk => hk.2) (.bool false)) (fun _ hk => ⟨hk.1.1, ⟨hk.1.2.1, hk.1.2.2⟩⟩))⟩
               have n6_ : Aside0 (Kd.V (Kd.int .u64) 42 (((w60.setCell ⟨gb292, 0, none⟩ (.slice Ao61 t288.length co61)).setCell ⟨gb292, 1, none⟩ (.bool t291)).setCell ⟨gb292, 1, none⟩ (.bool false)) w.heap.size (fun k_ => some k_ ≠ (.slice (some ad271) t243.length co15 : Value).ownBlock ∧ k_ ≠ gb270 ∧ k_ ≠ gb292) v281 t280) := ⟨kv (Kd.V_mono (Kd.V_far (p := ⟨gb292, 1, none⟩) (Kd.V_far (p := ⟨gb292, 1, none⟩) (Kd.V_far (p := ⟨gb292, 0, none⟩) (Kd.V_mono HO282.out (fun k_ hk => (⟨hk, hk.2.2⟩ : _ ∧ k_ ≠ gb292))) (fun _ hk => hk.2) (.slice Ao61 t288.length co61)) (fun _ hk => hk.2) (.bool t291)) (fun _ hk => hk.2) (.bool false)) (fun _ hk => ⟨hk.1.1, ⟨hk.1.2.1, hk.1.2.2⟩⟩))⟩
               have n7_ : Aside0 (Kd.V (Kd.int .u64) 42 (((w60.setCell ⟨gb292, 0, none⟩ (.slice Ao61 t288.length co61)).setCell ⟨gb292, 1, none⟩ (.bool t291)).setCell ⟨gb292, 1, none⟩ (.bool false)) w.heap.size (fun k_ => some k_ ≠ (.slice (some ad271) t243.length co15 : Value).ownBlock ∧ k_ ≠ gb270 ∧ k_ ≠ gb292) v285 t284) := ⟨kv (Kd.V_mono (Kd.V_far (p := ⟨gb292, 1, none⟩) (Kd.V_far (p := ⟨gb292, 1, none⟩) (Kd.V_far (p := ⟨gb292, 0, none⟩) (Kd.V_mono HO286.out (fun k_ hk => (⟨hk, hk.2.2⟩ : _ ∧ k_ ≠ gb292))) (fun _ hk => hk.2) (.slice Ao61 t288.length co61)) (fun _ hk => hk.2) (.bool t291)) (fun _ hk => hk.2) (.bool false)) (fun _ hk => ⟨hk.1.1, ⟨hk.1.2.1, hk.1.2.2⟩⟩))⟩
               have n8_ : Aside0 (Kd.V (Kd.int .u64) 42 (((w60.setCell ⟨gb292, 0, none⟩ (.slice Ao61 t288.length co61)).setCell ⟨gb292, 1, none⟩ (.bool t291)).setCell ⟨gb292, 1, none⟩ (.bool false)) w.heap.size (fun k_ => some k_ ≠ (.slice (some ad271) t243.length co15 : Value).ownBlock ∧ k_ ≠ gb270 ∧ k_ ≠ gb292) (.slice Ao61 t288.length co61) t288) := ⟨kv (Kd.V_mono (Kd.V_far (p := ⟨gb292, 1, none⟩) (Kd.V_far (p := ⟨gb292, 1, none⟩) (Kd.V_far (p := ⟨gb292, 0, none⟩) (Kd.V_mono HO290.out (fun k_ hk => (⟨hk, hk.2.2⟩ : _ ∧ k_ ≠ gb292))) (fun _ hk => hk.2) (.slice Ao61 t288.length co61)) (fun _ hk => hk.2) (.bool t291)) (fun _ hk => hk.2) (.bool false)) (fun _ hk => ⟨hk.1.1, ⟨hk.1.2.1, hk.1.2.2⟩⟩))⟩
               have n9_ : Aside0 ((((w60.setCell ⟨gb292, 0, none⟩ (.slice Ao61 t288.length co61)).setCell ⟨gb292, 1, none⟩ (.bool t291)).setCell ⟨gb292, 1, none⟩ (.bool false)).heap[gb270]? = some (.cells #[.slice Ao45 t266.length co45, .bool t269] 34 (0, 0))) := ⟨by (with_reducible repeat (first | apply kb1 | apply kb2 | apply kb3 | refine kb4 ?_ NB270_292.out _)); exact BK270.out⟩
               have n10_ : Aside0 ((((w60.setCell ⟨gb292, 0, none⟩ (.slice Ao61 t288.length co61)).setCell ⟨gb292, 1, none⟩ (.bool t291)).setCell ⟨gb292, 1, none⟩ (.bool false)).heap[gb292]? = some (.cells #[.slice Ao61 t288.length co61, .bool false] 34 (0, 0))) := ⟨by (with_reducible repeat (first | apply kb1 | apply kb2 | apply kb3 | apply blkPut2_1 | apply blkPut2_0)); exact BK292.out⟩
               have n11_ : Aside0 (Below w.heap.size w (((w60.setCell ⟨gb292, 0, none⟩ (.slice Ao61 t288.length co61)).setCell ⟨gb292, 1, none⟩ (.bool t291)).setCell ⟨gb292, 1, none⟩ (.bool false))) := ⟨by repeat (first | (with_reducible first | exact HB.out | apply kc1 | apply kc2 | apply kc3 | refine kc4 ?_ GE270.out | refine kc4 ?_ GE292.out) | exact HB.out)⟩
               (try clear HO_6)
               (try clear HO259)
               (try clear HO264)
               (try clear HO268)
               (try clear HO274)
               (try clear HO278)
               (try clear HO282)
               (try clear HO286)
               (try clear HO290)
               (try clear BK270)
               (try clear BK292)
               (try clear HB)
               generalize (((w60.setCell ⟨gb292, 0, none⟩ (.slice Ao61 t288.length co61)).setCell ⟨gb292, 1, none⟩ (.bool t291)).setCell ⟨gb292, 1, none⟩ (.bool false)) = w66 at n0_ n1_ n2_ n3_ n4_ n5_ n6_ n7_ n8_ n9_ n10_ n11_ ⊢
               have HO_6 := n0_
               have HO259 := n1_
               have HO264 := n2_
               have HO268 := n3_
               have HO274 := n4_
               have HO278 := n5_
               have HO282 := n6_
               have HO286 := n7_
               have HO290 := n8_
               have BK270 := n9_
               have BK292 := n10_
               have HB := n11_
               clear n0_ n1_ n2_ n3_ n4_ n5_ n6_ n7_ n8_ n9_ n10_ n11_
               replace HO_6 := ka (Kd.R_drew HO_6.out)
               replace HO259 := ka (Kd.V_drew HO259.out)
               replace HO264 := ka (Kd.V_drew HO264.out)
               replace HO268 := ka (Kd.V_drew HO268.out)
               replace HO274 := ka (Kd.V_drew HO274.out)
               replace HO278 := ka (Kd.V_drew HO278.out)
               replace HO282 := ka (Kd.V_drew HO282.out)
               replace HO286 := ka (Kd.V_drew HO286.out)
               replace HO290 := ka (Kd.V_drew HO290.out)
               replace BK270 := ka (blk_drew BK270.out)
               replace BK292 := ka (blk_drew BK292.out)
               replace HB := ka (below_drew1 HB.out)
               refine start_ (n := 5) (S := fun w' => w'.cell? ⟨gb292, 0, none⟩ = some (.slice Ao61 t288.length co61) ∧ w'.cell? ⟨gb292, 1, none⟩ = some (.bool false)) (ds := []) #[false, false, false, false, false] (by kernel_rfl) rfl rfl ⟨(blk_cell BK292.out 0).trans rfl, (blk_cell BK292.out 1).trans rfl⟩ (fun hHeld => ?_)
               generalize w66.drew = w67 at HO_6 HO259 HO264 HO268 HO274 HO278 HO282 HO286 HO290 BK270 BK292 HB hHeld ⊢
               refine pure_ (i := 1) (N := some 117) (v := ?_) (a' := ?_) #[false, true, false, false, false] rfl rfl (by kernel_rfl) (fun _ _ _ h => h) (Or.inl ⟨by rfl, ?_⟩) ?_ ?_
               rotate_left
               ·intro w'
                go_simp
                with_reducible rfl
               rotate_left
               ·simp only [Act.put, List.setIfInBounds_toArray, List.set_cons_zero, List.set_cons_succ, i64_w, i32_w]
                rfl
               refine take_ (i := 0) (N := some 116) (v := ?_) (a' := ?_) #[true, true, false, false, false] rfl rfl (by kernel_rfl) (fun _ _ _ h => h) (Or.inl ⟨by rfl, ?_⟩) hHeld ?_ ?_
               rotate_left
               ·rintro w' ⟨s0, s1⟩
                go_simp
                with_reducible rfl
               rotate_left
               ·simp only [Act.put, List.setIfInBounds_toArray, List.set_cons_zero, List.set_cons_succ, i64_w, i32_w]
                rfl
               refine one_ (i := 2) (N := some 118) #[true, true, true, false, false] rfl rfl (by kernel_rfl) (by decide) (fun K hK => ?_)
               refine goes_ Try.func15 (by kernel_rfl) rfl #[.int .i64 x9_2] (by rfl) rfl rfl (by (try simp only [List.map_toArray, List.map_cons, List.map_nil]); first | done | rfl | (simp only [List.length_drop, List.length_take]; rfl)) ?_
               with_reducible refine (trivetref01_Of.calls k3 x9_2 t293 t296 _ A34.out).mono ?_
               rintro e w68 ⟨v294, rfl, ho0, hb⟩
               refine ⟨_, rfl, ?_⟩
               replace HO259 := kvb HO259 hb
               replace HO264 := kvb HO264 hb
               replace HO268 := kvb HO268 hb
               replace HO274 := kvb HO274 hb
               replace HO278 := kvb HO278 hb
               replace HO282 := kvb HO282 hb
               replace HO286 := kvb HO286 hb
               replace HO290 := kvb HO290 hb
               have HO295 := ka (Kd.V_lower (Kd.V_mono (ok' := fun k_ => some k_ ≠ (.slice (some ad271) t243.length co15 : Value).ownBlock ∧ k_ ≠ gb270 ∧ k_ ≠ gb292) ho0 (fun k_ hk_ => ⟨(Kd.fresh' (Kd.R_lt (kr HO_6.out)) k_ hk_), (kf BK270 hk_), (kf BK292 hk_)⟩)) (below_size (kw HB.out)))
               replace HO_6 := ka (Kd.R_below (kr HO_6.out) hb)
               replace BK270 := kbb BK270 hb
               replace BK292 := kbb BK292 hb
               replace HB := ka (below_step (kw HB.out) hb)
               (try clear hb)
               (try clear hb2)
               (try clear hk)
               (try clear hi)
               (try clear ho0)
               obtain ⟨Ao69, co69, eo69⟩ := Kd.V_slice HO295.out
               (first | subst eo69 | (injection eo69 with f1_ f2_ f3_; have f4_ := f1_.symm; have f5_ := f3_.symm; clear f1_ f2_ f3_; subst f4_; subst f5_))
               refine hK.out _ _ ⟨(blk_cell BK292.out 0).trans rfl, (blk_cell BK292.out 1).trans rfl⟩ (fun hHeld => ?_)
               clear hK K
               refine norm_ (a' := ?_) ?_ ?_
               rotate_left
               ·show Act.put _ (some 118) _ = _
                simp only [Act.put, List.setIfInBounds_toArray, List.set_cons_zero, List.set_cons_succ, i64_w, i32_w]
                rfl
               refine one_ (i := 3) (N := some 119) #[true, true, true, true, false] rfl rfl (by kernel_rfl) (by decide) (fun K hK => ?_)
               refine goes_ Try.func18 (by kernel_rfl) rfl #[.agg #[.slice Ao61 t288.length co61, .bool false], .agg #[.slice Ao69 t293.length co69, .bool t296]] (by rfl) rfl rfl (by (try simp only [List.map_toArray, List.map_cons, List.map_nil]); first | done | rfl | (simp only [List.length_drop, List.length_take]; rfl)) ?_
               with_reducible refine (trivetref01_Cmp.calls k3 _ _ t288 false _ _ t293 t296 t297 _ ?side1 ?side2 ?side3 ?side4 A35.out).mono ?_
               (case side1 => repeat (first | exact (Kd.V_reads' HO290.out).2.2 | (with_reducible refine Kd.C_alloc ?_ _) | (with_reducible refine Kd.C_drewN ?_ _) | (with_reducible refine Kd.C_drew ?_)))
               (case side2 => exact (Kd.V_reads' HO290.out).2.1)
               (case side3 => repeat (first | exact (Kd.V_reads' HO295.out).2.2 | (with_reducible refine Kd.C_alloc ?_ _) | (with_reducible refine Kd.C_drewN ?_ _) | (with_reducible refine Kd.C_drew ?_)))
               (case side4 => exact (Kd.V_reads' HO295.out).2.1)
               rintro e w70 ⟨rfl, hb⟩
               refine ⟨_, rfl, ?_⟩
               replace HO_6 := ka (Kd.R_below (kr HO_6.out) hb)
               replace HO259 := kvb HO259 hb
               replace HO264 := kvb HO264 hb
               replace HO268 := kvb HO268 hb
               replace HO274 := kvb HO274 hb
               replace HO278 := kvb HO278 hb
               replace HO282 := kvb HO282 hb
               replace HO286 := kvb HO286 hb
               replace HO290 := kvb HO290 hb
               replace HO295 := kvb HO295 hb
               replace BK270 := kbb BK270 hb
               replace BK292 := kbb BK292 hb
               replace HB := ka (below_step (kw HB.out) hb)
               (try clear hb)
               (try clear hb2)
               (try clear hk)
               (try clear hi)
               refine hK.out _ _ ⟨(blk_cell BK292.out 0).trans rfl, (blk_cell BK292.out 1).trans rfl⟩ (fun hHeld => ?_)
               clear hK K
               refine norm_ (a' := ?_) ?_ ?_
               rotate_left
               ·show Act.put _ (some 119) _ = _
                simp only [Act.put, List.setIfInBounds_toArray, List.set_cons_zero, List.set_cons_succ, i64_w, i32_w]
                rfl
               refine pure_ (i := 4) (N := some 120) (v := ?_) (a' := ?_) #[true, true, true, true, true] rfl rfl (by kernel_rfl) (fun _ _ _ h => h) (Or.inl ⟨by rfl, ?_⟩) ?_ ?_
               rotate_left
               ·intro w'
                go_simp
                with_reducible rfl
               rotate_left
               ·simp only [Act.put, List.setIfInBounds_toArray, List.set_cons_zero, List.set_cons_succ, i64_w, i32_w]
                rfl
               refine done_ (by kernel_rfl) ?_
               try go_wp2
               go_roundg k3
               case measure => have := HJ7.out; have := HK2.out; have := HK3.out; omega
               case rel => exact ⟨(wrap64 (x12_3 + 1)), (by first | rfl | (simp; done) | (simp [*]; done)), H', ⟨by have := HJ7.out; have := HK2.out; have := HK3.out; omega⟩, ⟨kr HO_6.out⟩, ⟨by repeat (first | (with_reducible first | exact HB.out | apply kc1 | apply kc2 | apply kc3 | refine kc4 ?_ GE270.out | refine kc4 ?_ GE292.out) | exact HB.out)⟩⟩
             ·rw [if_neg c28] at H
              exact absurd H (by simp)
            ·rw [if_neg c25] at H
             exact absurd H (by simp)
           ·rw [if_neg c23] at H
            have c23b0 : decide (x12_3 < (l1.length : Int)) = false := decide_eq_false c23
            clear c23
            by_cases c71 : t242 = true
            ·subst c71
             have H1 : (some (x10_2 == a0)) = some r := by rw [if_pos rfl] at H; exact H
             clear H
             have H := H1
             clear H1
             obtain rfl := Option.some.inj H
             go_wp2
             go_ret
             exact ⟨by first | rfl | (simp [errW_none, errW_some] <;> rfl) | (simp [*, errW_none, errW_some] <;> rfl), by repeat (first | (with_reducible first | exact HB.out | apply kc1 | apply kc2 | apply kc3) | exact HB.out)⟩
            ·replace c71 := Bool.eq_false_iff.mpr c71
             subst c71
             have H1 : (none) = some r := by rw [if_neg (show ¬ (false = true) by decide)] at H; exact H
             clear H
             have H := H1
             clear H1
             exact absurd H (by simp)
     ·rw [if_neg c14] at H
      exact absurd H (by simp)

/-- THE ONE PURE STATEMENT of trivetlaw03_SplitWhole: yours. -/
def trivetlaw03_SplitWhole.Pure : Prop := ∀ (a0 : Int) (l1 : List Int), (Lit.int .i64 a0).wf = true → l1.length ≤ maxLen → l1.length * 8 ≤ 140737488351232 → (∀ x ∈ l1, (Lit.int .i64 x).wf = true) → ∃ k, trivetlaw03_SplitWhole.f k a0 l1 = some true
theorem trivetlaw03_SplitWhole.walk (P : trivetlaw03_SplitWhole.Pure) (a0 : Int) (a1 : Option Addr) (len1 cap1 : Nat) (z1 : List Int) (w : World) (w0 : (Lit.int .i64 a0).wf = true) (w1 : (a1 = none ∧ len1 = 0 ∧ cap1 = 0 ∧ z1 = []) ∨ ∃ x, a1 = some x ∧ len1 ≤ cap1 ∧ cap1 ≤ maxLen ∧ z1.length = cap1 ∧ (∀ i, i < z1.length → w.cell? (x.add i) = some (.int .i64 (z1.getD i 0))) ∧ ∀ n ∈ z1, (Lit.int .i64 n).wf = true) (y1 : len1 * 8 ≤ 140737488351232) :
  Calls Try.prog 4 #[.int .i64 a0, .slice a1 len1 cap1] w fun e w' => e = .returned (.bool true) ∧ Below w.heap.size w w' := by
 obtain ⟨l1, rfl, hr1, hm1, hw1, hc1⟩ := ReadsInt.ofRowC w1
 obtain ⟨k, h⟩ := P a0 l1 w0 hm1 y1 hw1
 refine (trivetlaw03_SplitWhole.calls k a0 _ _ l1 true w (Kd.C_of_reads (d := (0 : Int)) (h1 := fun _ => rfl) hr1) hc1 h).mono ?_
 rintro e w' ⟨rfl, hd⟩
 exact ⟨rfl, hd⟩

end Go.Proofs.Ytcpmfdagnchlbaa.P
