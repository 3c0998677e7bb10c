-- Written by a program of this session out of the translation of the seat: Lean functions and the proofs that the Go functions come to them.
import Derived.Test.YtmkfbaoglmmhjaaPx0
import Derived.Test.YtmkfbaoglmmhjaaPx4
import Derived.Test.YtmkfbaoglmmhjaaPx5
import Derived.Test.YtmkfbaoglmmhjaaPx6
import Derived.Test.YtmkfbaoglmmhjaaPx8
import Derived.Test.YtmkfbaoglmmhjaaPx11
namespace Go.Proofs.Ytmkfbaoglmmhjaa.P
open Go.RowKit Go.Proofs.YtmkfbaoglmmhjaaW.PrintWords Go.Proofs.YtmkfbaoglmmhjaaW.PrintLast Go.Proofs.YtmkfbaoglmmhjaaW.PrintMore
attribute [local go_sem] max2_int min2_int max_two min_two max_three min_three max_four min_four   -- for this text's walks alone
set_option linter.unusedVariables false
set_option linter.unusedSimpArgs false

/-! ### trivetlaw14_CalendarYears: function 5 -/
mutual
def trivetlaw14_CalendarYears.j0 : Nat → List (S48) → Bool → List Int → Bool → Int → Int → Int → Option (Bool)
 | 0, _, _, _, _, _, _, _ => none
 | k + 1, x0, x5, x6, x46, x543000, x543001, x543002 => if x46 = true then (none) else (trivetlaw14_CalendarYears.l0 k x0 x5 x6 0 0 x543000 x543001 x543002)
def trivetlaw14_CalendarYears.l0 : Nat → List (S48) → Bool → List Int → Int → Int → Int → Int → Int → Option (Bool)
 | 0, _, _, _, _, _, _, _, _ => none
 | k + 1, x0, x5, x6, x10, x11, x543000, x543001, x543002 => if x11 < (x0.length : Int) then (if 0 ≤ x11 then (trivetlaw14_CalendarYears.l0 k x0 x5 x6 (wrap64 (x10 + ((rd_T48 x0 x11).f2))) (wrap64 (x11 + 1)) x543000 x543001 x543002) else (none)) else (trivetlaw14_CalendarYears.l1 k x0 x5 x6 x10 0 x543000 x543001 x543002)
def trivetlaw14_CalendarYears.l1 : Nat → List (S48) → Bool → List Int → Int → Int → Int → Int → Int → Option (Bool)
 | 0, _, _, _, _, _, _, _, _ => none
 | k + 1, x0, x5, x6, x10, x12, x543000, x543001, x543002 => if x12 < 12 then ((trivetref04_Months_s.f x543000 x543001 x543002 x12).bind fun bt544 => ((trivetref04_Months_s.f x543000 x543001 x543002 (wrap64 (x12 + 1))).bind fun bt549 => ((trivetref04_Number_s.f bt544.1 bt544.2.1 bt544.2.2.1).bind fun t554 => ((trivetref04_Number_s.f bt549.1 bt549.2.1 bt549.2.2.1).bind fun t555 => ((calendar_Outs.f k x0 t554 t555).bind fun bt556 => (if bt556.2.isNone = true then (trivetlaw14_CalendarYears.l2 k x0 x5 x6 x10 x12 bt556.1 0 0 x543000 x543001 x543002) else (none))))))) else (if x5 = true then (some (x10 == 0)) else (none))
def trivetlaw14_CalendarYears.l2 : Nat → List (S48) → Bool → List Int → Int → Int → List (S45) → Int → Int → Int → Int → Int → Option (Bool)
 | 0, _, _, _, _, _, _, _, _, _, _, _ => none
 | k + 1, x0, x5, x6, x10, x12, x17, x19, x20, x543000, x543001, x543002 => if x20 < (x17.length : Int) then (if 0 ≤ x20 then (trivetlaw14_CalendarYears.l2 k x0 x5 x6 x10 x12 x17 (wrap64 (x19 + ((rd_T45 x17 x20).f2))) (wrap64 (x20 + 1)) x543000 x543001 x543002) else (none)) else (if 0 ≤ x12 then (if x12 < (x6.length : Int) then (if x19 = (rd x6 x12) then (trivetlaw14_CalendarYears.l1 k x0 x5 x6 (wrap64 (x10 - x19)) (wrap64 (x12 + 1)) x543000 x543001 x543002) else (none)) else (none)) else (none))
end
def trivetlaw14_CalendarYears.f (k : Nat) (l0 : List (S48)) (a1 : Int) : Option (Bool) := (trivetlaw14_up.f k).bind fun t532 => (if (l0.length : Int) > 100 then (some t532) else ((calendar_Months.f k l0 a1).bind fun bt533 => (if bt533.2.isNone = true then ((trivetref04_Of_s.f a1).bind fun bt538 => (if bt538.2.2.2 = true then (trivetlaw14_CalendarYears.j0 k l0 t532 bt533.1 ((bt533.1.length : Int) != 12) bt538.1 bt538.2.1 bt538.2.2.1) else (trivetlaw14_CalendarYears.j0 k l0 t532 bt533.1 true bt538.1 bt538.2.1 bt538.2.2.1))) else (some t532))))
theorem trivetlaw14_CalendarYears.mono_l : ∀ k, (∀ y0 y1 y2 y3 y4 y5 y6, LeO (trivetlaw14_CalendarYears.j0 k y0 y1 y2 y3 y4 y5 y6) (trivetlaw14_CalendarYears.j0 (k + 1) y0 y1 y2 y3 y4 y5 y6)) ∧ (∀ y0 y1 y2 y3 y4 y5 y6 y7, LeO (trivetlaw14_CalendarYears.l0 k y0 y1 y2 y3 y4 y5 y6 y7) (trivetlaw14_CalendarYears.l0 (k + 1) y0 y1 y2 y3 y4 y5 y6 y7)) ∧ (∀ y0 y1 y2 y3 y4 y5 y6 y7, LeO (trivetlaw14_CalendarYears.l1 k y0 y1 y2 y3 y4 y5 y6 y7) (trivetlaw14_CalendarYears.l1 (k + 1) y0 y1 y2 y3 y4 y5 y6 y7)) ∧ (∀ y0 y1 y2 y3 y4 y5 y6 y7 y8 y9 y10, LeO (trivetlaw14_CalendarYears.l2 k y0 y1 y2 y3 y4 y5 y6 y7 y8 y9 y10) (trivetlaw14_CalendarYears.l2 (k + 1) y0 y1 y2 y3 y4 y5 y6 y7 y8 y9 y10))
 | 0 => ⟨fun _ _ _ _ _ _ _ r h => by simp [trivetlaw14_CalendarYears.j0] at h, fun _ _ _ _ _ _ _ _ r h => by simp [trivetlaw14_CalendarYears.l0] at h, fun _ _ _ _ _ _ _ _ r h => by simp [trivetlaw14_CalendarYears.l1] at h, fun _ _ _ _ _ _ _ _ _ _ _ r h => by simp [trivetlaw14_CalendarYears.l2] at h⟩
 | k + 1 => by
  obtain ⟨ih0, ih1, ih2, ih3⟩ := trivetlaw14_CalendarYears.mono_l k
  refine ⟨?_, ?_, ?_, ?_⟩
  ·intro y0 y1 y2 y3 y4 y5 y6
   unfold trivetlaw14_CalendarYears.j0
   repeat' first
   | (with_reducible exact ih0 _ _ _ _ _ _ _)
   | (with_reducible exact ih1 _ _ _ _ _ _ _ _)
   | (with_reducible exact ih2 _ _ _ _ _ _ _ _)
   | (with_reducible exact ih3 _ _ _ _ _ _ _ _ _ _ _)
   | (with_reducible exact calendar_Months.mono _ _ _)
   | (with_reducible exact calendar_Outs.mono _ _ _ _)
   | (with_reducible exact trivetlaw14_up.mono _)
   | (with_reducible exact LeO.refl _)
   | (with_reducible exact LeO.none _)
   | (with_reducible refine LeO.ite ?_ ?_)
   | (with_reducible refine LeO.bind ?_ (fun _ => ?_))
   | exact ih0 _ _ _ _ _ _ _
   | exact ih1 _ _ _ _ _ _ _ _
   | exact ih2 _ _ _ _ _ _ _ _
   | exact ih3 _ _ _ _ _ _ _ _ _ _ _
   | exact calendar_Months.mono _ _ _
   | exact calendar_Outs.mono _ _ _ _
   | exact trivetlaw14_up.mono _
   | exact LeO.none _
   | refine LeO.ite ?_ ?_
   | refine LeO.bind ?_ (fun _ => ?_)
  ·intro y0 y1 y2 y3 y4 y5 y6 y7
   unfold trivetlaw14_CalendarYears.l0
   repeat' first
   | (with_reducible exact ih0 _ _ _ _ _ _ _)
   | (with_reducible exact ih1 _ _ _ _ _ _ _ _)
   | (with_reducible exact ih2 _ _ _ _ _ _ _ _)
   | (with_reducible exact ih3 _ _ _ _ _ _ _ _ _ _ _)
   | (with_reducible exact calendar_Months.mono _ _ _)
   | (with_reducible exact calendar_Outs.mono _ _ _ _)
   | (with_reducible exact trivetlaw14_up.mono _)
   | (with_reducible exact LeO.refl _)
   | (with_reducible exact LeO.none _)
   | (with_reducible refine LeO.ite ?_ ?_)
   | (with_reducible refine LeO.bind ?_ (fun _ => ?_))
   | exact ih0 _ _ _ _ _ _ _
   | exact ih1 _ _ _ _ _ _ _ _
   | exact ih2 _ _ _ _ _ _ _ _
   | exact ih3 _ _ _ _ _ _ _ _ _ _ _
   | exact calendar_Months.mono _ _ _
   | exact calendar_Outs.mono _ _ _ _
   | exact trivetlaw14_up.mono _
   | exact LeO.none _
   | refine LeO.ite ?_ ?_
   | refine LeO.bind ?_ (fun _ => ?_)
  ·intro y0 y1 y2 y3 y4 y5 y6 y7
   unfold trivetlaw14_CalendarYears.l1
   repeat' first
   | (with_reducible exact ih0 _ _ _ _ _ _ _)
   | (with_reducible exact ih1 _ _ _ _ _ _ _ _)
   | (with_reducible exact ih2 _ _ _ _ _ _ _ _)
   | (with_reducible exact ih3 _ _ _ _ _ _ _ _ _ _ _)
   | (with_reducible exact calendar_Months.mono _ _ _)
   | (with_reducible exact calendar_Outs.mono _ _ _ _)
   | (with_reducible exact trivetlaw14_up.mono _)
   | (with_reducible exact LeO.refl _)
   | (with_reducible exact LeO.none _)
   | (with_reducible refine LeO.ite ?_ ?_)
   | (with_reducible refine LeO.bind ?_ (fun _ => ?_))
   | exact ih0 _ _ _ _ _ _ _
   | exact ih1 _ _ _ _ _ _ _ _
   | exact ih2 _ _ _ _ _ _ _ _
   | exact ih3 _ _ _ _ _ _ _ _ _ _ _
   | exact calendar_Months.mono _ _ _
   | exact calendar_Outs.mono _ _ _ _
   | exact trivetlaw14_up.mono _
   | exact LeO.none _
   | refine LeO.ite ?_ ?_
   | refine LeO.bind ?_ (fun _ => ?_)
  ·intro y0 y1 y2 y3 y4 y5 y6 y7 y8 y9 y10
   unfold trivetlaw14_CalendarYears.l2
   repeat' first
   | (with_reducible exact ih0 _ _ _ _ _ _ _)
   | (with_reducible exact ih1 _ _ _ _ _ _ _ _)
   | (with_reducible exact ih2 _ _ _ _ _ _ _ _)
   | (with_reducible exact ih3 _ _ _ _ _ _ _ _ _ _ _)
   | (with_reducible exact calendar_Months.mono _ _ _)
   | (with_reducible exact calendar_Outs.mono _ _ _ _)
   | (with_reducible exact trivetlaw14_up.mono _)
   | (with_reducible exact LeO.refl _)
   | (with_reducible exact LeO.none _)
   | (with_reducible refine LeO.ite ?_ ?_)
   | (with_reducible refine LeO.bind ?_ (fun _ => ?_))
   | exact ih0 _ _ _ _ _ _ _
   | exact ih1 _ _ _ _ _ _ _ _
   | exact ih2 _ _ _ _ _ _ _ _
   | exact ih3 _ _ _ _ _ _ _ _ _ _ _
   | exact calendar_Months.mono _ _ _
   | exact calendar_Outs.mono _ _ _ _
   | exact trivetlaw14_up.mono _
   | exact LeO.none _
   | refine LeO.ite ?_ ?_
   | refine LeO.bind ?_ (fun _ => ?_)
theorem trivetlaw14_CalendarYears.mono : ∀ a0 a1 k, LeO (trivetlaw14_CalendarYears.f k a0 a1) (trivetlaw14_CalendarYears.f (k + 1) a0 a1) := by
 intro a0 a1 k
 obtain ⟨ih0, ih1, ih2, ih3⟩ := trivetlaw14_CalendarYears.mono_l k
 unfold trivetlaw14_CalendarYears.f
 repeat' first
   | (with_reducible exact ih0 _ _ _ _ _ _ _)
   | (with_reducible exact ih1 _ _ _ _ _ _ _ _)
   | (with_reducible exact ih2 _ _ _ _ _ _ _ _)
   | (with_reducible exact ih3 _ _ _ _ _ _ _ _ _ _ _)
   | (with_reducible exact calendar_Months.mono _ _ _)
   | (with_reducible exact calendar_Outs.mono _ _ _ _)
   | (with_reducible exact trivetlaw14_up.mono _)
   | (with_reducible exact LeO.refl _)
   | (with_reducible exact LeO.none _)
   | (with_reducible refine LeO.ite ?_ ?_)
   | (with_reducible refine LeO.bind ?_ (fun _ => ?_))
   | exact ih0 _ _ _ _ _ _ _
   | exact ih1 _ _ _ _ _ _ _ _
   | exact ih2 _ _ _ _ _ _ _ _
   | exact ih3 _ _ _ _ _ _ _ _ _ _ _
   | exact calendar_Months.mono _ _ _
   | exact calendar_Outs.mono _ _ _ _
   | exact trivetlaw14_up.mono _
   | exact LeO.none _
   | refine LeO.ite ?_ ?_
   | refine LeO.bind ?_ (fun _ => ?_)
def trivetlaw14_CalendarYears.T20 : Bool × List (List Nat × List Nat) := (true, [([], []), ([], []), ([1], [1]), ([], []), ([3, 2], [3]), ([0, 2, 4, 4], [0, 2, 4]), ([5], [5]), ([6], [6]), ([6], [6]), ([7, 5, 0, 1, 2, 3, 4, 5, 6, 7], [7]), ([8, 9, 0, 1, 2, 3, 4, 5, 6, 7, 8, 9], [8])])
def trivetlaw14_CalendarYears.B20 : List Nat := [0, 0, 2, 0, 14, 31, 63, 127, 127, 255, 1023]
theorem trivetlaw14_CalendarYears.tab20 : rtab .any (opsOf Try.f5 20) = trivetlaw14_CalendarYears.T20 := by kernel_rfl
theorem trivetlaw14_CalendarYears.bits20 : waitsOk trivetlaw14_CalendarYears.T20.2 trivetlaw14_CalendarYears.B20 = true := by kernel_rfl
set_option maxHeartbeats 8000000 in
set_option maxRecDepth 100000 in
theorem trivetlaw14_CalendarYears.calls (k : Nat) (A0 : Option Addr) (c0 : Nat) (l0 : List (S48)) (a1 : Int) (r : Bool) (w : World) (hr0 : Kd.C k48 w A0 l0.length l0) (hc0 : l0.length ≤ c0) (h : trivetlaw14_CalendarYears.f k l0 a1 = some r) :
  Calls Try.prog 5 #[.slice A0 l0.length c0, .int .i64 a1] w fun e w' => e = .returned (.bool r) ∧ Below w.heap.size w w' := by
 have hu30 := Try.underlying30
 have hu26 := Try.underlying26
 have hu35 := Try.underlying35
 have HR0 := ka hr0
 have HC0 := ka hc0
 clear hr0 hc0
 have HB := ka (Below.refl w.heap.size w)
 have H : ((trivetlaw14_up.f k).bind fun t532 => (if (l0.length : Int) > 100 then (some t532) else ((calendar_Months.f k l0 a1).bind fun bt533 => (if bt533.2.isNone = true then ((trivetref04_Of_s.f a1).bind fun bt538 => (if bt538.2.2.2 = true then (trivetlaw14_CalendarYears.j0 k l0 t532 bt533.1 ((bt533.1.length : Int) != 12) bt538.1 bt538.2.1 bt538.2.2.1) else (trivetlaw14_CalendarYears.j0 k l0 t532 bt533.1 true bt538.1 bt538.2.1 bt538.2.2.1))) else (some t532))))) = some r := h
 clear h
 replace H := Option.bind_eq_some_iff.mp H
 obtain ⟨t532, A30, H⟩ := H
 replace H : (if (l0.length : Int) > 100 then (some t532) else ((calendar_Months.f k l0 a1).bind fun bt533 => (if bt533.2.isNone = true then ((trivetref04_Of_s.f a1).bind fun bt538 => (if bt538.2.2.2 = true then (trivetlaw14_CalendarYears.j0 k l0 t532 bt533.1 ((bt533.1.length : Int) != 12) bt538.1 bt538.2.1 bt538.2.2.1) else (trivetlaw14_CalendarYears.j0 k l0 t532 bt533.1 true bt538.1 bt538.2.1 bt538.2.2.1))) else (some t532)))) = some r := H
 have A3 := ka A30
 clear A30
 by_cases c4 : (l0.length : Int) > 100
 ·rw [if_pos c4] at H
  have c4b0 : decide (100 < (l0.length : Int)) = true := decide_eq_true c4
  have c4b1 : decide (100 < l0.length) = true := decide_eq_true (by omega)
  clear c4
  obtain rfl := Option.some.inj H
  go_enter Try.func5, Try.ntmps5
  go_wp2_with (first | ((with_reducible refine gate_callee (f := 9) rfl ?_); refine kg (some 21) rfl rfl Try.func9 (by kernel_rfl) rfl #[] rfl ?_; (with_reducible refine (trivetlaw14_up.calls k  t532 _ A3.out).mono ?_); rintro e w5 ⟨rfl, hb⟩; refine ⟨_, rfl, ?_⟩; replace HB := ka (below_step (kw HB.out) hb); (try clear hb); (try clear hb2); (try clear hk); (try clear hi)))
  go_ret
  exact ⟨by first | rfl | (simp [errW_none, errW_some] <;> rfl) | (simp [*, errW_none, errW_some] <;> rfl), by repeat (first | (with_reducible first | exact HB.out | apply kc1 | apply kc2 | apply kc3) | exact HB.out)⟩
 ·rw [if_neg c4] at H
  have c4b0 : decide (100 < (l0.length : Int)) = false := decide_eq_false c4
  have c4b1 : decide (100 < l0.length) = false := decide_eq_false (by omega)
  clear c4
  replace H := Option.bind_eq_some_iff.mp H
  obtain ⟨⟨t533, t534⟩, A60, H⟩ := H
  replace H : (if t534.isNone = true then ((trivetref04_Of_s.f a1).bind fun bt538 => (if bt538.2.2.2 = true then (trivetlaw14_CalendarYears.j0 k l0 t532 t533 ((t533.length : Int) != 12) bt538.1 bt538.2.1 bt538.2.2.1) else (trivetlaw14_CalendarYears.j0 k l0 t532 t533 true bt538.1 bt538.2.1 bt538.2.2.1))) else (some t532)) = some r := H
  have A6 := ka A60
  clear A60
  rcases t534 with _ | q537
  ·have H1 : ((trivetref04_Of_s.f a1).bind fun bt538 => (if bt538.2.2.2 = true then (trivetlaw14_CalendarYears.j0 k l0 t532 t533 ((t533.length : Int) != 12) bt538.1 bt538.2.1 bt538.2.2.1) else (trivetlaw14_CalendarYears.j0 k l0 t532 t533 true bt538.1 bt538.2.1 bt538.2.2.1))) = some r := by rw [if_pos (show (none : Option Int).isNone = true by rfl)] at H; exact H
   clear H
   have H := H1
   clear H1
   try simp only [errW_none, errW_some]
   replace H := Option.bind_eq_some_iff.mp H
   obtain ⟨⟨t538, t539, t540, t541⟩, A70, H⟩ := H
   replace H : (if t541 = true then (trivetlaw14_CalendarYears.j0 k l0 t532 t533 ((t533.length : Int) != 12) t538 t539 t540) else (trivetlaw14_CalendarYears.j0 k l0 t532 t533 true t538 t539 t540)) = some r := H
   have A7 := ka A70
   clear A70
   have HC8 := ka H
   clear H
   go_enter Try.func5, Try.ntmps5
   go_upto_region 8 with (first | ((with_reducible refine gate_callee (f := 9) rfl ?_); refine kg (some 21) rfl rfl Try.func9 (by kernel_rfl) rfl #[] rfl ?_; (with_reducible refine (trivetlaw14_up.calls k  t532 _ A3.out).mono ?_); rintro e w9 ⟨rfl, hb⟩; refine ⟨_, rfl, ?_⟩; replace HB := ka (below_step (kw HB.out) hb); (try clear hb); (try clear hb2); (try clear hk); (try clear hi)) | ((with_reducible refine gate_callee (f := 10) rfl ?_); refine kg (some 29) rfl rfl Try.func10 (by kernel_rfl) rfl #[.slice A0 l0.length c0, .int .i64 a1] rfl ?_; (with_reducible refine (calendar_Months.calls k _ _ l0 a1 t533 none _ ?side1 ?side2 A6.out).mono ?_); (case side1 => repeat (first | exact (Kd.C_below HR0.out HB.out) | (with_reducible refine Kd.C_alloc ?_ _) | (with_reducible refine Kd.C_drewN ?_ _) | (with_reducible refine Kd.C_drew ?_))); (case side2 => exact HC0.out); rintro e w10 ⟨v535, rfl, ho0, hb⟩; refine ⟨_, rfl, ?_⟩; have HO536 := ka (Kd.R_lower ho0 (below_size (kw HB.out))); replace HB := ka (below_step (kw HB.out) hb); (try clear hb); (try clear hb2); (try clear hk); (try clear hi); (try clear ho0); (try simp only [errW_none, errW_some])) | ((with_reducible refine gate_callee (f := 11) rfl ?_); refine kg (some 37) rfl rfl Try.func11 (by kernel_rfl) rfl #[.int .i64 a1] rfl ?_; (with_reducible refine (trivetref04_Of_s.calls a1 t538 t539 t540 t541 _ A7.out).mono ?_); rintro e w11 ⟨rfl, hb⟩; refine ⟨_, rfl, ?_⟩; replace HO536 := ka (Kd.R_below (kr HO536.out) hb); replace HB := ka (below_step (kw HB.out) hb); (try clear hb); (try clear hb2); (try clear hk); (try clear hi)) | ((with_reducible refine gate_dst (N := 8) rfl ?_); (try (refine gate_guard (by rfl) ?_; dsimp only)); refine kx (N := 8) (cs := #[.int .i64 0, .int .i64 0, .int .i64 0]) (t := 30) ?_; intro gb542 hg w12 hbox hb; have n0_ := ka (Kd.R_below (kr HO536.out) hb); have n1_ := ka (below_step (kw HB.out) hb); have n2_ := ka (hbox); have n3_ := ka ((by rw [hg]; exact (below_size (kw HB.out)) : w.heap.size ≤ gb542)); have n4_ := n3_; clear HO536; clear HB; have HO536 := n0_; have HB := n1_; have BK542 := n2_; have GW542 := n3_; have GE542 := n4_; clear n0_ n1_ n2_ n3_ n4_; clear hb hbox hg; have hcz13 := blkAll3 BK542.out))
   (try simp only [Act.put, List.setIfInBounds_toArray, List.set_cons_zero, List.set_cons_succ])
   go_cut [46] (fun v46 wc => ∃ (kq : Nat) (x46_7 : Bool), v46 = .bool x46_7 ∧ Aside0 (trivetlaw14_CalendarYears.j0 kq l0 t532 t533 x46_7 t538 t539 t540 = some r) ∧ Aside0 (kq ≤ k) ∧ Aside0 (Kd.R (Kd.int .i64) 2 wc w.heap.size (fun _ => True) v535 t533) ∧ Aside0 (wc.heap[gb542]? = some (.cells #[.int .i64 t538, .int .i64 t539, .int .i64 t540] 30 (0, 0))) ∧ Aside0 (Below w.heap.size w wc))
   case first =>
    have H := HC8.out
    clear HC8
    by_cases c14 : t541 = true
    ·subst c14
     have H1 : (trivetlaw14_CalendarYears.j0 k l0 t532 t533 ((t533.length : Int) != 12) t538 t539 t540) = some r := by rw [if_pos rfl] at H; exact H
     clear H
     have H := H1
     clear H1
     have H' := ka H
     clear H
     obtain ⟨Ao15, co15, eo15⟩ := Kd.R_slice HO536.out
     subst eo15
     go_wp2
     go_meet
     case rel => exact ⟨_, (((t533.length : Int) != 12)), (by first | rfl | (simp; done) | (simp [*]; done)), H', ⟨by first | omega | exact Nat.le_refl _⟩, ⟨kr (Kd.R_mono (Kd.R_far (p := ⟨gb542, 2, none⟩) (Kd.R_far (p := ⟨gb542, 1, none⟩) (Kd.R_far (p := ⟨gb542, 0, none⟩) (Kd.R_types HO536.out BK542.out (by decide)) (fun _ hk => hk.2) (.int .i64 t538)) (fun _ hk => hk.2) (.int .i64 t539)) (fun _ hk => hk.2) (.int .i64 t540)) (fun _ hk => trivial))⟩, ⟨by (with_reducible repeat (first | apply kb1 | apply kb2 | apply kb3 | apply blkPut3_2 | apply blkPut3_1 | apply blkPut3_0)); exact BK542.out⟩, ⟨by repeat (first | (with_reducible first | exact HB.out | apply kc1 | apply kc2 | apply kc3 | refine kc4 ?_ GE542.out) | exact HB.out)⟩⟩
    ·replace c14 := Bool.eq_false_iff.mpr c14
     subst c14
     have H1 : (trivetlaw14_CalendarYears.j0 k l0 t532 t533 true t538 t539 t540) = some r := by rw [if_neg (show ¬ (false = true) by decide)] at H; exact H
     clear H
     have H := H1
     clear H1
     have H' := ka H
     clear H
     go_wp2
     go_meet
     case rel => exact ⟨_, (true), (by first | rfl | (simp; done) | (simp [*]; done)), H', ⟨by first | omega | exact Nat.le_refl _⟩, ⟨kr (Kd.R_mono (Kd.R_far (p := ⟨gb542, 2, none⟩) (Kd.R_far (p := ⟨gb542, 1, none⟩) (Kd.R_far (p := ⟨gb542, 0, none⟩) (Kd.R_types HO536.out BK542.out (by decide)) (fun _ hk => hk.2) (.int .i64 t538)) (fun _ hk => hk.2) (.int .i64 t539)) (fun _ hk => hk.2) (.int .i64 t540)) (fun _ hk => trivial))⟩, ⟨by (with_reducible repeat (first | apply kb1 | apply kb2 | apply kb3 | apply blkPut3_2 | apply blkPut3_1 | apply blkPut3_0)); exact BK542.out⟩, ⟨by repeat (first | (with_reducible first | exact HB.out | apply kc1 | apply kc2 | apply kc3 | refine kc4 ?_ GE542.out) | exact HB.out)⟩⟩
   case rest =>
    clear HC8
    try clear c1
    try clear p2
    try clear c4
    try clear c4b0
    try clear c4b1
    try clear c5
    try clear q5
    try clear c9
    try clear c10
    try clear c11
    try clear c14
    try clear hcz13
    try clear q537
    obtain ⟨kq, x46_7, rfl, HA, HJ7, HO_6, BK542, HB⟩ := hcut
    cases kq with
    | zero => exact absurd HA.out (by simp [trivetlaw14_CalendarYears.j0])
    | succ kj7 =>
     have H := HA.out
     clear HA
     simp only [trivetlaw14_CalendarYears.j0] at H
     by_cases c16 : x46_7 = true
     ·subst c16
      have H1 : (none) = some r := by rw [if_pos rfl] at H; exact H
      clear H
      have H := H1
      clear H1
      exact absurd H (by simp)
     ·replace c16 := Bool.eq_false_iff.mpr c16
      subst c16
      have H1 : (trivetlaw14_CalendarYears.l0 kj7 l0 t532 t533 0 0 t538 t539 t540) = some r := by rw [if_neg (show ¬ (false = true) by decide)] at H; exact H
      clear H
      have H := H1
      clear H1
      have H' := ka H
      clear H
      go_wp2
      (try simp only [Act.put, List.setIfInBounds_toArray, List.set_cons_zero, List.set_cons_succ])
      go_loopg [10, 11] kj7 (fun kq v10 v11 w' => ∃ (x10_2 : Int) (x11_2 : Int), v10 = .int .i64 x10_2 ∧ v11 = .int .i64 x11_2 ∧ Aside0 (trivetlaw14_CalendarYears.l0 kq l0 t532 t533 x10_2 x11_2 t538 t539 t540 = some r) ∧ Aside0 (kq ≤ kj7) ∧ Aside0 (Kd.R (Kd.int .i64) 2 w' w.heap.size (fun _ => True) v535 t533) ∧ Aside0 (w'.heap[gb542]? = some (.cells #[.int .i64 t538, .int .i64 t539, .int .i64 t540] 30 (0, 0))) ∧ Aside0 (Below w.heap.size w w'))
      case atStart => exact ⟨(0), (0), (by first | rfl | (simp; done) | (simp [*]; done)), (by first | rfl | (simp; done) | (simp [*]; done)), H', ⟨Nat.le_refl _⟩, ⟨kr HO_6.out⟩, ⟨by (with_reducible repeat (first | apply kb1 | apply kb2 | apply kb3)); exact BK542.out⟩, ⟨by repeat (first | (with_reducible first | exact HB.out | apply kc1 | apply kc2 | apply kc3 | refine kc4 ?_ GE542.out) | exact HB.out)⟩⟩
      case round =>
       clear H'
       try clear c1
       try clear p2
       try clear c4
       try clear c4b0
       try clear c4b1
       try clear c5
       try clear q5
       try clear c9
       try clear c10
       try clear c11
       try clear c14
       try clear c16
       try clear hcz13
       try clear p2
       try clear q5
       try clear q537
       obtain ⟨x10_2, x11_2, rfl, rfl, HA, HK2, HO_6, BK542, HB⟩ := hrel
       cases gk with
       | zero => exact absurd HA.out (by simp [trivetlaw14_CalendarYears.l0])
       | succ k2 =>
        have H := HA.out
        clear HA
        simp only [trivetlaw14_CalendarYears.l0] at H
        by_cases c17 : x11_2 < (l0.length : Int)
        ·rw [if_pos c17] at H
         have c17b0 : decide (x11_2 < (l0.length : Int)) = true := decide_eq_true c17
         clear c17
         by_cases c18 : 0 ≤ x11_2
         ·rw [if_pos c18] at H
          have c18b0 : decide (0 ≤ x11_2) = true := decide_eq_true c18
          clear c18
          have H' := ka H
          clear H
          have p543 : 0 ≤ (x11_2 : Int) := of_decide_eq_true (by first | (with_reducible assumption) | assumption)
          have q543 : x11_2 < (l0.length : Int) := of_decide_eq_true (by first | (with_reducible assumption) | assumption)
          obtain ⟨ad543, e543, hx543_0, hx543_1, hx543_2⟩ := at_T48 HR0.out x11_2 p543 q543
          cases e543
          replace hx543_0 := (HB.out.cell (World.block_lt_of_cell? w _ hx543_0)).trans hx543_0
          replace hx543_1 := (HB.out.cell (World.block_lt_of_cell? w _ hx543_1)).trans hx543_1
          replace hx543_2 := (HB.out.cell (World.block_lt_of_cell? w _ hx543_2)).trans hx543_2
          replace p543 := eq_true p543
          replace q543 := eq_true q543
          go_wp2
          go_roundg k2
          case measure => have := HJ7.out; have := HK2.out; omega
          case rel => exact ⟨(wrap64 (x10_2 + ((rd_T48 l0 x11_2).f2))), (wrap64 (x11_2 + 1)), (by first | rfl | (simp; done) | (simp [*]; done)), (by first | rfl | (simp; done) | (simp [*]; done)), H', ⟨by have := HJ7.out; have := HK2.out; omega⟩, ⟨kr HO_6.out⟩, ⟨by (with_reducible repeat (first | apply kb1 | apply kb2 | apply kb3)); exact BK542.out⟩, ⟨by repeat (first | (with_reducible first | exact HB.out | apply kc1 | apply kc2 | apply kc3 | refine kc4 ?_ GE542.out) | exact HB.out)⟩⟩
         ·rw [if_neg c18] at H
          exact absurd H (by simp)
        ·rw [if_neg c17] at H
         have c17b0 : decide (x11_2 < (l0.length : Int)) = false := decide_eq_false c17
         clear c17
         have H' := ka H
         clear H
         go_wp2
         (try simp only [Act.put, List.setIfInBounds_toArray, List.set_cons_zero, List.set_cons_succ])
         go_loopg [10, 12] k2 (fun kq v10 v12 w' => ∃ (x10_3 : Int) (x12_3 : Int), v10 = .int .i64 x10_3 ∧ v12 = .int .i64 x12_3 ∧ Aside0 (trivetlaw14_CalendarYears.l1 kq l0 t532 t533 x10_3 x12_3 t538 t539 t540 = some r) ∧ Aside0 (kq ≤ k2) ∧ Aside0 (Kd.R (Kd.int .i64) 2 w' w.heap.size (fun _ => True) v535 t533) ∧ Aside0 (w'.heap[gb542]? = some (.cells #[.int .i64 t538, .int .i64 t539, .int .i64 t540] 30 (0, 0))) ∧ Aside0 (Below w.heap.size w w'))
         case atStart => exact ⟨(x10_2), (0), (by first | rfl | (simp; done) | (simp [*]; done)), (by first | rfl | (simp; done) | (simp [*]; done)), H', ⟨Nat.le_refl _⟩, ⟨kr HO_6.out⟩, ⟨by (with_reducible repeat (first | apply kb1 | apply kb2 | apply kb3)); exact BK542.out⟩, ⟨by repeat (first | (with_reducible first | exact HB.out | apply kc1 | apply kc2 | apply kc3 | refine kc4 ?_ GE542.out) | exact HB.out)⟩⟩
         case round =>
          clear H'
          try clear c1
          try clear p2
          try clear c4
          try clear c4b0
          try clear c4b1
          try clear c5
          try clear p5
          try clear q5
          try clear hx5
          try clear p6
          try clear c9
          try clear c10
          try clear c11
          try clear c14
          try clear c16
          try clear c17
          try clear c17b0
          try clear c18
          try clear c18b0
          try clear hcz13
          try clear hx543_0
          try clear hx543_1
          try clear hx543_2
          try clear p2
          try clear p543
          try clear q5
          try clear q537
          try clear q543
          obtain ⟨x10_3, x12_3, rfl, rfl, HA, HK3, HO_6, BK542, HB⟩ := hrel
          cases gk with
          | zero => exact absurd HA.out (by simp [trivetlaw14_CalendarYears.l1])
          | succ k3 =>
           have H := HA.out
           clear HA
           simp only [trivetlaw14_CalendarYears.l1] at H
           by_cases c19 : x12_3 < 12
           ·rw [if_pos c19] at H
            have c19b0 : decide (x12_3 < 12) = true := decide_eq_true c19
            clear c19
            replace H := Option.bind_eq_some_iff.mp H
            obtain ⟨⟨t544, t545, t546, t547⟩, A200, H⟩ := H
            replace H : ((trivetref04_Months_s.f t538 t539 t540 (wrap64 (x12_3 + 1))).bind fun bt549 => ((trivetref04_Number_s.f t544 t545 t546).bind fun t554 => ((trivetref04_Number_s.f bt549.1 bt549.2.1 bt549.2.2.1).bind fun t555 => ((calendar_Outs.f k3 l0 t554 t555).bind fun bt556 => (if bt556.2.isNone = true then (trivetlaw14_CalendarYears.l2 k3 l0 t532 t533 x10_3 x12_3 bt556.1 0 0 t538 t539 t540) else (none)))))) = some r := H
            have A20 := ka A200
            clear A200
            replace H := Option.bind_eq_some_iff.mp H
            obtain ⟨⟨t549, t550, t551, t552⟩, A210, H⟩ := H
            replace H : ((trivetref04_Number_s.f t544 t545 t546).bind fun t554 => ((trivetref04_Number_s.f t549 t550 t551).bind fun t555 => ((calendar_Outs.f k3 l0 t554 t555).bind fun bt556 => (if bt556.2.isNone = true then (trivetlaw14_CalendarYears.l2 k3 l0 t532 t533 x10_3 x12_3 bt556.1 0 0 t538 t539 t540) else (none))))) = some r := H
            have A21 := ka A210
            clear A210
            replace H := Option.bind_eq_some_iff.mp H
            obtain ⟨t554, A220, H⟩ := H
            replace H : ((trivetref04_Number_s.f t549 t550 t551).bind fun t555 => ((calendar_Outs.f k3 l0 t554 t555).bind fun bt556 => (if bt556.2.isNone = true then (trivetlaw14_CalendarYears.l2 k3 l0 t532 t533 x10_3 x12_3 bt556.1 0 0 t538 t539 t540) else (none)))) = some r := H
            have A22 := ka A220
            clear A220
            replace H := Option.bind_eq_some_iff.mp H
            obtain ⟨t555, A230, H⟩ := H
            replace H : ((calendar_Outs.f k3 l0 t554 t555).bind fun bt556 => (if bt556.2.isNone = true then (trivetlaw14_CalendarYears.l2 k3 l0 t532 t533 x10_3 x12_3 bt556.1 0 0 t538 t539 t540) else (none))) = some r := H
            have A23 := ka A230
            clear A230
            replace H := Option.bind_eq_some_iff.mp H
            obtain ⟨⟨t556, t557⟩, A240, H⟩ := H
            replace H : (if t557.isNone = true then (trivetlaw14_CalendarYears.l2 k3 l0 t532 t533 x10_3 x12_3 t556 0 0 t538 t539 t540) else (none)) = some r := H
            have A24 := ka A240
            clear A240
            rcases t557 with _ | q560
            ·have H1 : (trivetlaw14_CalendarYears.l2 k3 l0 t532 t533 x10_3 x12_3 t556 0 0 t538 t539 t540) = some r := by rw [if_pos (show (none : Option Int).isNone = true by rfl)] at H; exact H
             clear H
             have H := H1
             clear H1
             try simp only [errW_none, errW_some]
             have H' := ka H
             clear H
             have hcz25 := blkAll3 BK542.out
             try go_wp2_with (first | ((with_reducible refine gate_callee (f := 13) rfl ?_); refine kg (some 67) rfl rfl Try.func13 (by kernel_rfl) rfl #[.agg #[.int .i64 t538, .int .i64 t539, .int .i64 t540], .int .i64 x12_3] rfl ?_; (with_reducible refine (trivetref04_Months_s.calls t538 t539 t540 x12_3 t544 t545 t546 t547 _ A20.out).mono ?_); rintro e w26 ⟨rfl, hb⟩; refine ⟨_, rfl, ?_⟩; replace HO_6 := ka (Kd.R_below (kr HO_6.out) hb); replace BK542 := kbb BK542 hb; replace HB := ka (below_step (kw HB.out) hb); (try clear hb); (try clear hb2); (try clear hk); (try clear hi)) | ((with_reducible refine gate_dst (N := 13) rfl ?_); (try (refine gate_guard (by rfl) ?_; dsimp only)); refine kx (N := 13) (cs := #[.int .i64 0, .int .i64 0, .int .i64 0]) (t := 30) ?_; intro gb548 hg w27 hbox hb; have n0_ := ka (Kd.R_below (kr HO_6.out) hb); have n1_ := ka (blk_below (g := gb542) (kz BK542.out) hb); have n2_ := ka (below_step (kw HB.out) hb); have n3_ := ka (hbox); have n4_ := ka ((by rw [hg]; exact (below_size (kw HB.out)) : w.heap.size ≤ gb548)); have n5_ := n4_; have n6_ := ka ((by rw [hg]; exact Nat.ne_of_lt (blk_lt (g := gb542) (kz BK542.out)) : gb542 ≠ gb548)); have n7_ := ka n6_.out.symm; clear HO_6; clear BK542; clear HB; have HO_6 := n0_; have BK542 := n1_; have HB := n2_; have BK548 := n3_; have GW548 := n4_; have GE548 := n5_; have NB542_548 := n6_; have NB548_542 := n7_; clear n0_ n1_ n2_ n3_ n4_ n5_ n6_ n7_; clear hb hbox hg; have hnb28 := NB548_542.out; have hnc28 := NB542_548.out; have hcz29 := blkAll3 BK548.out; have hcz30 := blkAll3 BK542.out) | ((with_reducible refine gate_callee (f := 13) rfl ?_); refine kg (some 74) rfl rfl Try.func13 (by kernel_rfl) rfl #[.agg #[.int .i64 t538, .int .i64 t539, .int .i64 t540], .int .i64 (wrap64 (x12_3 + 1))] rfl ?_; (with_reducible refine (trivetref04_Months_s.calls t538 t539 t540 (wrap64 (x12_3 + 1)) t549 t550 t551 t552 _ A21.out).mono ?_); rintro e w31 ⟨rfl, hb⟩; refine ⟨_, rfl, ?_⟩; replace HO_6 := ka (Kd.R_below (kr ((Kd.R_mono (Kd.R_far (p := ⟨gb548, 2, none⟩) (Kd.R_far (p := ⟨gb548, 1, none⟩) (Kd.R_far (p := ⟨gb548, 0, none⟩) (Kd.R_types HO_6.out BK548.out (by decide)) (fun _ hk => hk.2) (.int .i64 t544)) (fun _ hk => hk.2) (.int .i64 t545)) (fun _ hk => hk.2) (.int .i64 t546)) (fun _ h_ => h_.1)))) hb); replace BK542 := ka (blk_below (g := gb542) (o := .cells #[.int .i64 t538, .int .i64 t539, .int .i64 t540] 30 (0, 0)) (by (with_reducible repeat (first | apply kb1 | apply kb2 | apply kb3 | refine kb4 ?_ NB542_548.out _)); exact BK542.out) hb); replace BK548 := ka (blk_below (g := gb548) (o := .cells #[.int .i64 t544, .int .i64 t545, .int .i64 t546] 30 (0, 0)) (by (with_reducible repeat (first | apply kb1 | apply kb2 | apply kb3 | apply blkPut3_2 | apply blkPut3_1 | apply blkPut3_0)); exact BK548.out) hb); replace HB := ka (below_step (kw HB.out) hb); (try clear hb); (try clear hb2); (try clear hk); (try clear hi)) | ((with_reducible refine gate_dst (N := 15) rfl ?_); (try (refine gate_guard (by rfl) ?_; dsimp only)); refine kx (N := 15) (cs := #[.int .i64 0, .int .i64 0, .int .i64 0]) (t := 30) ?_; intro gb553 hg w32 hbox hb; have n0_ := ka (Kd.R_below (kr HO_6.out) hb); have n1_ := ka (blk_below (g := gb542) (kz BK542.out) hb); have n2_ := ka (blk_below (g := gb548) (kz BK548.out) hb); have n3_ := ka (below_step (kw HB.out) hb); have n4_ := ka (hbox); have n5_ := ka ((by rw [hg]; exact (below_size (kw HB.out)) : w.heap.size ≤ gb553)); have n6_ := n5_; have n7_ := ka ((by rw [hg]; exact Nat.ne_of_lt (blk_lt (g := gb542) (kz BK542.out)) : gb542 ≠ gb553)); have n8_ := ka n7_.out.symm; have n9_ := ka ((by rw [hg]; exact Nat.ne_of_lt (blk_lt (g := gb548) (kz BK548.out)) : gb548 ≠ gb553)); have n10_ := ka n9_.out.symm; clear HO_6; clear BK542; clear BK548; clear HB; have HO_6 := n0_; have BK542 := n1_; have BK548 := n2_; have HB := n3_; have BK553 := n4_; have GW553 := n5_; have GE553 := n6_; have NB542_553 := n7_; have NB553_542 := n8_; have NB548_553 := n9_; have NB553_548 := n10_; clear n0_ n1_ n2_ n3_ n4_ n5_ n6_ n7_ n8_ n9_ n10_; clear hb hbox hg; have hnb33 := NB553_542.out; have hnc33 := NB542_553.out; have hnb34 := NB553_548.out; have hnc34 := NB548_553.out; have hcz35 := blkAll3 BK553.out))
             have n0_ : Aside0 (Kd.R (Kd.int .i64) 2 (((w32.setCell ⟨gb553, 0, none⟩ (.int .i64 t549)).setCell ⟨gb553, 1, none⟩ (.int .i64 t550)).setCell ⟨gb553, 2, none⟩ (.int .i64 t551)) w.heap.size (fun _ => True) v535 t533) := ⟨kr (Kd.R_mono (Kd.R_far (p := ⟨gb553, 2, none⟩) (Kd.R_far (p := ⟨gb553, 1, none⟩) (Kd.R_far (p := ⟨gb553, 0, none⟩) (Kd.R_types HO_6.out BK553.out (by decide)) (fun _ hk => hk.2) (.int .i64 t549)) (fun _ hk => hk.2) (.int .i64 t550)) (fun _ hk => hk.2) (.int .i64 t551)) (fun _ hk => trivial))⟩
             have n1_ : Aside0 ((((w32.setCell ⟨gb553, 0, none⟩ (.int .i64 t549)).setCell ⟨gb553, 1, none⟩ (.int .i64 t550)).setCell ⟨gb553, 2, none⟩ (.int .i64 t551)).heap[gb542]? = some (.cells #[.int .i64 t538, .int .i64 t539, .int .i64 t540] 30 (0, 0))) := ⟨by (with_reducible repeat (first | apply kb1 | apply kb2 | apply kb3 | refine kb4 ?_ NB542_553.out _)); exact BK542.out⟩
             have n2_ : Aside0 ((((w32.setCell ⟨gb553, 0, none⟩ (.int .i64 t549)).setCell ⟨gb553, 1, none⟩ (.int .i64 t550)).setCell ⟨gb553, 2, none⟩ (.int .i64 t551)).heap[gb548]? = some (.cells #[.int .i64 t544, .int .i64 t545, .int .i64 t546] 30 (0, 0))) := ⟨by (with_reducible repeat (first | apply kb1 | apply kb2 | apply kb3 | refine kb4 ?_ NB548_553.out _)); exact BK548.out⟩
             have n3_ : Aside0 ((((w32.setCell ⟨gb553, 0, none⟩ (.int .i64 t549)).setCell ⟨gb553, 1, none⟩ (.int .i64 t550)).setCell ⟨gb553, 2, none⟩ (.int .i64 t551)).heap[gb553]? = some (.cells #[.int .i64 t549, .int .i64 t550, .int .i64 t551] 30 (0, 0))) := ⟨by (with_reducible repeat (first | apply kb1 | apply kb2 | apply kb3 | apply blkPut3_2 | apply blkPut3_1 | apply blkPut3_0)); exact BK553.out⟩
             have n4_ : Aside0 (Below w.heap.size w (((w32.setCell ⟨gb553, 0, none⟩ (.int .i64 t549)).setCell ⟨gb553, 1, none⟩ (.int .i64 t550)).setCell ⟨gb553, 2, none⟩ (.int .i64 t551))) := ⟨by repeat (first | (with_reducible first | exact HB.out | apply kc1 | apply kc2 | apply kc3 | refine kc4 ?_ GE542.out | refine kc4 ?_ GE548.out | refine kc4 ?_ GE553.out) | exact HB.out)⟩
             (try clear HO_6)
             (try clear BK542)
             (try clear BK548)
             (try clear BK553)
             (try clear HB)
             generalize (((w32.setCell ⟨gb553, 0, none⟩ (.int .i64 t549)).setCell ⟨gb553, 1, none⟩ (.int .i64 t550)).setCell ⟨gb553, 2, none⟩ (.int .i64 t551)) = w36 at n0_ n1_ n2_ n3_ n4_ ⊢
             have HO_6 := n0_
             have BK542 := n1_
             have BK548 := n2_
             have BK553 := n3_
             have HB := n4_
             clear n0_ n1_ n2_ n3_ n4_
             replace HO_6 := ka (Kd.R_drew HO_6.out)
             replace BK542 := ka (blk_drew BK542.out)
             replace BK548 := ka (blk_drew BK548.out)
             replace BK553 := ka (blk_drew BK553.out)
             replace HB := ka (below_drew1 HB.out)
             refine start_ (n := 11) (S := fun w' => w'.cell? ⟨gb548, 0, none⟩ = some (.int .i64 t544) ∧ w'.cell? ⟨gb548, 1, none⟩ = some (.int .i64 t545) ∧ w'.cell? ⟨gb548, 2, none⟩ = some (.int .i64 t546) ∧ w'.cell? ⟨gb553, 0, none⟩ = some (.int .i64 t549) ∧ w'.cell? ⟨gb553, 1, none⟩ = some (.int .i64 t550) ∧ w'.cell? ⟨gb553, 2, none⟩ = some (.int .i64 t551)) (ds := []) #[false, false, false, false, false, false, false, false, false, false, false] (by kernel_rfl) rfl rfl ⟨(blk_cell BK548.out 0).trans rfl, (blk_cell BK548.out 1).trans rfl, (blk_cell BK548.out 2).trans rfl, (blk_cell BK553.out 0).trans rfl, (blk_cell BK553.out 1).trans rfl, (blk_cell BK553.out 2).trans rfl⟩ (fun hHeld => ?_); refine with_tabW trivetlaw14_CalendarYears.tab20 trivetlaw14_CalendarYears.bits20 (fun HT_ HW_ => ?_)
             generalize w36.drew = w37 at HO_6 BK542 BK548 BK553 HB hHeld ⊢
             refine pure_ (i := 0) (N := some 78) (v := ?_) (a' := ?_) #[true, false, false, false, false, false, false, false, false, false, false] rfl rfl (any_of HT_.out (by kernel_rfl)) (fun _ _ _ h => h) (Or.inl ⟨by rfl, ?_⟩) ?_ ?_
             rotate_left
             ·intro w'
              go_simp
              with_reducible rfl
             rotate_left
             ·simp only [Act.put, List.setIfInBounds_toArray, List.set_cons_zero, List.set_cons_succ, i64_w, i32_w]
              rfl
             refine take_ (i := 1) (N := some 79) (v := ?_) (a' := ?_) #[true, true, false, false, false, false, false, false, false, false, false] rfl rfl (take_ofW HT_.out HW_.out (by kernel_rfl)) (fun _ _ _ h => h) (Or.inl ⟨by rfl, ?_⟩) hHeld ?_ ?_
             rotate_left
             ·rintro w' ⟨s0, s1, s2, s3, s4, s5⟩
              go_simp
              with_reducible rfl
             rotate_left
             ·simp only [Act.put, List.setIfInBounds_toArray, List.set_cons_zero, List.set_cons_succ, i64_w, i32_w]
              rfl
             refine take_ (i := 3) (N := some 81) (v := ?_) (a' := ?_) #[true, true, false, true, false, false, false, false, false, false, false] rfl rfl (take_ofW HT_.out HW_.out (by kernel_rfl)) (fun _ _ _ h => h) (Or.inl ⟨by rfl, ?_⟩) hHeld ?_ ?_
             rotate_left
             ·rintro w' ⟨s0, s1, s2, s3, s4, s5⟩
              go_simp
              with_reducible rfl
             rotate_left
             ·simp only [Act.put, List.setIfInBounds_toArray, List.set_cons_zero, List.set_cons_succ, i64_w, i32_w]
              rfl
             refine one_ (i := 2) (N := some 80) #[true, true, true, true, false, false, false, false, false, false, false] rfl rfl (one_of HT_.out (by kernel_rfl)) (by decide) (fun K hK => ?_)
             refine goes_ Try.func19 (by kernel_rfl) rfl #[.agg #[.int .i64 t544, .int .i64 t545, .int .i64 t546]] (by rfl) rfl rfl (by (try simp only [List.map_toArray, List.map_cons, List.map_nil]); first | done | rfl | (simp only [List.length_drop, List.length_take]; rfl)) ?_
             with_reducible refine (trivetref04_Number_s.calls t544 t545 t546 t554 _ A22.out).mono ?_
             rintro e w38 ⟨rfl, hb⟩
             refine ⟨_, rfl, ?_⟩
             replace HO_6 := ka (Kd.R_below (kr HO_6.out) hb)
             replace BK542 := kbb BK542 hb
             replace BK548 := kbb BK548 hb
             replace BK553 := kbb BK553 hb
             replace HB := ka (below_step (kw HB.out) hb)
             (try clear hb)
             (try clear hb2)
             (try clear hk)
             (try clear hi)
             refine hK.out _ _ ⟨(blk_cell BK548.out 0).trans rfl, (blk_cell BK548.out 1).trans rfl, (blk_cell BK548.out 2).trans rfl, (blk_cell BK553.out 0).trans rfl, (blk_cell BK553.out 1).trans rfl, (blk_cell BK553.out 2).trans rfl⟩ (fun hHeld => ?_)
             clear hK K
             refine norm_ (a' := ?_) ?_ ?_
             rotate_left
             ·show Act.put _ (some 80) _ = _
              simp only [Act.put, List.setIfInBounds_toArray, List.set_cons_zero, List.set_cons_succ, i64_w, i32_w]
              rfl
             refine one_ (i := 4) (N := some 82) #[true, true, true, true, true, false, false, false, false, false, false] rfl rfl (one_of HT_.out (by kernel_rfl)) (by decide) (fun K hK => ?_)
             refine goes_ Try.func19 (by kernel_rfl) rfl #[.agg #[.int .i64 t549, .int .i64 t550, .int .i64 t551]] (by rfl) rfl rfl (by (try simp only [List.map_toArray, List.map_cons, List.map_nil]); first | done | rfl | (simp only [List.length_drop, List.length_take]; rfl)) ?_
             with_reducible refine (trivetref04_Number_s.calls t549 t550 t551 t555 _ A23.out).mono ?_
             rintro e w39 ⟨rfl, hb⟩
             refine ⟨_, rfl, ?_⟩
             replace HO_6 := ka (Kd.R_below (kr HO_6.out) hb)
             replace BK542 := kbb BK542 hb
             replace BK548 := kbb BK548 hb
             replace BK553 := kbb BK553 hb
             replace HB := ka (below_step (kw HB.out) hb)
             (try clear hb)
             (try clear hb2)
             (try clear hk)
             (try clear hi)
             refine hK.out _ _ ⟨(blk_cell BK548.out 0).trans rfl, (blk_cell BK548.out 1).trans rfl, (blk_cell BK548.out 2).trans rfl, (blk_cell BK553.out 0).trans rfl, (blk_cell BK553.out 1).trans rfl, (blk_cell BK553.out 2).trans rfl⟩ (fun hHeld => ?_)
             clear hK K
             refine norm_ (a' := ?_) ?_ ?_
             rotate_left
             ·show Act.put _ (some 82) _ = _
              simp only [Act.put, List.setIfInBounds_toArray, List.set_cons_zero, List.set_cons_succ, i64_w, i32_w]
              rfl
             refine one_ (i := 5) (N := some 83) #[true, true, true, true, true, true, false, false, false, false, false] rfl rfl (one_of HT_.out (by kernel_rfl)) (by decide) (fun K hK => ?_)
             refine goes_ Try.func17 (by kernel_rfl) rfl #[.slice A0 l0.length c0, .int .i64 t554, .int .i64 t555] (by rfl) rfl rfl (by (try simp only [List.map_toArray, List.map_cons, List.map_nil]); first | done | rfl | (simp only [List.length_drop, List.length_take]; rfl)) ?_
             with_reducible refine (calendar_Outs.calls k3 _ _ l0 t554 t555 t556 none _ ?side1 ?side2 A24.out).mono ?_
             (case side1 => repeat (first | exact (Kd.C_below HR0.out HB.out) | (with_reducible refine Kd.C_alloc ?_ _) | (with_reducible refine Kd.C_drewN ?_ _) | (with_reducible refine Kd.C_drew ?_)))
             (case side2 => exact HC0.out)
             rintro e w40 ⟨v558, rfl, ho0, hb⟩
             refine ⟨_, rfl, ?_⟩
             replace HO_6 := ka (Kd.R_below (kr HO_6.out) hb)
             have HO559 := ka (Kd.R_lower ho0 (below_size (kw HB.out)))
             replace BK542 := kbb BK542 hb
             replace BK548 := kbb BK548 hb
             replace BK553 := kbb BK553 hb
             replace HB := ka (below_step (kw HB.out) hb)
             (try clear hb)
             (try clear hb2)
             (try clear hk)
             (try clear hi)
             (try clear ho0)
             (try simp only [errW_none, errW_some])
             refine hK.out _ _ ⟨(blk_cell BK548.out 0).trans rfl, (blk_cell BK548.out 1).trans rfl, (blk_cell BK548.out 2).trans rfl, (blk_cell BK553.out 0).trans rfl, (blk_cell BK553.out 1).trans rfl, (blk_cell BK553.out 2).trans rfl⟩ (fun hHeld => ?_)
             clear hK K
             refine norm_ (a' := ?_) ?_ ?_
             rotate_left
             ·show Act.put _ (some 83) _ = _
              simp only [Act.put, List.setIfInBounds_toArray, List.set_cons_zero, List.set_cons_succ, i64_w, i32_w]
              rfl
             refine pure_ (i := 6) (N := some 77) (v := ?_) (a' := ?_) #[true, true, true, true, true, true, true, false, false, false, false] rfl rfl (any_of HT_.out (by kernel_rfl)) (fun _ _ _ h => h) (Or.inl ⟨by rfl, ?_⟩) ?_ ?_
             rotate_left
             ·intro w'
              go_simp
              with_reducible rfl
             rotate_left
             ·simp only [Act.put, List.setIfInBounds_toArray, List.set_cons_zero, List.set_cons_succ, i64_w, i32_w]
              rfl
             refine pure_ (i := 7) (N := some 84) (v := ?_) (a' := ?_) #[true, true, true, true, true, true, true, true, false, false, false] rfl rfl (any_of HT_.out (by kernel_rfl)) (fun _ _ _ h => h) (Or.inl ⟨by rfl, ?_⟩) ?_ ?_
             rotate_left
             ·intro w'
              go_simp
              with_reducible rfl
             rotate_left
             ·simp only [Act.put, List.setIfInBounds_toArray, List.set_cons_zero, List.set_cons_succ, i64_w, i32_w]
              rfl
             refine pure_ (i := 8) (N := some 85) (v := ?_) (a' := ?_) #[true, true, true, true, true, true, true, true, true, false, false] rfl rfl (any_of HT_.out (by kernel_rfl)) (fun _ _ _ h => h) (Or.inl ⟨by rfl, ?_⟩) ?_ ?_
             rotate_left
             ·intro w'
              go_simp
              with_reducible rfl
             rotate_left
             ·simp only [Act.put, List.setIfInBounds_toArray, List.set_cons_zero, List.set_cons_succ, i64_w, i32_w]
              rfl
             refine pure_ (i := 9) (N := some 17) (v := ?_) (a' := ?_) #[true, true, true, true, true, true, true, true, true, true, false] rfl rfl (any_of HT_.out (by kernel_rfl)) (fun _ _ _ h => h) (Or.inl ⟨by rfl, ?_⟩) ?_ ?_
             rotate_left
             ·intro w'
              go_simp
              with_reducible rfl
             rotate_left
             ·simp only [Act.put, List.setIfInBounds_toArray, List.set_cons_zero, List.set_cons_succ, i64_w, i32_w]
              rfl
             refine pure_ (i := 10) (N := some 18) (v := ?_) (a' := ?_) #[true, true, true, true, true, true, true, true, true, true, true] rfl rfl (any_of HT_.out (by kernel_rfl)) (fun _ _ _ h => h) (Or.inl ⟨by rfl, ?_⟩) ?_ ?_
             rotate_left
             ·intro w'
              go_simp
              with_reducible rfl
             rotate_left
             ·simp only [Act.put, List.setIfInBounds_toArray, List.set_cons_zero, List.set_cons_succ, i64_w, i32_w]
              rfl
             refine done_ (done_of HT_.out (by kernel_rfl)) ?_
             try go_wp2
             (try simp only [Act.put, List.setIfInBounds_toArray, List.set_cons_zero, List.set_cons_succ])
             go_loopg [19, 20] k3 (fun kq v19 v20 w' => ∃ (x19_4 : Int) (x20_4 : Int), v19 = .int .i64 x19_4 ∧ v20 = .int .i64 x20_4 ∧ Aside0 (trivetlaw14_CalendarYears.l2 kq l0 t532 t533 x10_3 x12_3 t556 x19_4 x20_4 t538 t539 t540 = some r) ∧ Aside0 (kq ≤ k3) ∧ Aside0 (Kd.R (Kd.int .i64) 2 w' w.heap.size (fun _ => True) v535 t533) ∧ Aside0 (Kd.R k45 45 w' w.heap.size (fun _ => True) v558 t556) ∧ Aside0 (w'.heap[gb542]? = some (.cells #[.int .i64 t538, .int .i64 t539, .int .i64 t540] 30 (0, 0))) ∧ Aside0 (w'.heap[gb548]? = some (.cells #[.int .i64 t544, .int .i64 t545, .int .i64 t546] 30 (0, 0))) ∧ Aside0 (w'.heap[gb553]? = some (.cells #[.int .i64 t549, .int .i64 t550, .int .i64 t551] 30 (0, 0))) ∧ Aside0 (Below w.heap.size w w'))
             case atStart => exact ⟨(0), (0), (by first | rfl | (simp; done) | (simp [*]; done)), (by first | rfl | (simp; done) | (simp [*]; done)), H', ⟨Nat.le_refl _⟩, ⟨kr HO_6.out⟩, ⟨kr HO559.out⟩, ⟨by (with_reducible repeat (first | apply kb1 | apply kb2 | apply kb3)); exact BK542.out⟩, ⟨by (with_reducible repeat (first | apply kb1 | apply kb2 | apply kb3)); exact BK548.out⟩, ⟨by (with_reducible repeat (first | apply kb1 | apply kb2 | apply kb3)); exact BK553.out⟩, ⟨by repeat (first | (with_reducible first | exact HB.out | apply kc1 | apply kc2 | apply kc3 | refine kc4 ?_ GE542.out | refine kc4 ?_ GE548.out | refine kc4 ?_ GE553.out) | exact HB.out)⟩⟩
             case round =>
              clear H'
              try clear c1
              try clear c2
              try clear p2
              try clear c3
              try clear c4
              try clear c4b0
              try clear c4b1
              try clear c5
              try clear p5
              try clear q5
              try clear hx5
              try clear p6
              try clear c9
              try clear c10
              try clear c11
              try clear c13
              try clear c14
              try clear c16
              try clear c17
              try clear c17b0
              try clear c18
              try clear c18b0
              try clear c19
              try clear c19b0
              try clear c28
              try clear c33
              try clear c34
              try clear hcz13
              try clear hcz25
              try clear hcz29
              try clear hcz30
              try clear hcz35
              try clear hx543_0
              try clear hx543_1
              try clear hx543_2
              try clear p2
              try clear p5
              try clear p543
              try clear p6
              try clear q5
              try clear q537
              try clear q543
              try clear q560
              obtain ⟨x19_4, x20_4, rfl, rfl, HA, HK4, HO_6, HO_17, BK542, BK548, BK553, HB⟩ := hrel
              cases gk with
              | zero => exact absurd HA.out (by simp [trivetlaw14_CalendarYears.l2])
              | succ k4 =>
               have H := HA.out
               clear HA
               simp only [trivetlaw14_CalendarYears.l2] at H
               by_cases c41 : x20_4 < (t556.length : Int)
               ·rw [if_pos c41] at H
                have c41b0 : decide (x20_4 < (t556.length : Int)) = true := decide_eq_true c41
                clear c41
                by_cases c42 : 0 ≤ x20_4
                ·rw [if_pos c42] at H
                 have c42b0 : decide (0 ≤ x20_4) = true := decide_eq_true c42
                 clear c42
                 have H' := ka H
                 clear H
                 obtain ⟨Ao43, co43, eo43⟩ := Kd.R_slice HO_17.out
                 subst eo43
                 have p561 : 0 ≤ (x20_4 : Int) := of_decide_eq_true (by first | (with_reducible assumption) | assumption)
                 have q561 : x20_4 < (t556.length : Int) := of_decide_eq_true (by first | (with_reducible assumption) | assumption)
                 obtain ⟨ad561, e561, hx561_0, hx561_1, hx561_2⟩ := at_T45 (Kd.R_reads' HO_17.out).2.2 x20_4 p561 q561
                 cases e561
                 replace p561 := eq_true p561
                 replace q561 := eq_true q561
                 go_wp2
                 go_roundg k4
                 case measure => have := HJ7.out; have := HK2.out; have := HK3.out; have := HK4.out; omega
                 case rel => exact ⟨(wrap64 (x19_4 + ((rd_T45 t556 x20_4).f2))), (wrap64 (x20_4 + 1)), (by first | rfl | (simp; done) | (simp [*]; done)), (by first | rfl | (simp; done) | (simp [*]; done)), H', ⟨by have := HJ7.out; have := HK2.out; have := HK3.out; have := HK4.out; omega⟩, ⟨kr HO_6.out⟩, ⟨kr HO_17.out⟩, ⟨by (with_reducible repeat (first | apply kb1 | apply kb2 | apply kb3)); exact BK542.out⟩, ⟨by (with_reducible repeat (first | apply kb1 | apply kb2 | apply kb3)); exact BK548.out⟩, ⟨by (with_reducible repeat (first | apply kb1 | apply kb2 | apply kb3)); exact BK553.out⟩, ⟨by repeat (first | (with_reducible first | exact HB.out | apply kc1 | apply kc2 | apply kc3 | refine kc4 ?_ GE542.out | refine kc4 ?_ GE548.out | refine kc4 ?_ GE553.out) | exact HB.out)⟩⟩
                ·rw [if_neg c42] at H
                 exact absurd H (by simp)
               ·rw [if_neg c41] at H
                have c41b0 : decide (x20_4 < (t556.length : Int)) = false := decide_eq_false c41
                clear c41
                by_cases c44 : 0 ≤ x12_3
                ·rw [if_pos c44] at H
                 have c44b0 : decide (0 ≤ x12_3) = true := decide_eq_true c44
                 clear c44
                 by_cases c45 : x12_3 < (t533.length : Int)
                 ·rw [if_pos c45] at H
                  have c45b0 : decide (x12_3 < (t533.length : Int)) = true := decide_eq_true c45
                  clear c45
                  by_cases c46 : x19_4 = (rd t533 x12_3)
                  ·rw [if_pos c46] at H
                   have c46b0 : (x19_4 == (rd t533 x12_3)) = true := beq_iff_eq.mpr c46
                   have c46b1 : (x19_4 != (rd t533 x12_3)) = false := bne_eq_false_iff_eq.mpr c46
                   clear c46
                   have H' := ka H
                   clear H
                   obtain ⟨Ao47, co47, eo47⟩ := Kd.R_slice HO_17.out
                   subst eo47
                   obtain ⟨Ao48, co48, eo48⟩ := Kd.R_slice HO_6.out
                   subst eo48
                   have p562 : 0 ≤ (x12_3 : Int) := of_decide_eq_true (by first | (with_reducible assumption) | assumption)
                   have q562 : x12_3 < (t533.length : Int) := of_decide_eq_true (by first | (with_reducible assumption) | assumption)
                   obtain ⟨ad562, e562, hx562_0⟩ := Kd.at_int (Kd.R_reads' HO_6.out).2.2 x12_3 p562 q562
                   cases e562
                   replace p562 := eq_true p562
                   replace q562 := eq_true q562
                   go_wp2
                   go_roundg k4
                   case measure => have := HJ7.out; have := HK2.out; have := HK3.out; have := HK4.out; omega
                   case rel => exact ⟨(wrap64 (x10_3 - x19_4)), (wrap64 (x12_3 + 1)), (by first | rfl | (simp; done) | (simp [*]; done)), (by first | rfl | (simp; done) | (simp [*]; done)), H', ⟨by have := HJ7.out; have := HK2.out; have := HK3.out; have := HK4.out; omega⟩, ⟨kr HO_6.out⟩, ⟨by (with_reducible repeat (first | apply kb1 | apply kb2 | apply kb3)); exact BK542.out⟩, ⟨by repeat (first | (with_reducible first | exact HB.out | apply kc1 | apply kc2 | apply kc3 | refine kc4 ?_ GE542.out | refine kc4 ?_ GE548.out | refine kc4 ?_ GE553.out) | exact HB.out)⟩⟩
                  ·rw [if_neg c46] at H
                   exact absurd H (by simp)
                 ·rw [if_neg c45] at H
                  exact absurd H (by simp)
                ·rw [if_neg c44] at H
                 exact absurd H (by simp)
            ·have H1 : (none) = some r := by rw [if_neg (show ¬ (some q560).isNone = true by simp)] at H; exact H
             clear H
             have H := H1
             clear H1
             try simp only [errW_none, errW_some]
             exact absurd H (by simp)
           ·rw [if_neg c19] at H
            have c19b0 : decide (x12_3 < 12) = false := decide_eq_false c19
            clear c19
            by_cases c49 : t532 = true
            ·subst c49
             have H1 : (some (x10_3 == 0)) = some r := by rw [if_pos rfl] at H; exact H
             clear H
             have H := H1
             clear H1
             obtain rfl := Option.some.inj H
             go_wp2
             go_ret
             exact ⟨by first | rfl | (simp [errW_none, errW_some] <;> rfl) | (simp [*, errW_none, errW_some] <;> rfl), by repeat (first | (with_reducible first | exact HB.out | apply kc1 | apply kc2 | apply kc3 | refine kc4 ?_ GE542.out) | exact HB.out)⟩
            ·replace c49 := Bool.eq_false_iff.mpr c49
             subst c49
             have H1 : (none) = some r := by rw [if_neg (show ¬ (false = true) by decide)] at H; exact H
             clear H
             have H := H1
             clear H1
             exact absurd H (by simp)
  ·have H1 : (some t532) = some r := by rw [if_neg (show ¬ (some q537).isNone = true by simp)] at H; exact H
   clear H
   have H := H1
   clear H1
   try simp only [errW_none, errW_some]
   obtain rfl := Option.some.inj H
   go_enter Try.func5, Try.ntmps5
   go_wp2_with (first | ((with_reducible refine gate_callee (f := 9) rfl ?_); refine kg (some 21) rfl rfl Try.func9 (by kernel_rfl) rfl #[] rfl ?_; (with_reducible refine (trivetlaw14_up.calls k  t532 _ A3.out).mono ?_); rintro e w50 ⟨rfl, hb⟩; refine ⟨_, rfl, ?_⟩; replace HB := ka (below_step (kw HB.out) hb); (try clear hb); (try clear hb2); (try clear hk); (try clear hi)) | ((with_reducible refine gate_callee (f := 10) rfl ?_); refine kg (some 29) rfl rfl Try.func10 (by kernel_rfl) rfl #[.slice A0 l0.length c0, .int .i64 a1] rfl ?_; (with_reducible refine (calendar_Months.calls k _ _ l0 a1 t533 (some q537) _ ?side1 ?side2 A6.out).mono ?_); (case side1 => repeat (first | exact (Kd.C_below HR0.out HB.out) | (with_reducible refine Kd.C_alloc ?_ _) | (with_reducible refine Kd.C_drewN ?_ _) | (with_reducible refine Kd.C_drew ?_))); (case side2 => exact HC0.out); rintro e w51 ⟨v535, rfl, ho0, hb⟩; refine ⟨_, rfl, ?_⟩; have HO536 := ka (Kd.R_lower ho0 (below_size (kw HB.out))); replace HB := ka (below_step (kw HB.out) hb); (try clear hb); (try clear hb2); (try clear hk); (try clear hi); (try clear ho0); (try simp only [errW_none, errW_some])))
   go_ret
   exact ⟨by first | rfl | (simp [errW_none, errW_some] <;> rfl) | (simp [*, errW_none, errW_some] <;> rfl), by repeat (first | (with_reducible first | exact HB.out | apply kc1 | apply kc2 | apply kc3) | exact HB.out)⟩

/-- THE ONE PURE STATEMENT of trivetlaw14_CalendarYears: yours. -/
def trivetlaw14_CalendarYears.Pure : Prop := ∀ (l0 : List (S48)) (a1 : Int), l0.length ≤ maxLen → l0.length * 24 ≤ 140737488351232 → (∀ x ∈ l0, (Lit.int .i64 x.f0).wf = true ∧ (Lit.int .i64 x.f1).wf = true ∧ (Lit.int .i64 x.f2).wf = true) → (Lit.int .i64 a1).wf = true → ∃ k, trivetlaw14_CalendarYears.f k l0 a1 = some true
theorem trivetlaw14_CalendarYears.walk (P : trivetlaw14_CalendarYears.Pure) (a0 : Option Addr) (len0 cap0 : Nat) (l0 : List (S48)) (a1 : Int) (w : World) (w0 : Kd.C k48 w a0 len0 l0 ∧ len0 ≤ cap0 ∧ len0 ≤ maxLen ∧ (∀ x ∈ l0, (Lit.int .i64 x.f0).wf = true ∧ (Lit.int .i64 x.f1).wf = true ∧ (Lit.int .i64 x.f2).wf = true)) (y0 : len0 * 24 ≤ 140737488351232) (w1 : (Lit.int .i64 a1).wf = true) :
  Calls Try.prog 5 #[.slice a0 len0 cap0, .int .i64 a1] w fun e w' => e = .returned (.bool true) ∧ Below w.heap.size w w' := by
 obtain ⟨hr0, hc0, hm0, hw0⟩ := w0
 obtain rfl := Kd.C_len hr0
 obtain ⟨k, h⟩ := P l0 a1 hm0 y0 hw0 w1
 refine (trivetlaw14_CalendarYears.calls k _ _ l0 a1 true w hr0 hc0 h).mono ?_
 rintro e w' ⟨rfl, hd⟩
 exact ⟨rfl, hd⟩

end Go.Proofs.Ytmkfbaoglmmhjaa.P
