-- Written by a program of this session out of the translation of the seat: Lean functions and the proofs that the Go functions come to them.
import Derived.Test.YtmkfbaoglmmhjaaPx0
import Derived.Test.YtmkfbaoglmmhjaaPx1
import Derived.Test.YtmkfbaoglmmhjaaPx3
import Derived.Test.YtmkfbaoglmmhjaaPx5
import Derived.Test.YtmkfbaoglmmhjaaPx6
import Derived.Test.YtmkfbaoglmmhjaaPx7
import Derived.Test.YtmkfbaoglmmhjaaPx8
import Derived.Test.YtmkfbaoglmmhjaaPx9
namespace Go.Proofs.Ytmkfbaoglmmhjaa.P
open Go.RowKit Go.Proofs.YtmkfbaoglmmhjaaW.PrintWords Go.Proofs.YtmkfbaoglmmhjaaW.PrintLast Go.Proofs.YtmkfbaoglmmhjaaW.PrintMore
attribute [local go_sem] max2_int min2_int max_two min_two max_three min_three max_four min_four   -- for this text's walks alone
set_option linter.unusedVariables false
set_option linter.unusedSimpArgs false

attribute [local go_sem high] eqA45
/-! ### trivetlaw14_CalendarOuts: function 4 -/
mutual
def trivetlaw14_CalendarOuts.j0 : Nat → List (S48) → Int → Int → Bool → List (S45) → Option Int → Bool → Bool → Option (Bool)
 | 0, _, _, _, _, _, _, _, _ => none
 | k + 1, x0, x1, x2, x7, x9, x10, x11, x46 => if x46 = true then (none) else ((trivetref04_Of_s.f x1).bind fun bt512 => ((trivetref04_Of_s.f x2).bind fun bt517 => (if x11 = true then (if bt512.2.2.2 = true then (trivetlaw14_CalendarOuts.j1 k x0 x1 x2 x7 x9 x10 (!bt517.2.2.2)) else (trivetlaw14_CalendarOuts.j1 k x0 x1 x2 x7 x9 x10 true)) else (trivetlaw14_CalendarOuts.j1 k x0 x1 x2 x7 x9 x10 true))))
def trivetlaw14_CalendarOuts.j1 : Nat → List (S48) → Int → Int → Bool → List (S45) → Option Int → Bool → Option (Bool)
 | 0, _, _, _, _, _, _, _ => none
 | k + 1, x0, x1, x2, x7, x9, x10, x66 => if x66 = true then (if x7 = true then (if x10.isNone = true then (none) else (if (x10.getD 0) = 1 then (some ((x9.length : Int) == 0)) else (none))) else (none)) else ((trivetref14_Outs.f k x0 x1 x2).bind fun t523 => (if x10.isNone = true then (trivetlaw14_CalendarOuts.j2 k x7 x9 t523 ((x9.length : Int) != (t523.length : Int))) else (trivetlaw14_CalendarOuts.j2 k x7 x9 t523 true)))
def trivetlaw14_CalendarOuts.j2 : Nat → Bool → List (S45) → List (S45) → Bool → Option (Bool)
 | 0, _, _, _, _ => none
 | k + 1, x7, x9, x16, x90 => if x90 = true then (none) else (trivetlaw14_CalendarOuts.l0 k x7 x9 x16 0)
def trivetlaw14_CalendarOuts.l0 : Nat → Bool → List (S45) → List (S45) → Int → Option (Bool)
 | 0, _, _, _, _ => none
 | k + 1, x7, x9, x16, x17 => if x17 < (x9.length : Int) then (if 0 ≤ x17 then (if x17 < (x16.length : Int) then (if (!(((rd_T45 x9 x17).f0) == ((rd_T45 x16 x17).f0)) || (!(((rd_T45 x9 x17).f1) == ((rd_T45 x16 x17).f1)) || (!(((rd_T45 x9 x17).f2) == ((rd_T45 x16 x17).f2))))) = true then (none) else (trivetlaw14_CalendarOuts.l0 k x7 x9 x16 (wrap64 (x17 + 1)))) else (none)) else (none)) else (some x7)
end
def trivetlaw14_CalendarOuts.f (k : Nat) (l0 : List (S48)) (a1 : Int) (a2 : Int) : Option (Bool) := (trivetlaw14_up.f k).bind fun t504 => (if (l0.length : Int) > 100 then (some t504) else ((calendar_Check.f l0).bind fun t505 => ((calendar_Outs.f k l0 a1 a2).bind fun bt506 => ((trivetref14_May.f k l0).bind fun t510 => (if t505.isNone = true then (if t510 = true then (trivetlaw14_CalendarOuts.j0 k l0 a1 a2 t504 bt506.1 bt506.2 t510 false) else (trivetlaw14_CalendarOuts.j0 k l0 a1 a2 t504 bt506.1 bt506.2 t510 true)) else (if t510 = true then (trivetlaw14_CalendarOuts.j0 k l0 a1 a2 t504 bt506.1 bt506.2 t510 true) else (trivetlaw14_CalendarOuts.j0 k l0 a1 a2 t504 bt506.1 bt506.2 t510 (1 != (t505.getD 0)))))))))
theorem trivetlaw14_CalendarOuts.mono_l : ∀ k, (∀ y0 y1 y2 y3 y4 y5 y6 y7, LeO (trivetlaw14_CalendarOuts.j0 k y0 y1 y2 y3 y4 y5 y6 y7) (trivetlaw14_CalendarOuts.j0 (k + 1) y0 y1 y2 y3 y4 y5 y6 y7)) ∧ (∀ y0 y1 y2 y3 y4 y5 y6, LeO (trivetlaw14_CalendarOuts.j1 k y0 y1 y2 y3 y4 y5 y6) (trivetlaw14_CalendarOuts.j1 (k + 1) y0 y1 y2 y3 y4 y5 y6)) ∧ (∀ y0 y1 y2 y3, LeO (trivetlaw14_CalendarOuts.j2 k y0 y1 y2 y3) (trivetlaw14_CalendarOuts.j2 (k + 1) y0 y1 y2 y3)) ∧ (∀ y0 y1 y2 y3, LeO (trivetlaw14_CalendarOuts.l0 k y0 y1 y2 y3) (trivetlaw14_CalendarOuts.l0 (k + 1) y0 y1 y2 y3))
 | 0 => ⟨fun _ _ _ _ _ _ _ _ r h => by simp [trivetlaw14_CalendarOuts.j0] at h, fun _ _ _ _ _ _ _ r h => by simp [trivetlaw14_CalendarOuts.j1] at h, fun _ _ _ _ r h => by simp [trivetlaw14_CalendarOuts.j2] at h, fun _ _ _ _ r h => by simp [trivetlaw14_CalendarOuts.l0] at h⟩
 | k + 1 => by
  obtain ⟨ih0, ih1, ih2, ih3⟩ := trivetlaw14_CalendarOuts.mono_l k
  refine ⟨?_, ?_, ?_, ?_⟩
  ·intro y0 y1 y2 y3 y4 y5 y6 y7
   unfold trivetlaw14_CalendarOuts.j0
   repeat' first
   | (with_reducible exact ih0 _ _ _ _ _ _ _ _)
   | (with_reducible exact ih1 _ _ _ _ _ _ _)
   | (with_reducible exact ih2 _ _ _ _)
   | (with_reducible exact ih3 _ _ _ _)
   | (with_reducible exact calendar_Outs.mono _ _ _ _)
   | (with_reducible exact trivetlaw14_up.mono _)
   | (with_reducible exact trivetref14_May.mono _ _)
   | (with_reducible exact trivetref14_Outs.mono _ _ _ _)
   | (with_reducible exact LeO.refl _)
   | (with_reducible exact LeO.none _)
   | (with_reducible refine LeO.ite ?_ ?_)
   | (with_reducible refine LeO.bind ?_ (fun _ => ?_))
   | exact ih0 _ _ _ _ _ _ _ _
   | exact ih1 _ _ _ _ _ _ _
   | exact ih2 _ _ _ _
   | exact ih3 _ _ _ _
   | exact calendar_Outs.mono _ _ _ _
   | exact trivetlaw14_up.mono _
   | exact trivetref14_May.mono _ _
   | exact trivetref14_Outs.mono _ _ _ _
   | exact LeO.none _
   | refine LeO.ite ?_ ?_
   | refine LeO.bind ?_ (fun _ => ?_)
  ·intro y0 y1 y2 y3 y4 y5 y6
   unfold trivetlaw14_CalendarOuts.j1
   repeat' first
   | (with_reducible exact ih0 _ _ _ _ _ _ _ _)
   | (with_reducible exact ih1 _ _ _ _ _ _ _)
   | (with_reducible exact ih2 _ _ _ _)
   | (with_reducible exact ih3 _ _ _ _)
   | (with_reducible exact calendar_Outs.mono _ _ _ _)
   | (with_reducible exact trivetlaw14_up.mono _)
   | (with_reducible exact trivetref14_May.mono _ _)
   | (with_reducible exact trivetref14_Outs.mono _ _ _ _)
   | (with_reducible exact LeO.refl _)
   | (with_reducible exact LeO.none _)
   | (with_reducible refine LeO.ite ?_ ?_)
   | (with_reducible refine LeO.bind ?_ (fun _ => ?_))
   | exact ih0 _ _ _ _ _ _ _ _
   | exact ih1 _ _ _ _ _ _ _
   | exact ih2 _ _ _ _
   | exact ih3 _ _ _ _
   | exact calendar_Outs.mono _ _ _ _
   | exact trivetlaw14_up.mono _
   | exact trivetref14_May.mono _ _
   | exact trivetref14_Outs.mono _ _ _ _
   | exact LeO.none _
   | refine LeO.ite ?_ ?_
   | refine LeO.bind ?_ (fun _ => ?_)
  ·intro y0 y1 y2 y3
   unfold trivetlaw14_CalendarOuts.j2
   repeat' first
   | (with_reducible exact ih0 _ _ _ _ _ _ _ _)
   | (with_reducible exact ih1 _ _ _ _ _ _ _)
   | (with_reducible exact ih2 _ _ _ _)
   | (with_reducible exact ih3 _ _ _ _)
   | (with_reducible exact calendar_Outs.mono _ _ _ _)
   | (with_reducible exact trivetlaw14_up.mono _)
   | (with_reducible exact trivetref14_May.mono _ _)
   | (with_reducible exact trivetref14_Outs.mono _ _ _ _)
   | (with_reducible exact LeO.refl _)
   | (with_reducible exact LeO.none _)
   | (with_reducible refine LeO.ite ?_ ?_)
   | (with_reducible refine LeO.bind ?_ (fun _ => ?_))
   | exact ih0 _ _ _ _ _ _ _ _
   | exact ih1 _ _ _ _ _ _ _
   | exact ih2 _ _ _ _
   | exact ih3 _ _ _ _
   | exact calendar_Outs.mono _ _ _ _
   | exact trivetlaw14_up.mono _
   | exact trivetref14_May.mono _ _
   | exact trivetref14_Outs.mono _ _ _ _
   | exact LeO.none _
   | refine LeO.ite ?_ ?_
   | refine LeO.bind ?_ (fun _ => ?_)
  ·intro y0 y1 y2 y3
   unfold trivetlaw14_CalendarOuts.l0
   repeat' first
   | (with_reducible exact ih0 _ _ _ _ _ _ _ _)
   | (with_reducible exact ih1 _ _ _ _ _ _ _)
   | (with_reducible exact ih2 _ _ _ _)
   | (with_reducible exact ih3 _ _ _ _)
   | (with_reducible exact calendar_Outs.mono _ _ _ _)
   | (with_reducible exact trivetlaw14_up.mono _)
   | (with_reducible exact trivetref14_May.mono _ _)
   | (with_reducible exact trivetref14_Outs.mono _ _ _ _)
   | (with_reducible exact LeO.refl _)
   | (with_reducible exact LeO.none _)
   | (with_reducible refine LeO.ite ?_ ?_)
   | (with_reducible refine LeO.bind ?_ (fun _ => ?_))
   | exact ih0 _ _ _ _ _ _ _ _
   | exact ih1 _ _ _ _ _ _ _
   | exact ih2 _ _ _ _
   | exact ih3 _ _ _ _
   | exact calendar_Outs.mono _ _ _ _
   | exact trivetlaw14_up.mono _
   | exact trivetref14_May.mono _ _
   | exact trivetref14_Outs.mono _ _ _ _
   | exact LeO.none _
   | refine LeO.ite ?_ ?_
   | refine LeO.bind ?_ (fun _ => ?_)
theorem trivetlaw14_CalendarOuts.mono : ∀ a0 a1 a2 k, LeO (trivetlaw14_CalendarOuts.f k a0 a1 a2) (trivetlaw14_CalendarOuts.f (k + 1) a0 a1 a2) := by
 intro a0 a1 a2 k
 obtain ⟨ih0, ih1, ih2, ih3⟩ := trivetlaw14_CalendarOuts.mono_l k
 unfold trivetlaw14_CalendarOuts.f
 repeat' first
   | (with_reducible exact ih0 _ _ _ _ _ _ _ _)
   | (with_reducible exact ih1 _ _ _ _ _ _ _)
   | (with_reducible exact ih2 _ _ _ _)
   | (with_reducible exact ih3 _ _ _ _)
   | (with_reducible exact calendar_Outs.mono _ _ _ _)
   | (with_reducible exact trivetlaw14_up.mono _)
   | (with_reducible exact trivetref14_May.mono _ _)
   | (with_reducible exact trivetref14_Outs.mono _ _ _ _)
   | (with_reducible exact LeO.refl _)
   | (with_reducible exact LeO.none _)
   | (with_reducible refine LeO.ite ?_ ?_)
   | (with_reducible refine LeO.bind ?_ (fun _ => ?_))
   | exact ih0 _ _ _ _ _ _ _ _
   | exact ih1 _ _ _ _ _ _ _
   | exact ih2 _ _ _ _
   | exact ih3 _ _ _ _
   | exact calendar_Outs.mono _ _ _ _
   | exact trivetlaw14_up.mono _
   | exact trivetref14_May.mono _ _
   | exact trivetref14_Outs.mono _ _ _ _
   | exact LeO.none _
   | refine LeO.ite ?_ ?_
   | refine LeO.bind ?_ (fun _ => ?_)
set_option maxHeartbeats 8000000 in
set_option maxRecDepth 100000 in
theorem trivetlaw14_CalendarOuts.calls (k : Nat) (A0 : Option Addr) (c0 : Nat) (l0 : List (S48)) (a1 : Int) (a2 : Int) (r : Bool) (w : World) (hr0 : Kd.C k48 w A0 l0.length l0) (hc0 : l0.length ≤ c0) (h : trivetlaw14_CalendarOuts.f k l0 a1 a2 = some r) :
  Calls Try.prog 4 #[.slice A0 l0.length c0, .int .i64 a1, .int .i64 a2] w fun e w' => e = .returned (.bool r) ∧ Below w.heap.size w w' := by
 have hu30 := Try.underlying30
 have hu45 := Try.underlying45
 have hu26 := Try.underlying26
 have hu35 := Try.underlying35
 have HR0 := ka hr0
 have HC0 := ka hc0
 clear hr0 hc0
 have HB := ka (Below.refl w.heap.size w)
 have H : ((trivetlaw14_up.f k).bind fun t504 => (if (l0.length : Int) > 100 then (some t504) else ((calendar_Check.f l0).bind fun t505 => ((calendar_Outs.f k l0 a1 a2).bind fun bt506 => ((trivetref14_May.f k l0).bind fun t510 => (if t505.isNone = true then (if t510 = true then (trivetlaw14_CalendarOuts.j0 k l0 a1 a2 t504 bt506.1 bt506.2 t510 false) else (trivetlaw14_CalendarOuts.j0 k l0 a1 a2 t504 bt506.1 bt506.2 t510 true)) else (if t510 = true then (trivetlaw14_CalendarOuts.j0 k l0 a1 a2 t504 bt506.1 bt506.2 t510 true) else (trivetlaw14_CalendarOuts.j0 k l0 a1 a2 t504 bt506.1 bt506.2 t510 (1 != (t505.getD 0)))))))))) = some r := h
 clear h
 replace H := Option.bind_eq_some_iff.mp H
 obtain ⟨t504, A40, H⟩ := H
 replace H : (if (l0.length : Int) > 100 then (some t504) else ((calendar_Check.f l0).bind fun t505 => ((calendar_Outs.f k l0 a1 a2).bind fun bt506 => ((trivetref14_May.f k l0).bind fun t510 => (if t505.isNone = true then (if t510 = true then (trivetlaw14_CalendarOuts.j0 k l0 a1 a2 t504 bt506.1 bt506.2 t510 false) else (trivetlaw14_CalendarOuts.j0 k l0 a1 a2 t504 bt506.1 bt506.2 t510 true)) else (if t510 = true then (trivetlaw14_CalendarOuts.j0 k l0 a1 a2 t504 bt506.1 bt506.2 t510 true) else (trivetlaw14_CalendarOuts.j0 k l0 a1 a2 t504 bt506.1 bt506.2 t510 (1 != (t505.getD 0))))))))) = some r := H
 have A4 := ka A40
 clear A40
 by_cases c5 : (l0.length : Int) > 100
 ·rw [if_pos c5] at H
  have c5b0 : decide (100 < (l0.length : Int)) = true := decide_eq_true c5
  have c5b1 : decide (100 < l0.length) = true := decide_eq_true (by omega)
  clear c5
  obtain rfl := Option.some.inj H
  go_enter Try.func4, Try.ntmps4
  go_wp2_with (first | (go_at_call 9; (with_reducible refine (trivetlaw14_up.calls k  t504 _ A4.out).mono ?_); rintro e w6 ⟨rfl, hb⟩; replace HB := ka (below_step (kw HB.out) hb); (try clear hb); (try clear hb2); (try clear hk); (try clear hi)))
  repeat (go_quiet (first | (go_at_call 9; (with_reducible refine (trivetlaw14_up.calls k  t504 _ A4.out).mono ?_); rintro e w6 ⟨rfl, hb⟩; replace HB := ka (below_step (kw HB.out) hb); (try clear hb); (try clear hb2); (try clear hk); (try clear hi))); try go_wp2_with (first | (go_at_call 9; (with_reducible refine (trivetlaw14_up.calls k  t504 _ A4.out).mono ?_); rintro e w6 ⟨rfl, hb⟩; replace HB := ka (below_step (kw HB.out) hb); (try clear hb); (try clear hb2); (try clear hk); (try clear hi))))
  go_ret
  exact ⟨by first | rfl | (simp [errW_none, errW_some] <;> rfl) | (simp [*, errW_none, errW_some] <;> rfl), by repeat (first | (with_reducible first | exact HB.out | apply kc1 | apply kc2 | apply kc3) | exact HB.out)⟩
 ·rw [if_neg c5] at H
  have c5b0 : decide (100 < (l0.length : Int)) = false := decide_eq_false c5
  have c5b1 : decide (100 < l0.length) = false := decide_eq_false (by omega)
  clear c5
  replace H := Option.bind_eq_some_iff.mp H
  obtain ⟨t505, A70, H⟩ := H
  replace H : ((calendar_Outs.f k l0 a1 a2).bind fun bt506 => ((trivetref14_May.f k l0).bind fun t510 => (if t505.isNone = true then (if t510 = true then (trivetlaw14_CalendarOuts.j0 k l0 a1 a2 t504 bt506.1 bt506.2 t510 false) else (trivetlaw14_CalendarOuts.j0 k l0 a1 a2 t504 bt506.1 bt506.2 t510 true)) else (if t510 = true then (trivetlaw14_CalendarOuts.j0 k l0 a1 a2 t504 bt506.1 bt506.2 t510 true) else (trivetlaw14_CalendarOuts.j0 k l0 a1 a2 t504 bt506.1 bt506.2 t510 (1 != (t505.getD 0))))))) = some r := H
  have A7 := ka A70
  clear A70
  replace H := Option.bind_eq_some_iff.mp H
  obtain ⟨⟨t506, t507⟩, A80, H⟩ := H
  replace H : ((trivetref14_May.f k l0).bind fun t510 => (if t505.isNone = true then (if t510 = true then (trivetlaw14_CalendarOuts.j0 k l0 a1 a2 t504 t506 t507 t510 false) else (trivetlaw14_CalendarOuts.j0 k l0 a1 a2 t504 t506 t507 t510 true)) else (if t510 = true then (trivetlaw14_CalendarOuts.j0 k l0 a1 a2 t504 t506 t507 t510 true) else (trivetlaw14_CalendarOuts.j0 k l0 a1 a2 t504 t506 t507 t510 (1 != (t505.getD 0)))))) = some r := H
  have A8 := ka A80
  clear A80
  replace H := Option.bind_eq_some_iff.mp H
  obtain ⟨t510, A90, H⟩ := H
  replace H : (if t505.isNone = true then (if t510 = true then (trivetlaw14_CalendarOuts.j0 k l0 a1 a2 t504 t506 t507 t510 false) else (trivetlaw14_CalendarOuts.j0 k l0 a1 a2 t504 t506 t507 t510 true)) else (if t510 = true then (trivetlaw14_CalendarOuts.j0 k l0 a1 a2 t504 t506 t507 t510 true) else (trivetlaw14_CalendarOuts.j0 k l0 a1 a2 t504 t506 t507 t510 (1 != (t505.getD 0))))) = some r := H
  have A9 := ka A90
  clear A90
  have HC10 := ka H
  clear H
  go_enter Try.func4, Try.ntmps4
  go_upto_region 7 with (first | (go_at_call 9; (with_reducible refine (trivetlaw14_up.calls k  t504 _ A4.out).mono ?_); rintro e w11 ⟨rfl, hb⟩; replace HB := ka (below_step (kw HB.out) hb); (try clear hb); (try clear hb2); (try clear hk); (try clear hi)) | (go_at_call 16; (with_reducible refine (calendar_Check.calls _ _ l0 t505 _ ?side1 ?side2 A7.out).mono ?_); (case side1 => repeat (first | exact (Kd.C_below HR0.out HB.out) | (with_reducible refine Kd.C_alloc ?_ _) | (with_reducible refine Kd.C_drewN ?_ _) | (with_reducible refine Kd.C_drew ?_))); (case side2 => exact HC0.out); rintro e w12 ⟨rfl, hb⟩; replace HB := ka (below_step (kw HB.out) hb); (try clear hb); (try clear hb2); (try clear hk); (try clear hi); (try simp only [errW_none, errW_some])) | (go_at_call 17; (with_reducible refine (calendar_Outs.calls k _ _ l0 a1 a2 t506 t507 _ ?side1 ?side2 A8.out).mono ?_); (case side1 => repeat (first | exact (Kd.C_below HR0.out HB.out) | (with_reducible refine Kd.C_alloc ?_ _) | (with_reducible refine Kd.C_drewN ?_ _) | (with_reducible refine Kd.C_drew ?_))); (case side2 => exact HC0.out); rintro e w13 ⟨v508, rfl, ho0, hb⟩; have HO509 := ka (Kd.R_lower ho0 (below_size (kw HB.out))); replace HB := ka (below_step (kw HB.out) hb); (try clear hb); (try clear hb2); (try clear hk); (try clear hi); (try clear ho0); (try simp only [errW_none, errW_some])) | (go_at_call 12; (with_reducible refine (trivetref14_May.calls k _ _ l0 t510 _ ?side1 ?side2 A9.out).mono ?_); (case side1 => repeat (first | exact (Kd.C_below HR0.out HB.out) | (with_reducible refine Kd.C_alloc ?_ _) | (with_reducible refine Kd.C_drewN ?_ _) | (with_reducible refine Kd.C_drew ?_))); (case side2 => exact HC0.out); rintro e w14 ⟨rfl, hb⟩; replace HO509 := ka (Kd.R_below (kr HO509.out) hb); replace HB := ka (below_step (kw HB.out) hb); (try clear hb); (try clear hb2); (try clear hk); (try clear hi)))
  repeat (go_quiet (first | (go_at_call 9; (with_reducible refine (trivetlaw14_up.calls k  t504 _ A4.out).mono ?_); rintro e w11 ⟨rfl, hb⟩; replace HB := ka (below_step (kw HB.out) hb); (try clear hb); (try clear hb2); (try clear hk); (try clear hi)) | (go_at_call 16; (with_reducible refine (calendar_Check.calls _ _ l0 t505 _ ?side1 ?side2 A7.out).mono ?_); (case side1 => repeat (first | exact (Kd.C_below HR0.out HB.out) | (with_reducible refine Kd.C_alloc ?_ _) | (with_reducible refine Kd.C_drewN ?_ _) | (with_reducible refine Kd.C_drew ?_))); (case side2 => exact HC0.out); rintro e w12 ⟨rfl, hb⟩; replace HB := ka (below_step (kw HB.out) hb); (try clear hb); (try clear hb2); (try clear hk); (try clear hi); (try simp only [errW_none, errW_some])) | (go_at_call 17; (with_reducible refine (calendar_Outs.calls k _ _ l0 a1 a2 t506 t507 _ ?side1 ?side2 A8.out).mono ?_); (case side1 => repeat (first | exact (Kd.C_below HR0.out HB.out) | (with_reducible refine Kd.C_alloc ?_ _) | (with_reducible refine Kd.C_drewN ?_ _) | (with_reducible refine Kd.C_drew ?_))); (case side2 => exact HC0.out); rintro e w13 ⟨v508, rfl, ho0, hb⟩; have HO509 := ka (Kd.R_lower ho0 (below_size (kw HB.out))); replace HB := ka (below_step (kw HB.out) hb); (try clear hb); (try clear hb2); (try clear hk); (try clear hi); (try clear ho0); (try simp only [errW_none, errW_some])) | (go_at_call 12; (with_reducible refine (trivetref14_May.calls k _ _ l0 t510 _ ?side1 ?side2 A9.out).mono ?_); (case side1 => repeat (first | exact (Kd.C_below HR0.out HB.out) | (with_reducible refine Kd.C_alloc ?_ _) | (with_reducible refine Kd.C_drewN ?_ _) | (with_reducible refine Kd.C_drew ?_))); (case side2 => exact HC0.out); rintro e w14 ⟨rfl, hb⟩; replace HO509 := ka (Kd.R_below (kr HO509.out) hb); replace HB := ka (below_step (kw HB.out) hb); (try clear hb); (try clear hb2); (try clear hk); (try clear hi))); go_upto_region 7 with (first | (go_at_call 9; (with_reducible refine (trivetlaw14_up.calls k  t504 _ A4.out).mono ?_); rintro e w11 ⟨rfl, hb⟩; replace HB := ka (below_step (kw HB.out) hb); (try clear hb); (try clear hb2); (try clear hk); (try clear hi)) | (go_at_call 16; (with_reducible refine (calendar_Check.calls _ _ l0 t505 _ ?side1 ?side2 A7.out).mono ?_); (case side1 => repeat (first | exact (Kd.C_below HR0.out HB.out) | (with_reducible refine Kd.C_alloc ?_ _) | (with_reducible refine Kd.C_drewN ?_ _) | (with_reducible refine Kd.C_drew ?_))); (case side2 => exact HC0.out); rintro e w12 ⟨rfl, hb⟩; replace HB := ka (below_step (kw HB.out) hb); (try clear hb); (try clear hb2); (try clear hk); (try clear hi); (try simp only [errW_none, errW_some])) | (go_at_call 17; (with_reducible refine (calendar_Outs.calls k _ _ l0 a1 a2 t506 t507 _ ?side1 ?side2 A8.out).mono ?_); (case side1 => repeat (first | exact (Kd.C_below HR0.out HB.out) | (with_reducible refine Kd.C_alloc ?_ _) | (with_reducible refine Kd.C_drewN ?_ _) | (with_reducible refine Kd.C_drew ?_))); (case side2 => exact HC0.out); rintro e w13 ⟨v508, rfl, ho0, hb⟩; have HO509 := ka (Kd.R_lower ho0 (below_size (kw HB.out))); replace HB := ka (below_step (kw HB.out) hb); (try clear hb); (try clear hb2); (try clear hk); (try clear hi); (try clear ho0); (try simp only [errW_none, errW_some])) | (go_at_call 12; (with_reducible refine (trivetref14_May.calls k _ _ l0 t510 _ ?side1 ?side2 A9.out).mono ?_); (case side1 => repeat (first | exact (Kd.C_below HR0.out HB.out) | (with_reducible refine Kd.C_alloc ?_ _) | (with_reducible refine Kd.C_drewN ?_ _) | (with_reducible refine Kd.C_drew ?_))); (case side2 => exact HC0.out); rintro e w14 ⟨rfl, hb⟩; replace HO509 := ka (Kd.R_below (kr HO509.out) hb); replace HB := ka (below_step (kw HB.out) hb); (try clear hb); (try clear hb2); (try clear hk); (try clear hi))))
  (try simp only [Act.put, List.setIfInBounds_toArray, List.set_cons_zero, List.set_cons_succ])
  go_cut [46] (fun v46 wc => ∃ (kq : Nat) (x46_9 : Bool), v46 = .bool x46_9 ∧ Aside0 (trivetlaw14_CalendarOuts.j0 kq l0 a1 a2 t504 t506 t507 t510 x46_9 = some r) ∧ Aside0 (kq ≤ k) ∧ Aside0 (Kd.R k45 45 wc w.heap.size (fun _ => True) v508 t506) ∧ Aside0 (Below w.heap.size w wc))
  case first =>
   have H := HC10.out
   clear HC10
   rcases t505 with _ | q511
   ·have H1 : (if t510 = true then (trivetlaw14_CalendarOuts.j0 k l0 a1 a2 t504 t506 t507 t510 false) else (trivetlaw14_CalendarOuts.j0 k l0 a1 a2 t504 t506 t507 t510 true)) = some r := by rw [if_pos (show (none : Option Int).isNone = true by rfl)] at H; exact H
    clear H
    have H := H1
    clear H1
    try simp only [errW_none, errW_some]
    by_cases c15 : t510 = true
    ·subst c15
     have H1 : (trivetlaw14_CalendarOuts.j0 k l0 a1 a2 t504 t506 t507 true false) = some r := by rw [if_pos rfl] at H; exact H
     clear H
     have H := H1
     clear H1
     have H' := ka H
     clear H
     go_wp2
     repeat (go_quiet (fail); try go_wp2)
     go_meet
     case rel => exact ⟨_, (false), (by first | rfl | (simp; done) | (simp [*]; done)), H', ⟨by first | omega | exact Nat.le_refl _⟩, ⟨kr HO509.out⟩, ⟨by repeat (first | (with_reducible first | exact HB.out | apply kc1 | apply kc2 | apply kc3) | exact HB.out)⟩⟩
    ·replace c15 := Bool.eq_false_iff.mpr c15
     subst c15
     have H1 : (trivetlaw14_CalendarOuts.j0 k l0 a1 a2 t504 t506 t507 false true) = some r := by rw [if_neg (show ¬ (false = true) by decide)] at H; exact H
     clear H
     have H := H1
     clear H1
     have H' := ka H
     clear H
     go_wp2
     repeat (go_quiet (fail); try go_wp2)
     go_meet
     case rel => exact ⟨_, (true), (by first | rfl | (simp; done) | (simp [*]; done)), H', ⟨by first | omega | exact Nat.le_refl _⟩, ⟨kr HO509.out⟩, ⟨by repeat (first | (with_reducible first | exact HB.out | apply kc1 | apply kc2 | apply kc3) | exact HB.out)⟩⟩
   ·have H1 : (if t510 = true then (trivetlaw14_CalendarOuts.j0 k l0 a1 a2 t504 t506 t507 t510 true) else (trivetlaw14_CalendarOuts.j0 k l0 a1 a2 t504 t506 t507 t510 (1 != q511))) = some r := by rw [if_neg (show ¬ (some q511).isNone = true by simp)] at H; exact H
    clear H
    have H := H1
    clear H1
    try simp only [errW_none, errW_some]
    by_cases c16 : t510 = true
    ·subst c16
     have H1 : (trivetlaw14_CalendarOuts.j0 k l0 a1 a2 t504 t506 t507 true true) = some r := by rw [if_pos rfl] at H; exact H
     clear H
     have H := H1
     clear H1
     have H' := ka H
     clear H
     go_wp2
     repeat (go_quiet (fail); try go_wp2)
     go_meet
     case rel => exact ⟨_, (true), (by first | rfl | (simp; done) | (simp [*]; done)), H', ⟨by first | omega | exact Nat.le_refl _⟩, ⟨kr HO509.out⟩, ⟨by repeat (first | (with_reducible first | exact HB.out | apply kc1 | apply kc2 | apply kc3) | exact HB.out)⟩⟩
    ·replace c16 := Bool.eq_false_iff.mpr c16
     subst c16
     have H1 : (trivetlaw14_CalendarOuts.j0 k l0 a1 a2 t504 t506 t507 false (1 != q511)) = some r := by rw [if_neg (show ¬ (false = true) by decide)] at H; exact H
     clear H
     have H := H1
     clear H1
     have H' := ka H
     clear H
     go_wp2
     repeat (go_quiet (fail); try go_wp2)
     go_meet
     case rel => exact ⟨_, ((1 != q511)), (by first | rfl | (simp; done) | (simp [*]; done) | (simp [*]; rw [bne, Bool.not_not]; exact BEq.comm)), H', ⟨by first | omega | exact Nat.le_refl _⟩, ⟨kr HO509.out⟩, ⟨by repeat (first | (with_reducible first | exact HB.out | apply kc1 | apply kc2 | apply kc3) | exact HB.out)⟩⟩
  case rest =>
   clear HC10
   try clear c1
   try clear p2
   try clear c4
   try clear c5
   try clear c5b0
   try clear c5b1
   try clear q5
   try clear c15
   try clear c16
   try clear q511
   obtain ⟨kq, x46_9, rfl, HA, HJ9, HO_9, HB⟩ := hcut
   cases kq with
   | zero => exact absurd HA.out (by simp [trivetlaw14_CalendarOuts.j0])
   | succ kj9 =>
    have H := HA.out
    clear HA
    simp only [trivetlaw14_CalendarOuts.j0] at H
    by_cases c17 : x46_9 = true
    ·subst c17
     have H1 : (none) = some r := by rw [if_pos rfl] at H; exact H
     clear H
     have H := H1
     clear H1
     exact absurd H (by simp)
    ·replace c17 := Bool.eq_false_iff.mpr c17
     subst c17
     have H1 : ((trivetref04_Of_s.f a1).bind fun bt512 => ((trivetref04_Of_s.f a2).bind fun bt517 => (if t510 = true then (if bt512.2.2.2 = true then (trivetlaw14_CalendarOuts.j1 kj9 l0 a1 a2 t504 t506 t507 (!bt517.2.2.2)) else (trivetlaw14_CalendarOuts.j1 kj9 l0 a1 a2 t504 t506 t507 true)) else (trivetlaw14_CalendarOuts.j1 kj9 l0 a1 a2 t504 t506 t507 true)))) = some r := by rw [if_neg (show ¬ (false = true) by decide)] at H; exact H
     clear H
     have H := H1
     clear H1
     replace H := Option.bind_eq_some_iff.mp H
     obtain ⟨⟨t512, t513, t514, t515⟩, A180, H⟩ := H
     replace H : ((trivetref04_Of_s.f a2).bind fun bt517 => (if t510 = true then (if t515 = true then (trivetlaw14_CalendarOuts.j1 kj9 l0 a1 a2 t504 t506 t507 (!bt517.2.2.2)) else (trivetlaw14_CalendarOuts.j1 kj9 l0 a1 a2 t504 t506 t507 true)) else (trivetlaw14_CalendarOuts.j1 kj9 l0 a1 a2 t504 t506 t507 true))) = some r := H
     have A18 := ka A180
     clear A180
     replace H := Option.bind_eq_some_iff.mp H
     obtain ⟨⟨t517, t518, t519, t520⟩, A190, H⟩ := H
     replace H : (if t510 = true then (if t515 = true then (trivetlaw14_CalendarOuts.j1 kj9 l0 a1 a2 t504 t506 t507 (!t520)) else (trivetlaw14_CalendarOuts.j1 kj9 l0 a1 a2 t504 t506 t507 true)) else (trivetlaw14_CalendarOuts.j1 kj9 l0 a1 a2 t504 t506 t507 true)) = some r := H
     have A19 := ka A190
     clear A190
     have HC20 := ka H
     clear H
     go_upto_region 11 with (first | (go_at_call 11; (with_reducible refine (trivetref04_Of_s.calls a1 t512 t513 t514 t515 _ A18.out).mono ?_); rintro e w21 ⟨rfl, hb⟩; replace HO_9 := ka (Kd.R_below (kr HO_9.out) hb); replace HB := ka (below_step (kw HB.out) hb); (try clear hb); (try clear hb2); (try clear hk); (try clear hi)) | ((with_reducible refine gate_dst (N := 12) rfl ?_); (try (refine gate_guard (by rfl) ?_; dsimp only)); refine kx (N := 12) (cs := #[.int .i64 0, .int .i64 0, .int .i64 0]) (t := 30) ?_; intro gb516 hg w22 hbox hb; have n0_ := ka (Kd.R_below (kr HO_9.out) hb); have n1_ := ka (below_step (kw HB.out) hb); have n2_ := ka (hbox); have n3_ := ka ((by rw [hg]; exact (below_size (kw HB.out)) : w.heap.size ≤ gb516)); have n4_ := n3_; clear HO_9; clear HB; have HO_9 := n0_; have HB := n1_; have BK516 := n2_; have GW516 := n3_; have GE516 := n4_; clear n0_ n1_ n2_ n3_ n4_; clear hb hbox hg; have hcz23 := blkAll3 BK516.out) | (go_at_call 11; (with_reducible refine (trivetref04_Of_s.calls a2 t517 t518 t519 t520 _ A19.out).mono ?_); rintro e w24 ⟨rfl, hb⟩; replace HO_9 := ka (Kd.R_below (kr ((Kd.R_mono (Kd.R_far (p := ⟨gb516, 2, none⟩) (Kd.R_far (p := ⟨gb516, 1, none⟩) (Kd.R_far (p := ⟨gb516, 0, none⟩) (Kd.R_types HO_9.out BK516.out (by decide)) (fun _ hk => hk.2) (.int .i64 t512)) (fun _ hk => hk.2) (.int .i64 t513)) (fun _ hk => hk.2) (.int .i64 t514)) (fun _ h_ => h_.1)))) hb); replace BK516 := ka (blk_below (g := gb516) (o := .cells #[.int .i64 t512, .int .i64 t513, .int .i64 t514] 30 (0, 0)) (by (with_reducible repeat (first | apply kb1 | apply kb2 | apply kb3 | apply blkPut3_2 | apply blkPut3_1 | apply blkPut3_0)); exact BK516.out) hb); replace HB := ka (below_step (kw HB.out) hb); (try clear hb); (try clear hb2); (try clear hk); (try clear hi)) | ((with_reducible refine gate_dst (N := 14) rfl ?_); (try (refine gate_guard (by rfl) ?_; dsimp only)); refine kx (N := 14) (cs := #[.int .i64 0, .int .i64 0, .int .i64 0]) (t := 30) ?_; intro gb521 hg w25 hbox hb; have n0_ := ka (Kd.R_below (kr HO_9.out) hb); have n1_ := ka (blk_below (g := gb516) (kz BK516.out) hb); have n2_ := ka (below_step (kw HB.out) hb); have n3_ := ka (hbox); have n4_ := ka ((by rw [hg]; exact (below_size (kw HB.out)) : w.heap.size ≤ gb521)); have n5_ := n4_; have n6_ := ka ((by rw [hg]; exact Nat.ne_of_lt (blk_lt (g := gb516) (kz BK516.out)) : gb516 ≠ gb521)); have n7_ := ka n6_.out.symm; clear HO_9; clear BK516; clear HB; have HO_9 := n0_; have BK516 := n1_; have HB := n2_; have BK521 := n3_; have GW521 := n4_; have GE521 := n5_; have NB516_521 := n6_; have NB521_516 := n7_; clear n0_ n1_ n2_ n3_ n4_ n5_ n6_ n7_; clear hb hbox hg; have hnb26 := NB521_516.out; have hnc26 := NB516_521.out; have hcz27 := blkAll3 BK521.out))
     repeat (go_quiet (first | (go_at_call 11; (with_reducible refine (trivetref04_Of_s.calls a1 t512 t513 t514 t515 _ A18.out).mono ?_); rintro e w21 ⟨rfl, hb⟩; replace HO_9 := ka (Kd.R_below (kr HO_9.out) hb); replace HB := ka (below_step (kw HB.out) hb); (try clear hb); (try clear hb2); (try clear hk); (try clear hi)) | ((with_reducible refine gate_dst (N := 12) rfl ?_); (try (refine gate_guard (by rfl) ?_; dsimp only)); refine kx (N := 12) (cs := #[.int .i64 0, .int .i64 0, .int .i64 0]) (t := 30) ?_; intro gb516 hg w22 hbox hb; have n0_ := ka (Kd.R_below (kr HO_9.out) hb); have n1_ := ka (below_step (kw HB.out) hb); have n2_ := ka (hbox); have n3_ := ka ((by rw [hg]; exact (below_size (kw HB.out)) : w.heap.size ≤ gb516)); have n4_ := n3_; clear HO_9; clear HB; have HO_9 := n0_; have HB := n1_; have BK516 := n2_; have GW516 := n3_; have GE516 := n4_; clear n0_ n1_ n2_ n3_ n4_; clear hb hbox hg; have hcz23 := blkAll3 BK516.out) | (go_at_call 11; (with_reducible refine (trivetref04_Of_s.calls a2 t517 t518 t519 t520 _ A19.out).mono ?_); rintro e w24 ⟨rfl, hb⟩; replace HO_9 := ka (Kd.R_below (kr ((Kd.R_mono (Kd.R_far (p := ⟨gb516, 2, none⟩) (Kd.R_far (p := ⟨gb516, 1, none⟩) (Kd.R_far (p := ⟨gb516, 0, none⟩) (Kd.R_types HO_9.out BK516.out (by decide)) (fun _ hk => hk.2) (.int .i64 t512)) (fun _ hk => hk.2) (.int .i64 t513)) (fun _ hk => hk.2) (.int .i64 t514)) (fun _ h_ => h_.1)))) hb); replace BK516 := ka (blk_below (g := gb516) (o := .cells #[.int .i64 t512, .int .i64 t513, .int .i64 t514] 30 (0, 0)) (by (with_reducible repeat (first | apply kb1 | apply kb2 | apply kb3 | apply blkPut3_2 | apply blkPut3_1 | apply blkPut3_0)); exact BK516.out) hb); replace HB := ka (below_step (kw HB.out) hb); (try clear hb); (try clear hb2); (try clear hk); (try clear hi)) | ((with_reducible refine gate_dst (N := 14) rfl ?_); (try (refine gate_guard (by rfl) ?_; dsimp only)); refine kx (N := 14) (cs := #[.int .i64 0, .int .i64 0, .int .i64 0]) (t := 30) ?_; intro gb521 hg w25 hbox hb; have n0_ := ka (Kd.R_below (kr HO_9.out) hb); have n1_ := ka (blk_below (g := gb516) (kz BK516.out) hb); have n2_ := ka (below_step (kw HB.out) hb); have n3_ := ka (hbox); have n4_ := ka ((by rw [hg]; exact (below_size (kw HB.out)) : w.heap.size ≤ gb521)); have n5_ := n4_; have n6_ := ka ((by rw [hg]; exact Nat.ne_of_lt (blk_lt (g := gb516) (kz BK516.out)) : gb516 ≠ gb521)); have n7_ := ka n6_.out.symm; clear HO_9; clear BK516; clear HB; have HO_9 := n0_; have BK516 := n1_; have HB := n2_; have BK521 := n3_; have GW521 := n4_; have GE521 := n5_; have NB516_521 := n6_; have NB521_516 := n7_; clear n0_ n1_ n2_ n3_ n4_ n5_ n6_ n7_; clear hb hbox hg; have hnb26 := NB521_516.out; have hnc26 := NB516_521.out; have hcz27 := blkAll3 BK521.out)); go_upto_region 11 with (first | (go_at_call 11; (with_reducible refine (trivetref04_Of_s.calls a1 t512 t513 t514 t515 _ A18.out).mono ?_); rintro e w21 ⟨rfl, hb⟩; replace HO_9 := ka (Kd.R_below (kr HO_9.out) hb); replace HB := ka (below_step (kw HB.out) hb); (try clear hb); (try clear hb2); (try clear hk); (try clear hi)) | ((with_reducible refine gate_dst (N := 12) rfl ?_); (try (refine gate_guard (by rfl) ?_; dsimp only)); refine kx (N := 12) (cs := #[.int .i64 0, .int .i64 0, .int .i64 0]) (t := 30) ?_; intro gb516 hg w22 hbox hb; have n0_ := ka (Kd.R_below (kr HO_9.out) hb); have n1_ := ka (below_step (kw HB.out) hb); have n2_ := ka (hbox); have n3_ := ka ((by rw [hg]; exact (below_size (kw HB.out)) : w.heap.size ≤ gb516)); have n4_ := n3_; clear HO_9; clear HB; have HO_9 := n0_; have HB := n1_; have BK516 := n2_; have GW516 := n3_; have GE516 := n4_; clear n0_ n1_ n2_ n3_ n4_; clear hb hbox hg; have hcz23 := blkAll3 BK516.out) | (go_at_call 11; (with_reducible refine (trivetref04_Of_s.calls a2 t517 t518 t519 t520 _ A19.out).mono ?_); rintro e w24 ⟨rfl, hb⟩; replace HO_9 := ka (Kd.R_below (kr ((Kd.R_mono (Kd.R_far (p := ⟨gb516, 2, none⟩) (Kd.R_far (p := ⟨gb516, 1, none⟩) (Kd.R_far (p := ⟨gb516, 0, none⟩) (Kd.R_types HO_9.out BK516.out (by decide)) (fun _ hk => hk.2) (.int .i64 t512)) (fun _ hk => hk.2) (.int .i64 t513)) (fun _ hk => hk.2) (.int .i64 t514)) (fun _ h_ => h_.1)))) hb); replace BK516 := ka (blk_below (g := gb516) (o := .cells #[.int .i64 t512, .int .i64 t513, .int .i64 t514] 30 (0, 0)) (by (with_reducible repeat (first | apply kb1 | apply kb2 | apply kb3 | apply blkPut3_2 | apply blkPut3_1 | apply blkPut3_0)); exact BK516.out) hb); replace HB := ka (below_step (kw HB.out) hb); (try clear hb); (try clear hb2); (try clear hk); (try clear hi)) | ((with_reducible refine gate_dst (N := 14) rfl ?_); (try (refine gate_guard (by rfl) ?_; dsimp only)); refine kx (N := 14) (cs := #[.int .i64 0, .int .i64 0, .int .i64 0]) (t := 30) ?_; intro gb521 hg w25 hbox hb; have n0_ := ka (Kd.R_below (kr HO_9.out) hb); have n1_ := ka (blk_below (g := gb516) (kz BK516.out) hb); have n2_ := ka (below_step (kw HB.out) hb); have n3_ := ka (hbox); have n4_ := ka ((by rw [hg]; exact (below_size (kw HB.out)) : w.heap.size ≤ gb521)); have n5_ := n4_; have n6_ := ka ((by rw [hg]; exact Nat.ne_of_lt (blk_lt (g := gb516) (kz BK516.out)) : gb516 ≠ gb521)); have n7_ := ka n6_.out.symm; clear HO_9; clear BK516; clear HB; have HO_9 := n0_; have BK516 := n1_; have HB := n2_; have BK521 := n3_; have GW521 := n4_; have GE521 := n5_; have NB516_521 := n6_; have NB521_516 := n7_; clear n0_ n1_ n2_ n3_ n4_ n5_ n6_ n7_; clear hb hbox hg; have hnb26 := NB521_516.out; have hnc26 := NB516_521.out; have hcz27 := blkAll3 BK521.out)))
     (try simp only [Act.put, List.setIfInBounds_toArray, List.set_cons_zero, List.set_cons_succ])
     go_cut [66] (fun v66 wc => ∃ (kq : Nat) (x66_19 : Bool), v66 = .bool x66_19 ∧ Aside0 (trivetlaw14_CalendarOuts.j1 kq l0 a1 a2 t504 t506 t507 x66_19 = some r) ∧ Aside0 (kq ≤ kj9) ∧ Aside0 (Kd.R k45 45 wc w.heap.size (fun _ => True) v508 t506) ∧ Aside0 (wc.heap[gb516]? = some (.cells #[.int .i64 t512, .int .i64 t513, .int .i64 t514] 30 (0, 0))) ∧ Aside0 (wc.heap[gb521]? = some (.cells #[.int .i64 t517, .int .i64 t518, .int .i64 t519] 30 (0, 0))) ∧ Aside0 (Below w.heap.size w wc))
     case first =>
      have H := HC20.out
      clear HC20
      by_cases c28 : t510 = true
      ·subst c28
       have H1 : (if t515 = true then (trivetlaw14_CalendarOuts.j1 kj9 l0 a1 a2 t504 t506 t507 (!t520)) else (trivetlaw14_CalendarOuts.j1 kj9 l0 a1 a2 t504 t506 t507 true)) = some r := by rw [if_pos rfl] at H; exact H
       clear H
       have H := H1
       clear H1
       by_cases c29 : t515 = true
       ·subst c29
        have H1 : (trivetlaw14_CalendarOuts.j1 kj9 l0 a1 a2 t504 t506 t507 (!t520)) = some r := by rw [if_pos rfl] at H; exact H
        clear H
        have H := H1
        clear H1
        have H' := ka H
        clear H
        go_wp2
        repeat (go_quiet (fail); try go_wp2)
        go_meet
        case rel => exact ⟨_, (!t520), (by first | rfl | (simp; done) | (simp [*]; done)), H', ⟨by have := HJ9.out; first | omega | exact Nat.le_refl _⟩, ⟨kr (Kd.R_mono (Kd.R_far (p := ⟨gb521, 2, none⟩) (Kd.R_far (p := ⟨gb521, 1, none⟩) (Kd.R_far (p := ⟨gb521, 0, none⟩) (Kd.R_types HO_9.out BK521.out (by decide)) (fun _ hk => hk.2) (.int .i64 t517)) (fun _ hk => hk.2) (.int .i64 t518)) (fun _ hk => hk.2) (.int .i64 t519)) (fun _ hk => trivial))⟩, ⟨by (with_reducible repeat (first | apply kb1 | apply kb2 | apply kb3 | refine kb4 ?_ NB516_521.out _)); exact BK516.out⟩, ⟨by (with_reducible repeat (first | apply kb1 | apply kb2 | apply kb3 | apply blkPut3_2 | apply blkPut3_1 | apply blkPut3_0)); exact BK521.out⟩, ⟨by repeat (first | (with_reducible first | exact HB.out | apply kc1 | apply kc2 | apply kc3 | refine kc4 ?_ GE516.out | refine kc4 ?_ GE521.out) | exact HB.out)⟩⟩
       ·replace c29 := Bool.eq_false_iff.mpr c29
        subst c29
        have H1 : (trivetlaw14_CalendarOuts.j1 kj9 l0 a1 a2 t504 t506 t507 true) = some r := by rw [if_neg (show ¬ (false = true) by decide)] at H; exact H
        clear H
        have H := H1
        clear H1
        have H' := ka H
        clear H
        go_wp2
        repeat (go_quiet (fail); try go_wp2)
        go_meet
        case rel => exact ⟨_, (true), (by first | rfl | (simp; done) | (simp [*]; done)), H', ⟨by have := HJ9.out; first | omega | exact Nat.le_refl _⟩, ⟨kr (Kd.R_mono (Kd.R_far (p := ⟨gb521, 2, none⟩) (Kd.R_far (p := ⟨gb521, 1, none⟩) (Kd.R_far (p := ⟨gb521, 0, none⟩) (Kd.R_types HO_9.out BK521.out (by decide)) (fun _ hk => hk.2) (.int .i64 t517)) (fun _ hk => hk.2) (.int .i64 t518)) (fun _ hk => hk.2) (.int .i64 t519)) (fun _ hk => trivial))⟩, ⟨by (with_reducible repeat (first | apply kb1 | apply kb2 | apply kb3 | refine kb4 ?_ NB516_521.out _)); exact BK516.out⟩, ⟨by (with_reducible repeat (first | apply kb1 | apply kb2 | apply kb3 | apply blkPut3_2 | apply blkPut3_1 | apply blkPut3_0)); exact BK521.out⟩, ⟨by repeat (first | (with_reducible first | exact HB.out | apply kc1 | apply kc2 | apply kc3 | refine kc4 ?_ GE516.out | refine kc4 ?_ GE521.out) | exact HB.out)⟩⟩
      ·replace c28 := Bool.eq_false_iff.mpr c28
       subst c28
       have H1 : (trivetlaw14_CalendarOuts.j1 kj9 l0 a1 a2 t504 t506 t507 true) = some r := by rw [if_neg (show ¬ (false = true) by decide)] at H; exact H
       clear H
       have H := H1
       clear H1
       have H' := ka H
       clear H
       go_wp2
       repeat (go_quiet (fail); try go_wp2)
       go_meet
       case rel => exact ⟨_, (true), (by first | rfl | (simp; done) | (simp [*]; done)), H', ⟨by have := HJ9.out; first | omega | exact Nat.le_refl _⟩, ⟨kr (Kd.R_mono (Kd.R_far (p := ⟨gb521, 2, none⟩) (Kd.R_far (p := ⟨gb521, 1, none⟩) (Kd.R_far (p := ⟨gb521, 0, none⟩) (Kd.R_types HO_9.out BK521.out (by decide)) (fun _ hk => hk.2) (.int .i64 t517)) (fun _ hk => hk.2) (.int .i64 t518)) (fun _ hk => hk.2) (.int .i64 t519)) (fun _ hk => trivial))⟩, ⟨by (with_reducible repeat (first | apply kb1 | apply kb2 | apply kb3 | refine kb4 ?_ NB516_521.out _)); exact BK516.out⟩, ⟨by (with_reducible repeat (first | apply kb1 | apply kb2 | apply kb3 | apply blkPut3_2 | apply blkPut3_1 | apply blkPut3_0)); exact BK521.out⟩, ⟨by repeat (first | (with_reducible first | exact HB.out | apply kc1 | apply kc2 | apply kc3 | refine kc4 ?_ GE516.out | refine kc4 ?_ GE521.out) | exact HB.out)⟩⟩
     case rest =>
      clear HC20
      try clear c1
      try clear c2
      try clear p2
      try clear c4
      try clear c5
      try clear c5b0
      try clear c5b1
      try clear q5
      try clear c15
      try clear c16
      try clear c17
      try clear c26
      try clear c28
      try clear c29
      try clear hcz23
      try clear hcz27
      try clear p2
      try clear q5
      try clear q511
      obtain ⟨kq, x66_19, rfl, HA, HJ19, HO_9, BK516, BK521, HB⟩ := hcut
      cases kq with
      | zero => exact absurd HA.out (by simp [trivetlaw14_CalendarOuts.j1])
      | succ kj19 =>
       have H := HA.out
       clear HA
       simp only [trivetlaw14_CalendarOuts.j1] at H
       by_cases c30 : x66_19 = true
       ·subst c30
        have H1 : (if t504 = true then (if t507.isNone = true then (none) else (if (t507.getD 0) = 1 then (some ((t506.length : Int) == 0)) else (none))) else (none)) = some r := by rw [if_pos rfl] at H; exact H
        clear H
        have H := H1
        clear H1
        by_cases c31 : t504 = true
        ·subst c31
         have H1 : (if t507.isNone = true then (none) else (if (t507.getD 0) = 1 then (some ((t506.length : Int) == 0)) else (none))) = some r := by rw [if_pos rfl] at H; exact H
         clear H
         have H := H1
         clear H1
         rcases t507 with _ | q522
         ·have H1 : (none) = some r := by rw [if_pos (show (none : Option Int).isNone = true by rfl)] at H; exact H
          clear H
          have H := H1
          clear H1
          try simp only [errW_none, errW_some]
          exact absurd H (by simp)
         ·have H1 : (if q522 = 1 then (some ((t506.length : Int) == 0)) else (none)) = some r := by rw [if_neg (show ¬ (some q522).isNone = true by simp)] at H; exact H
          clear H
          have H := H1
          clear H1
          try simp only [errW_none, errW_some]
          by_cases c32 : q522 = 1
          ·rw [if_pos c32] at H
           have c32b0 : (q522 == 1) = true := beq_iff_eq.mpr c32
           have c32b1 : (q522 != 1) = false := bne_eq_false_iff_eq.mpr c32
           clear c32
           obtain rfl := Option.some.inj H
           obtain ⟨Ao33, co33, eo33⟩ := Kd.R_slice HO_9.out
           subst eo33
           go_wp2
           repeat (go_quiet (fail); try go_wp2)
           go_ret
           exact ⟨by first | rfl | (simp [errW_none, errW_some] <;> rfl) | (simp [*, errW_none, errW_some] <;> rfl), by repeat (first | (with_reducible first | exact HB.out | apply kc1 | apply kc2 | apply kc3 | refine kc4 ?_ GE516.out | refine kc4 ?_ GE521.out) | exact HB.out)⟩
          ·rw [if_neg c32] at H
           exact absurd H (by simp)
        ·replace c31 := Bool.eq_false_iff.mpr c31
         subst c31
         have H1 : (none) = some r := by rw [if_neg (show ¬ (false = true) by decide)] at H; exact H
         clear H
         have H := H1
         clear H1
         exact absurd H (by simp)
       ·replace c30 := Bool.eq_false_iff.mpr c30
        subst c30
        have H1 : ((trivetref14_Outs.f kj19 l0 a1 a2).bind fun t523 => (if t507.isNone = true then (trivetlaw14_CalendarOuts.j2 kj19 t504 t506 t523 ((t506.length : Int) != (t523.length : Int))) else (trivetlaw14_CalendarOuts.j2 kj19 t504 t506 t523 true))) = some r := by rw [if_neg (show ¬ (false = true) by decide)] at H; exact H
        clear H
        have H := H1
        clear H1
        replace H := Option.bind_eq_some_iff.mp H
        obtain ⟨t523, A340, H⟩ := H
        replace H : (if t507.isNone = true then (trivetlaw14_CalendarOuts.j2 kj19 t504 t506 t523 ((t506.length : Int) != (t523.length : Int))) else (trivetlaw14_CalendarOuts.j2 kj19 t504 t506 t523 true)) = some r := H
        have A34 := ka A340
        clear A340
        have HC35 := ka H
        clear H
        go_upto_region 14 with (first | (go_at_call 18; (with_reducible refine (trivetref14_Outs.calls kj19 _ _ l0 a1 a2 t523 _ ?side1 ?side2 A34.out).mono ?_); (case side1 => repeat (first | exact (Kd.C_below HR0.out HB.out) | (with_reducible refine Kd.C_alloc ?_ _) | (with_reducible refine Kd.C_drewN ?_ _) | (with_reducible refine Kd.C_drew ?_))); (case side2 => exact HC0.out); rintro e w36 ⟨v524, rfl, ho0, hb⟩; have HO525 := ka (Kd.R_lower (Kd.R_new' ho0 (Kd.R_lt (kr HO_9.out))) (below_size (kw HB.out))); replace HO_9 := ka (Kd.R_elder' (kr HO_9.out) (Kd.R_base ho0) hb); replace BK516 := kbb BK516 hb; replace BK521 := kbb BK521 hb; replace HB := ka (below_step (kw HB.out) hb); (try clear hb); (try clear hb2); (try clear hk); (try clear hi); (try clear ho0)))
        repeat (go_quiet (first | (go_at_call 18; (with_reducible refine (trivetref14_Outs.calls kj19 _ _ l0 a1 a2 t523 _ ?side1 ?side2 A34.out).mono ?_); (case side1 => repeat (first | exact (Kd.C_below HR0.out HB.out) | (with_reducible refine Kd.C_alloc ?_ _) | (with_reducible refine Kd.C_drewN ?_ _) | (with_reducible refine Kd.C_drew ?_))); (case side2 => exact HC0.out); rintro e w36 ⟨v524, rfl, ho0, hb⟩; have HO525 := ka (Kd.R_lower (Kd.R_new' ho0 (Kd.R_lt (kr HO_9.out))) (below_size (kw HB.out))); replace HO_9 := ka (Kd.R_elder' (kr HO_9.out) (Kd.R_base ho0) hb); replace BK516 := kbb BK516 hb; replace BK521 := kbb BK521 hb; replace HB := ka (below_step (kw HB.out) hb); (try clear hb); (try clear hb2); (try clear hk); (try clear hi); (try clear ho0))); go_upto_region 14 with (first | (go_at_call 18; (with_reducible refine (trivetref14_Outs.calls kj19 _ _ l0 a1 a2 t523 _ ?side1 ?side2 A34.out).mono ?_); (case side1 => repeat (first | exact (Kd.C_below HR0.out HB.out) | (with_reducible refine Kd.C_alloc ?_ _) | (with_reducible refine Kd.C_drewN ?_ _) | (with_reducible refine Kd.C_drew ?_))); (case side2 => exact HC0.out); rintro e w36 ⟨v524, rfl, ho0, hb⟩; have HO525 := ka (Kd.R_lower (Kd.R_new' ho0 (Kd.R_lt (kr HO_9.out))) (below_size (kw HB.out))); replace HO_9 := ka (Kd.R_elder' (kr HO_9.out) (Kd.R_base ho0) hb); replace BK516 := kbb BK516 hb; replace BK521 := kbb BK521 hb; replace HB := ka (below_step (kw HB.out) hb); (try clear hb); (try clear hb2); (try clear hk); (try clear hi); (try clear ho0))))
        (try simp only [Act.put, List.setIfInBounds_toArray, List.set_cons_zero, List.set_cons_succ])
        go_cut [90] (fun v90 wc => ∃ (kq : Nat) (x90_34 : Bool), v90 = .bool x90_34 ∧ Aside0 (trivetlaw14_CalendarOuts.j2 kq t504 t506 t523 x90_34 = some r) ∧ Aside0 (kq ≤ kj19) ∧ Aside0 (Kd.R k45 45 wc w.heap.size (fun k_ => some k_ ≠ (v524 : Value).ownBlock) v508 t506) ∧ Aside0 (Kd.R k45 45 wc w.heap.size (fun k_ => some k_ ≠ (v508 : Value).ownBlock) v524 t523) ∧ Aside0 (wc.heap[gb516]? = some (.cells #[.int .i64 t512, .int .i64 t513, .int .i64 t514] 30 (0, 0))) ∧ Aside0 (wc.heap[gb521]? = some (.cells #[.int .i64 t517, .int .i64 t518, .int .i64 t519] 30 (0, 0))) ∧ Aside0 (Below w.heap.size w wc))
        case first =>
         have H := HC35.out
         clear HC35
         rcases t507 with _ | q526
         ·have H1 : (trivetlaw14_CalendarOuts.j2 kj19 t504 t506 t523 ((t506.length : Int) != (t523.length : Int))) = some r := by rw [if_pos (show (none : Option Int).isNone = true by rfl)] at H; exact H
          clear H
          have H := H1
          clear H1
          try simp only [errW_none, errW_some]
          have H' := ka H
          clear H
          obtain ⟨Ao37, co37, eo37⟩ := Kd.R_slice HO_9.out
          subst eo37
          obtain ⟨Ao38, co38, eo38⟩ := Kd.R_slice HO525.out
          subst eo38
          go_wp2
          repeat (go_quiet (fail); try go_wp2)
          go_meet
          case rel => exact ⟨_, (((t506.length : Int) != (t523.length : Int))), (by first | rfl | (simp; done) | (simp [*]; done)), H', ⟨by have := HJ9.out; have := HJ19.out; first | omega | exact Nat.le_refl _⟩, ⟨kr (Kd.R_mono HO_9.out (fun _ hk => hk.2))⟩, ⟨kr (Kd.R_mono HO525.out (fun _ hk => hk.2))⟩, ⟨by (with_reducible repeat (first | apply kb1 | apply kb2 | apply kb3)); exact BK516.out⟩, ⟨by (with_reducible repeat (first | apply kb1 | apply kb2 | apply kb3)); exact BK521.out⟩, ⟨by repeat (first | (with_reducible first | exact HB.out | apply kc1 | apply kc2 | apply kc3 | refine kc4 ?_ GE516.out | refine kc4 ?_ GE521.out) | exact HB.out)⟩⟩
         ·have H1 : (trivetlaw14_CalendarOuts.j2 kj19 t504 t506 t523 true) = some r := by rw [if_neg (show ¬ (some q526).isNone = true by simp)] at H; exact H
          clear H
          have H := H1
          clear H1
          try simp only [errW_none, errW_some]
          have H' := ka H
          clear H
          go_wp2
          repeat (go_quiet (fail); try go_wp2)
          go_meet
          case rel => exact ⟨_, (true), (by first | rfl | (simp; done) | (simp [*]; done)), H', ⟨by have := HJ9.out; have := HJ19.out; first | omega | exact Nat.le_refl _⟩, ⟨kr (Kd.R_mono HO_9.out (fun _ hk => hk.2))⟩, ⟨kr (Kd.R_mono HO525.out (fun _ hk => hk.2))⟩, ⟨by (with_reducible repeat (first | apply kb1 | apply kb2 | apply kb3)); exact BK516.out⟩, ⟨by (with_reducible repeat (first | apply kb1 | apply kb2 | apply kb3)); exact BK521.out⟩, ⟨by repeat (first | (with_reducible first | exact HB.out | apply kc1 | apply kc2 | apply kc3 | refine kc4 ?_ GE516.out | refine kc4 ?_ GE521.out) | exact HB.out)⟩⟩
        case rest =>
         clear HC35
         try clear c1
         try clear c2
         try clear p2
         try clear c3
         try clear c4
         try clear c5
         try clear c5b0
         try clear c5b1
         try clear q5
         try clear c15
         try clear c16
         try clear c17
         try clear c26
         try clear c28
         try clear c29
         try clear c30
         try clear c31
         try clear c32
         try clear c32b0
         try clear c32b1
         try clear hcz23
         try clear hcz27
         try clear p2
         try clear q5
         try clear q511
         try clear q522
         try clear q526
         obtain ⟨kq, x90_34, rfl, HA, HJ34, HO_9, HO_16, BK516, BK521, HB⟩ := hcut
         cases kq with
         | zero => exact absurd HA.out (by simp [trivetlaw14_CalendarOuts.j2])
         | succ kj34 =>
          have H := HA.out
          clear HA
          simp only [trivetlaw14_CalendarOuts.j2] at H
          by_cases c39 : x90_34 = true
          ·subst c39
           have H1 : (none) = some r := by rw [if_pos rfl] at H; exact H
           clear H
           have H := H1
           clear H1
           exact absurd H (by simp)
          ·replace c39 := Bool.eq_false_iff.mpr c39
           subst c39
           have H1 : (trivetlaw14_CalendarOuts.l0 kj34 t504 t506 t523 0) = some r := by rw [if_neg (show ¬ (false = true) by decide)] at H; exact H
           clear H
           have H := H1
           clear H1
           have H' := ka H
           clear H
           go_wp2
           repeat (go_quiet (fail); try go_wp2)
           (try simp only [Act.put, List.setIfInBounds_toArray, List.set_cons_zero, List.set_cons_succ])
           go_loopg [17] kj34 (fun kq v17 w' => ∃ (x17_4 : Int), v17 = .int .i64 x17_4 ∧ Aside0 (trivetlaw14_CalendarOuts.l0 kq t504 t506 t523 x17_4 = some r) ∧ Aside0 (kq ≤ kj34) ∧ Aside0 (Kd.R k45 45 w' w.heap.size (fun k_ => some k_ ≠ (v524 : Value).ownBlock) v508 t506) ∧ Aside0 (Kd.R k45 45 w' w.heap.size (fun k_ => some k_ ≠ (v508 : Value).ownBlock) v524 t523) ∧ Aside0 (w'.heap[gb516]? = some (.cells #[.int .i64 t512, .int .i64 t513, .int .i64 t514] 30 (0, 0))) ∧ Aside0 (w'.heap[gb521]? = some (.cells #[.int .i64 t517, .int .i64 t518, .int .i64 t519] 30 (0, 0))) ∧ Aside0 (Below w.heap.size w w'))
           case atStart => exact ⟨(0), (by first | rfl | (simp; done) | (simp [*]; done)), H', ⟨Nat.le_refl _⟩, ⟨kr HO_9.out⟩, ⟨kr HO_16.out⟩, ⟨by (with_reducible repeat (first | apply kb1 | apply kb2 | apply kb3)); exact BK516.out⟩, ⟨by (with_reducible repeat (first | apply kb1 | apply kb2 | apply kb3)); exact BK521.out⟩, ⟨by repeat (first | (with_reducible first | exact HB.out | apply kc1 | apply kc2 | apply kc3 | refine kc4 ?_ GE516.out | refine kc4 ?_ GE521.out) | exact HB.out)⟩⟩
           case round =>
            clear H'
            try clear c1
            try clear c2
            try clear p2
            try clear c3
            try clear c4
            try clear c5
            try clear c5b0
            try clear c5b1
            try clear q5
            try clear c15
            try clear c16
            try clear c17
            try clear c26
            try clear c28
            try clear c29
            try clear c30
            try clear c31
            try clear c32
            try clear c32b0
            try clear c32b1
            try clear c39
            try clear hcz23
            try clear hcz27
            try clear p2
            try clear q5
            try clear q511
            try clear q522
            try clear q526
            obtain ⟨x17_4, rfl, HA, HK4, HO_9, HO_16, BK516, BK521, HB⟩ := hrel
            cases gk with
            | zero => exact absurd HA.out (by simp [trivetlaw14_CalendarOuts.l0])
            | succ k4 =>
             have H := HA.out
             clear HA
             simp only [trivetlaw14_CalendarOuts.l0] at H
             by_cases c40 : x17_4 < (t506.length : Int)
             ·rw [if_pos c40] at H
              have c40b0 : decide (x17_4 < (t506.length : Int)) = true := decide_eq_true c40
              clear c40
              by_cases c41 : 0 ≤ x17_4
              ·rw [if_pos c41] at H
               have c41b0 : decide (0 ≤ x17_4) = true := decide_eq_true c41
               clear c41
               by_cases c42 : x17_4 < (t523.length : Int)
               ·rw [if_pos c42] at H
                have c42b0 : decide (x17_4 < (t523.length : Int)) = true := decide_eq_true c42
                clear c42
                by_cases c43 : (!(((rd_T45 t506 x17_4).f0) == ((rd_T45 t523 x17_4).f0)) || (!(((rd_T45 t506 x17_4).f1) == ((rd_T45 t523 x17_4).f1)) || (!(((rd_T45 t506 x17_4).f2) == ((rd_T45 t523 x17_4).f2))))) = true
                ·rw [if_pos c43] at H
                 exact absurd H (by simp)
                ·rw [if_neg c43] at H
                 have c43b0 : (!(((rd_T45 t506 x17_4).f0) == ((rd_T45 t523 x17_4).f0)) || (!(((rd_T45 t506 x17_4).f1) == ((rd_T45 t523 x17_4).f1)) || (!(((rd_T45 t506 x17_4).f2) == ((rd_T45 t523 x17_4).f2))))) = false := by simpa using c43
                 clear c43
                 have H' := ka H
                 clear H
                 obtain ⟨Ao44, co44, eo44⟩ := Kd.R_slice HO_9.out
                 subst eo44
                 have p527 : 0 ≤ (x17_4 : Int) := of_decide_eq_true (by first | (with_reducible assumption) | assumption)
                 have q527 : x17_4 < (t506.length : Int) := of_decide_eq_true (by first | (with_reducible assumption) | assumption)
                 obtain ⟨ad527, e527, hx527_0, hx527_1, hx527_2⟩ := at_T45 (Kd.R_reads' HO_9.out).2.2 x17_4 p527 q527
                 cases e527
                 replace p527 := eq_true p527
                 replace q527 := eq_true q527
                 obtain ⟨Ao45, co45, eo45⟩ := Kd.R_slice HO_16.out
                 subst eo45
                 have p528 : 0 ≤ (x17_4 : Int) := of_decide_eq_true (by first | (with_reducible assumption) | assumption)
                 have q528 : x17_4 < (t523.length : Int) := of_decide_eq_true (by first | (with_reducible assumption) | assumption)
                 obtain ⟨ad528, e528, hx528_0, hx528_1, hx528_2⟩ := at_T45 (Kd.R_reads' HO_16.out).2.2 x17_4 p528 q528
                 cases e528
                 replace p528 := eq_true p528
                 replace q528 := eq_true q528
                 go_wp2
                 repeat (go_quiet (fail); try go_wp2)
                 go_roundg k4
                 case measure => have := HJ9.out; have := HJ19.out; have := HJ34.out; have := HK4.out; omega
                 case rel => exact ⟨(wrap64 (x17_4 + 1)), (by first | rfl | (simp; done) | (simp [*]; done)), H', ⟨by have := HJ9.out; have := HJ19.out; have := HJ34.out; have := HK4.out; omega⟩, ⟨kr HO_9.out⟩, ⟨kr HO_16.out⟩, ⟨by (with_reducible repeat (first | apply kb1 | apply kb2 | apply kb3)); exact BK516.out⟩, ⟨by (with_reducible repeat (first | apply kb1 | apply kb2 | apply kb3)); exact BK521.out⟩, ⟨by repeat (first | (with_reducible first | exact HB.out | apply kc1 | apply kc2 | apply kc3 | refine kc4 ?_ GE516.out | refine kc4 ?_ GE521.out) | exact HB.out)⟩⟩
               ·rw [if_neg c42] at H
                exact absurd H (by simp)
              ·rw [if_neg c41] at H
               exact absurd H (by simp)
             ·rw [if_neg c40] at H
              have c40b0 : decide (x17_4 < (t506.length : Int)) = false := decide_eq_false c40
              clear c40
              obtain rfl := Option.some.inj H
              obtain ⟨Ao46, co46, eo46⟩ := Kd.R_slice HO_9.out
              subst eo46
              go_wp2
              repeat (go_quiet (fail); try go_wp2)
              go_ret
              exact ⟨by first | rfl | (simp [errW_none, errW_some] <;> rfl) | (simp [*, errW_none, errW_some] <;> rfl), by repeat (first | (with_reducible first | exact HB.out | apply kc1 | apply kc2 | apply kc3 | refine kc4 ?_ GE516.out | refine kc4 ?_ GE521.out) | exact HB.out)⟩

/-- THE ONE PURE STATEMENT of trivetlaw14_CalendarOuts: yours. -/
def trivetlaw14_CalendarOuts.Pure : Prop := ∀ (l0 : List (S48)) (a1 : Int) (a2 : Int), l0.length ≤ maxLen → l0.length * 24 ≤ 140737488351232 → (∀ x ∈ l0, (Lit.int .i64 x.f0).wf = true ∧ (Lit.int .i64 x.f1).wf = true ∧ (Lit.int .i64 x.f2).wf = true) → (Lit.int .i64 a1).wf = true → (Lit.int .i64 a2).wf = true → ∃ k, trivetlaw14_CalendarOuts.f k l0 a1 a2 = some true
theorem trivetlaw14_CalendarOuts.walk (P : trivetlaw14_CalendarOuts.Pure) (a0 : Option Addr) (len0 cap0 : Nat) (l0 : List (S48)) (a1 : Int) (a2 : Int) (w : World) (w0 : Kd.C k48 w a0 len0 l0 ∧ len0 ≤ cap0 ∧ len0 ≤ maxLen ∧ (∀ x ∈ l0, (Lit.int .i64 x.f0).wf = true ∧ (Lit.int .i64 x.f1).wf = true ∧ (Lit.int .i64 x.f2).wf = true)) (y0 : len0 * 24 ≤ 140737488351232) (w1 : (Lit.int .i64 a1).wf = true) (w2 : (Lit.int .i64 a2).wf = true) :
  Calls Try.prog 4 #[.slice a0 len0 cap0, .int .i64 a1, .int .i64 a2] w fun e w' => e = .returned (.bool true) ∧ Below w.heap.size w w' := by
 obtain ⟨hr0, hc0, hm0, hw0⟩ := w0
 obtain rfl := Kd.C_len hr0
 obtain ⟨k, h⟩ := P l0 a1 a2 hm0 y0 hw0 w1 w2
 refine (trivetlaw14_CalendarOuts.calls k _ _ l0 a1 a2 true w hr0 hc0 h).mono ?_
 rintro e w' ⟨rfl, hd⟩
 exact ⟨rfl, hd⟩

end Go.Proofs.Ytmkfbaoglmmhjaa.P
