-- Written by a program of this session out of the translation of the seat: Lean functions and the proofs that the Go functions come to them.
import Derived.Test.YtmkfbaoglmmhjaaPx0
import Derived.Test.YtmkfbaoglmmhjaaPx1
import Derived.Test.YtmkfbaoglmmhjaaPx5
import Derived.Test.YtmkfbaoglmmhjaaPx8
namespace Go.Proofs.Ytmkfbaoglmmhjaa.P
open Go.RowKit Go.Proofs.YtmkfbaoglmmhjaaW.PrintWords Go.Proofs.YtmkfbaoglmmhjaaW.PrintLast Go.Proofs.YtmkfbaoglmmhjaaW.PrintMore
attribute [local go_sem] max2_int min2_int max_two min_two max_three min_three max_four min_four   -- for this text's walks alone
set_option linter.unusedVariables false
set_option linter.unusedSimpArgs false

attribute [local go_sem high] eqA45
/-! ### trivetlaw14_CalendarParts: function 7 -/
mutual
def trivetlaw14_CalendarParts.j0 : Nat → List (S48) → Int → Int → Int → Bool → Bool → Option (Bool)
 | 0, _, _, _, _, _, _ => none
 | k + 1, x0, x1, x2, x3, x9, x44 => if x44 = true then (some x9) else ((calendar_Outs.f k x0 x1 x3).bind fun bt593 => ((calendar_Outs.f k x0 x1 x2).bind fun bt597 => ((calendar_Outs.f k x0 x2 x3).bind fun bt601 => (if bt593.2.isNone = true then (if bt597.2.isNone = true then (if bt601.2.isNone = true then (trivetlaw14_CalendarParts.j1 k x9 bt593.1 none bt597.1 none bt601.1 none false) else (trivetlaw14_CalendarParts.j1 k x9 bt593.1 none bt597.1 none bt601.1 (some (bt601.2.getD 0)) true)) else (trivetlaw14_CalendarParts.j1 k x9 bt593.1 none bt597.1 (some (bt597.2.getD 0)) bt601.1 bt601.2 true)) else (trivetlaw14_CalendarParts.j1 k x9 bt593.1 (some (bt593.2.getD 0)) bt597.1 bt597.2 bt601.1 bt601.2 true)))))
def trivetlaw14_CalendarParts.j1 : Nat → Bool → List (S45) → Option Int → List (S45) → Option Int → List (S45) → Option Int → Bool → Option (Bool)
 | 0, _, _, _, _, _, _, _, _ => none
 | k + 1, x9, x10, x11, x12, x13, x14, x15, x76 => if x76 = true then (if x9 = true then (if x11.isNone = true then (if x15.isNone = true then (if x13.isNone = true then (none) else (some true)) else (some true)) else (some true)) else (none)) else (if (x10.length : Int) = (wrap64 ((x12.length : Int) + (x14.length : Int))) then (trivetlaw14_CalendarParts.l0 k x9 x10 x12 x14 0) else (none))
def trivetlaw14_CalendarParts.l0 : Nat → Bool → List (S45) → List (S45) → List (S45) → Int → Option (Bool)
 | 0, _, _, _, _, _ => none
 | k + 1, x9, x10, x12, x14, x16 => if x16 < (x10.length : Int) then (if x16 < (x12.length : Int) then (if 0 ≤ x16 then (if (!(((rd_T45 x10 x16).f0) == ((rd_T45 x12 x16).f0)) || (!(((rd_T45 x10 x16).f1) == ((rd_T45 x12 x16).f1)) || (!(((rd_T45 x10 x16).f2) == ((rd_T45 x12 x16).f2))))) = true then (none) else (if x16 ≥ (x12.length : Int) then (if 0 ≤ (wrap64 (x16 - (x12.length : Int))) then (if (wrap64 (x16 - (x12.length : Int))) < (x14.length : Int) then (if (!(((rd_T45 x10 x16).f0) == ((rd_T45 x14 (wrap64 (x16 - (x12.length : Int)))).f0)) || (!(((rd_T45 x10 x16).f1) == ((rd_T45 x14 (wrap64 (x16 - (x12.length : Int)))).f1)) || (!(((rd_T45 x10 x16).f2) == ((rd_T45 x14 (wrap64 (x16 - (x12.length : Int)))).f2))))) = true then (none) else (trivetlaw14_CalendarParts.l0 k x9 x10 x12 x14 (wrap64 (x16 + 1)))) else (none)) else (none)) else (trivetlaw14_CalendarParts.l0 k x9 x10 x12 x14 (wrap64 (x16 + 1))))) else (none)) else (if x16 ≥ (x12.length : Int) then (if 0 ≤ x16 then (if 0 ≤ (wrap64 (x16 - (x12.length : Int))) then (if (wrap64 (x16 - (x12.length : Int))) < (x14.length : Int) then (if (!(((rd_T45 x10 x16).f0) == ((rd_T45 x14 (wrap64 (x16 - (x12.length : Int)))).f0)) || (!(((rd_T45 x10 x16).f1) == ((rd_T45 x14 (wrap64 (x16 - (x12.length : Int)))).f1)) || (!(((rd_T45 x10 x16).f2) == ((rd_T45 x14 (wrap64 (x16 - (x12.length : Int)))).f2))))) = true then (none) else (trivetlaw14_CalendarParts.l0 k x9 x10 x12 x14 (wrap64 (x16 + 1)))) else (none)) else (none)) else (none)) else (trivetlaw14_CalendarParts.l0 k x9 x10 x12 x14 (wrap64 (x16 + 1))))) else (some x9)
end
def trivetlaw14_CalendarParts.f (k : Nat) (l0 : List (S48)) (a1 : Int) (a2 : Int) (a3 : Int) : Option (Bool) := (trivetlaw14_up.f k).bind fun t592 => (if (l0.length : Int) > 50 then (trivetlaw14_CalendarParts.j0 k l0 a1 a2 a3 t592 true) else (if a1 > a2 then (trivetlaw14_CalendarParts.j0 k l0 a1 a2 a3 t592 true) else (if a2 > a3 then (trivetlaw14_CalendarParts.j0 k l0 a1 a2 a3 t592 true) else (if (wrap64 (a3 - a1)) > 4000 then (trivetlaw14_CalendarParts.j0 k l0 a1 a2 a3 t592 true) else (if a1 < (-100000) then (trivetlaw14_CalendarParts.j0 k l0 a1 a2 a3 t592 true) else (trivetlaw14_CalendarParts.j0 k l0 a1 a2 a3 t592 (decide (a3 > 200000))))))))
theorem trivetlaw14_CalendarParts.mono_l : ∀ k, (∀ y0 y1 y2 y3 y4 y5, LeO (trivetlaw14_CalendarParts.j0 k y0 y1 y2 y3 y4 y5) (trivetlaw14_CalendarParts.j0 (k + 1) y0 y1 y2 y3 y4 y5)) ∧ (∀ y0 y1 y2 y3 y4 y5 y6 y7, LeO (trivetlaw14_CalendarParts.j1 k y0 y1 y2 y3 y4 y5 y6 y7) (trivetlaw14_CalendarParts.j1 (k + 1) y0 y1 y2 y3 y4 y5 y6 y7)) ∧ (∀ y0 y1 y2 y3 y4, LeO (trivetlaw14_CalendarParts.l0 k y0 y1 y2 y3 y4) (trivetlaw14_CalendarParts.l0 (k + 1) y0 y1 y2 y3 y4))
 | 0 => ⟨fun _ _ _ _ _ _ r h => by simp [trivetlaw14_CalendarParts.j0] at h, fun _ _ _ _ _ _ _ _ r h => by simp [trivetlaw14_CalendarParts.j1] at h, fun _ _ _ _ _ r h => by simp [trivetlaw14_CalendarParts.l0] at h⟩
 | k + 1 => by
  obtain ⟨ih0, ih1, ih2⟩ := trivetlaw14_CalendarParts.mono_l k
  refine ⟨?_, ?_, ?_⟩
  ·intro y0 y1 y2 y3 y4 y5
   unfold trivetlaw14_CalendarParts.j0
   repeat' first
   | (with_reducible exact ih0 _ _ _ _ _ _)
   | (with_reducible exact ih1 _ _ _ _ _ _ _ _)
   | (with_reducible exact ih2 _ _ _ _ _)
   | (with_reducible exact calendar_Outs.mono _ _ _ _)
   | (with_reducible exact trivetlaw14_up.mono _)
   | (with_reducible exact LeO.refl _)
   | (with_reducible exact LeO.none _)
   | (with_reducible refine LeO.ite ?_ ?_)
   | (with_reducible refine LeO.bind ?_ (fun _ => ?_))
   | exact ih0 _ _ _ _ _ _
   | exact ih1 _ _ _ _ _ _ _ _
   | exact ih2 _ _ _ _ _
   | exact calendar_Outs.mono _ _ _ _
   | exact trivetlaw14_up.mono _
   | exact LeO.none _
   | refine LeO.ite ?_ ?_
   | refine LeO.bind ?_ (fun _ => ?_)
  ·intro y0 y1 y2 y3 y4 y5 y6 y7
   unfold trivetlaw14_CalendarParts.j1
   repeat' first
   | (with_reducible exact ih0 _ _ _ _ _ _)
   | (with_reducible exact ih1 _ _ _ _ _ _ _ _)
   | (with_reducible exact ih2 _ _ _ _ _)
   | (with_reducible exact calendar_Outs.mono _ _ _ _)
   | (with_reducible exact trivetlaw14_up.mono _)
   | (with_reducible exact LeO.refl _)
   | (with_reducible exact LeO.none _)
   | (with_reducible refine LeO.ite ?_ ?_)
   | (with_reducible refine LeO.bind ?_ (fun _ => ?_))
   | exact ih0 _ _ _ _ _ _
   | exact ih1 _ _ _ _ _ _ _ _
   | exact ih2 _ _ _ _ _
   | exact calendar_Outs.mono _ _ _ _
   | exact trivetlaw14_up.mono _
   | exact LeO.none _
   | refine LeO.ite ?_ ?_
   | refine LeO.bind ?_ (fun _ => ?_)
  ·intro y0 y1 y2 y3 y4
   unfold trivetlaw14_CalendarParts.l0
   repeat' first
   | (with_reducible exact ih0 _ _ _ _ _ _)
   | (with_reducible exact ih1 _ _ _ _ _ _ _ _)
   | (with_reducible exact ih2 _ _ _ _ _)
   | (with_reducible exact calendar_Outs.mono _ _ _ _)
   | (with_reducible exact trivetlaw14_up.mono _)
   | (with_reducible exact LeO.refl _)
   | (with_reducible exact LeO.none _)
   | (with_reducible refine LeO.ite ?_ ?_)
   | (with_reducible refine LeO.bind ?_ (fun _ => ?_))
   | exact ih0 _ _ _ _ _ _
   | exact ih1 _ _ _ _ _ _ _ _
   | exact ih2 _ _ _ _ _
   | exact calendar_Outs.mono _ _ _ _
   | exact trivetlaw14_up.mono _
   | exact LeO.none _
   | refine LeO.ite ?_ ?_
   | refine LeO.bind ?_ (fun _ => ?_)
theorem trivetlaw14_CalendarParts.mono : ∀ a0 a1 a2 a3 k, LeO (trivetlaw14_CalendarParts.f k a0 a1 a2 a3) (trivetlaw14_CalendarParts.f (k + 1) a0 a1 a2 a3) := by
 intro a0 a1 a2 a3 k
 obtain ⟨ih0, ih1, ih2⟩ := trivetlaw14_CalendarParts.mono_l k
 unfold trivetlaw14_CalendarParts.f
 repeat' first
   | (with_reducible exact ih0 _ _ _ _ _ _)
   | (with_reducible exact ih1 _ _ _ _ _ _ _ _)
   | (with_reducible exact ih2 _ _ _ _ _)
   | (with_reducible exact calendar_Outs.mono _ _ _ _)
   | (with_reducible exact trivetlaw14_up.mono _)
   | (with_reducible exact LeO.refl _)
   | (with_reducible exact LeO.none _)
   | (with_reducible refine LeO.ite ?_ ?_)
   | (with_reducible refine LeO.bind ?_ (fun _ => ?_))
   | exact ih0 _ _ _ _ _ _
   | exact ih1 _ _ _ _ _ _ _ _
   | exact ih2 _ _ _ _ _
   | exact calendar_Outs.mono _ _ _ _
   | exact trivetlaw14_up.mono _
   | exact LeO.none _
   | refine LeO.ite ?_ ?_
   | refine LeO.bind ?_ (fun _ => ?_)
set_option maxHeartbeats 8000000 in
set_option maxRecDepth 100000 in
theorem trivetlaw14_CalendarParts.calls (k : Nat) (A0 : Option Addr) (c0 : Nat) (l0 : List (S48)) (a1 : Int) (a2 : Int) (a3 : Int) (r : Bool) (w : World) (hr0 : Kd.C k48 w A0 l0.length l0) (hc0 : l0.length ≤ c0) (h : trivetlaw14_CalendarParts.f k l0 a1 a2 a3 = some r) :
  Calls Try.prog 7 #[.slice A0 l0.length c0, .int .i64 a1, .int .i64 a2, .int .i64 a3] w fun e w' => e = .returned (.bool r) ∧ Below w.heap.size w w' := by
 have hu45 := Try.underlying45
 have hu26 := Try.underlying26
 have hu35 := Try.underlying35
 have HR0 := ka hr0
 have HC0 := ka hc0
 clear hr0 hc0
 have HB := ka (Below.refl w.heap.size w)
 have H : ((trivetlaw14_up.f k).bind fun t592 => (if (l0.length : Int) > 50 then (trivetlaw14_CalendarParts.j0 k l0 a1 a2 a3 t592 true) else (if a1 > a2 then (trivetlaw14_CalendarParts.j0 k l0 a1 a2 a3 t592 true) else (if a2 > a3 then (trivetlaw14_CalendarParts.j0 k l0 a1 a2 a3 t592 true) else (if (wrap64 (a3 - a1)) > 4000 then (trivetlaw14_CalendarParts.j0 k l0 a1 a2 a3 t592 true) else (if a1 < (-100000) then (trivetlaw14_CalendarParts.j0 k l0 a1 a2 a3 t592 true) else (trivetlaw14_CalendarParts.j0 k l0 a1 a2 a3 t592 (decide (a3 > 200000))))))))) = some r := h
 clear h
 replace H := Option.bind_eq_some_iff.mp H
 obtain ⟨t592, A50, H⟩ := H
 replace H : (if (l0.length : Int) > 50 then (trivetlaw14_CalendarParts.j0 k l0 a1 a2 a3 t592 true) else (if a1 > a2 then (trivetlaw14_CalendarParts.j0 k l0 a1 a2 a3 t592 true) else (if a2 > a3 then (trivetlaw14_CalendarParts.j0 k l0 a1 a2 a3 t592 true) else (if (wrap64 (a3 - a1)) > 4000 then (trivetlaw14_CalendarParts.j0 k l0 a1 a2 a3 t592 true) else (if a1 < (-100000) then (trivetlaw14_CalendarParts.j0 k l0 a1 a2 a3 t592 true) else (trivetlaw14_CalendarParts.j0 k l0 a1 a2 a3 t592 (decide (a3 > 200000)))))))) = some r := H
 have A5 := ka A50
 clear A50
 have HC6 := ka H
 clear H
 go_enter Try.func7, Try.ntmps7
 go_upto_region 2 with (first | (go_at_call 9; (with_reducible refine (trivetlaw14_up.calls k  t592 _ A5.out).mono ?_); rintro e w7 ⟨rfl, hb⟩; replace HB := ka (below_step (kw HB.out) hb); (try clear hb); (try clear hb2); (try clear hk); (try clear hi)))
 repeat (go_quiet (first | (go_at_call 9; (with_reducible refine (trivetlaw14_up.calls k  t592 _ A5.out).mono ?_); rintro e w7 ⟨rfl, hb⟩; replace HB := ka (below_step (kw HB.out) hb); (try clear hb); (try clear hb2); (try clear hk); (try clear hi))); go_upto_region 2 with (first | (go_at_call 9; (with_reducible refine (trivetlaw14_up.calls k  t592 _ A5.out).mono ?_); rintro e w7 ⟨rfl, hb⟩; replace HB := ka (below_step (kw HB.out) hb); (try clear hb); (try clear hb2); (try clear hk); (try clear hi))))
 (try simp only [Act.put, List.setIfInBounds_toArray, List.set_cons_zero, List.set_cons_succ])
 go_cut [44] (fun v44 wc => ∃ (kq : Nat) (x44_5 : Bool), v44 = .bool x44_5 ∧ Aside0 (trivetlaw14_CalendarParts.j0 kq l0 a1 a2 a3 t592 x44_5 = some r) ∧ Aside0 (kq ≤ k) ∧ Aside0 (Below w.heap.size w wc))
 case first =>
  have H := HC6.out
  clear HC6
  by_cases c8 : (l0.length : Int) > 50
  ·rw [if_pos c8] at H
   have c8b0 : decide (50 < (l0.length : Int)) = true := decide_eq_true c8
   have c8b1 : decide (50 < l0.length) = true := decide_eq_true (by omega)
   clear c8
   (first | rw [c8b0] | (simp only [i64_w, i32_w]; rw [c8b0]) | skip)
   have H' := ka H
   clear H
   go_wp2
   repeat (go_quiet (fail); try go_wp2)
   go_meet
   case rel => exact ⟨_, (true), (by first | rfl | (simp; done) | (simp [*]; done)), H', ⟨by first | omega | exact Nat.le_refl _⟩, ⟨by repeat (first | (with_reducible first | exact HB.out | apply kc1 | apply kc2 | apply kc3) | exact HB.out)⟩⟩
  ·rw [if_neg c8] at H
   have c8b0 : decide (50 < (l0.length : Int)) = false := decide_eq_false c8
   have c8b1 : decide (50 < l0.length) = false := decide_eq_false (by omega)
   clear c8
   (first | rw [c8b0] | (simp only [i64_w, i32_w]; rw [c8b0]) | skip)
   by_cases c9 : a1 > a2
   ·rw [if_pos c9] at H
    have c9b0 : decide (a2 < a1) = true := decide_eq_true c9
    clear c9
    have H' := ka H
    clear H
    go_wp2
    repeat (go_quiet (fail); try go_wp2)
    go_meet
    case rel => exact ⟨_, (true), (by first | rfl | (simp; done) | (simp [*]; done)), H', ⟨by first | omega | exact Nat.le_refl _⟩, ⟨by repeat (first | (with_reducible first | exact HB.out | apply kc1 | apply kc2 | apply kc3) | exact HB.out)⟩⟩
   ·rw [if_neg c9] at H
    have c9b0 : decide (a2 < a1) = false := decide_eq_false c9
    clear c9
    by_cases c10 : a2 > a3
    ·rw [if_pos c10] at H
     have c10b0 : decide (a3 < a2) = true := decide_eq_true c10
     clear c10
     have H' := ka H
     clear H
     go_wp2
     repeat (go_quiet (fail); try go_wp2)
     go_meet
     case rel => exact ⟨_, (true), (by first | rfl | (simp; done) | (simp [*]; done)), H', ⟨by first | omega | exact Nat.le_refl _⟩, ⟨by repeat (first | (with_reducible first | exact HB.out | apply kc1 | apply kc2 | apply kc3) | exact HB.out)⟩⟩
    ·rw [if_neg c10] at H
     have c10b0 : decide (a3 < a2) = false := decide_eq_false c10
     clear c10
     by_cases c11 : (wrap64 (a3 - a1)) > 4000
     ·rw [if_pos c11] at H
      have c11b0 : decide (4000 < (wrap64 (a3 - a1))) = true := decide_eq_true c11
      clear c11
      have H' := ka H
      clear H
      go_wp2
      repeat (go_quiet (fail); try go_wp2)
      go_meet
      case rel => exact ⟨_, (true), (by first | rfl | (simp; done) | (simp [*]; done)), H', ⟨by first | omega | exact Nat.le_refl _⟩, ⟨by repeat (first | (with_reducible first | exact HB.out | apply kc1 | apply kc2 | apply kc3) | exact HB.out)⟩⟩
     ·rw [if_neg c11] at H
      have c11b0 : decide (4000 < (wrap64 (a3 - a1))) = false := decide_eq_false c11
      clear c11
      by_cases c12 : a1 < (-100000)
      ·rw [if_pos c12] at H
       have c12b0 : decide (a1 < (-100000)) = true := decide_eq_true c12
       clear c12
       have H' := ka H
       clear H
       go_wp2
       repeat (go_quiet (fail); try go_wp2)
       go_meet
       case rel => exact ⟨_, (true), (by first | rfl | (simp; done) | (simp [*]; done)), H', ⟨by first | omega | exact Nat.le_refl _⟩, ⟨by repeat (first | (with_reducible first | exact HB.out | apply kc1 | apply kc2 | apply kc3) | exact HB.out)⟩⟩
      ·rw [if_neg c12] at H
       have c12b0 : decide (a1 < (-100000)) = false := decide_eq_false c12
       clear c12
       have H' := ka H
       clear H
       go_wp2
       repeat (go_quiet (fail); try go_wp2)
       go_meet
       case rel => exact ⟨_, (decide (a3 > 200000)), (by first | rfl | (simp; done) | (simp [*]; done)), H', ⟨by first | omega | exact Nat.le_refl _⟩, ⟨by repeat (first | (with_reducible first | exact HB.out | apply kc1 | apply kc2 | apply kc3) | exact HB.out)⟩⟩
 case rest =>
  clear HC6
  try clear c1
  try clear p2
  try clear p6
  try clear c7
  try clear c8
  try clear c8b0
  try clear c8b1
  try clear c9
  try clear c9b0
  try clear c10
  try clear c10b0
  try clear c11
  try clear c11b0
  try clear c12
  try clear c12b0
  obtain ⟨kq, x44_5, rfl, HA, HJ5, HB⟩ := hcut
  cases kq with
  | zero => exact absurd HA.out (by simp [trivetlaw14_CalendarParts.j0])
  | succ kj5 =>
   have H := HA.out
   clear HA
   simp only [trivetlaw14_CalendarParts.j0] at H
   by_cases c13 : x44_5 = true
   ·subst c13
    have H1 : (some t592) = some r := by rw [if_pos rfl] at H; exact H
    clear H
    have H := H1
    clear H1
    obtain rfl := Option.some.inj H
    go_wp2
    repeat (go_quiet (fail); try go_wp2)
    go_ret
    exact ⟨by first | rfl | (simp [errW_none, errW_some] <;> rfl) | (simp [*, errW_none, errW_some] <;> rfl), by repeat (first | (with_reducible first | exact HB.out | apply kc1 | apply kc2 | apply kc3) | exact HB.out)⟩
   ·replace c13 := Bool.eq_false_iff.mpr c13
    subst c13
    have H1 : ((calendar_Outs.f kj5 l0 a1 a3).bind fun bt593 => ((calendar_Outs.f kj5 l0 a1 a2).bind fun bt597 => ((calendar_Outs.f kj5 l0 a2 a3).bind fun bt601 => (if bt593.2.isNone = true then (if bt597.2.isNone = true then (if bt601.2.isNone = true then (trivetlaw14_CalendarParts.j1 kj5 t592 bt593.1 none bt597.1 none bt601.1 none false) else (trivetlaw14_CalendarParts.j1 kj5 t592 bt593.1 none bt597.1 none bt601.1 (some (bt601.2.getD 0)) true)) else (trivetlaw14_CalendarParts.j1 kj5 t592 bt593.1 none bt597.1 (some (bt597.2.getD 0)) bt601.1 bt601.2 true)) else (trivetlaw14_CalendarParts.j1 kj5 t592 bt593.1 (some (bt593.2.getD 0)) bt597.1 bt597.2 bt601.1 bt601.2 true))))) = some r := by rw [if_neg (show ¬ (false = true) by decide)] at H; exact H
    clear H
    have H := H1
    clear H1
    replace H := Option.bind_eq_some_iff.mp H
    obtain ⟨⟨t593, t594⟩, A140, H⟩ := H
    replace H : ((calendar_Outs.f kj5 l0 a1 a2).bind fun bt597 => ((calendar_Outs.f kj5 l0 a2 a3).bind fun bt601 => (if t594.isNone = true then (if bt597.2.isNone = true then (if bt601.2.isNone = true then (trivetlaw14_CalendarParts.j1 kj5 t592 t593 none bt597.1 none bt601.1 none false) else (trivetlaw14_CalendarParts.j1 kj5 t592 t593 none bt597.1 none bt601.1 (some (bt601.2.getD 0)) true)) else (trivetlaw14_CalendarParts.j1 kj5 t592 t593 none bt597.1 (some (bt597.2.getD 0)) bt601.1 bt601.2 true)) else (trivetlaw14_CalendarParts.j1 kj5 t592 t593 (some (t594.getD 0)) bt597.1 bt597.2 bt601.1 bt601.2 true)))) = some r := H
    have A14 := ka A140
    clear A140
    replace H := Option.bind_eq_some_iff.mp H
    obtain ⟨⟨t597, t598⟩, A150, H⟩ := H
    replace H : ((calendar_Outs.f kj5 l0 a2 a3).bind fun bt601 => (if t594.isNone = true then (if t598.isNone = true then (if bt601.2.isNone = true then (trivetlaw14_CalendarParts.j1 kj5 t592 t593 none t597 none bt601.1 none false) else (trivetlaw14_CalendarParts.j1 kj5 t592 t593 none t597 none bt601.1 (some (bt601.2.getD 0)) true)) else (trivetlaw14_CalendarParts.j1 kj5 t592 t593 none t597 (some (t598.getD 0)) bt601.1 bt601.2 true)) else (trivetlaw14_CalendarParts.j1 kj5 t592 t593 (some (t594.getD 0)) t597 t598 bt601.1 bt601.2 true))) = some r := H
    have A15 := ka A150
    clear A150
    replace H := Option.bind_eq_some_iff.mp H
    obtain ⟨⟨t601, t602⟩, A160, H⟩ := H
    replace H : (if t594.isNone = true then (if t598.isNone = true then (if t602.isNone = true then (trivetlaw14_CalendarParts.j1 kj5 t592 t593 none t597 none t601 none false) else (trivetlaw14_CalendarParts.j1 kj5 t592 t593 none t597 none t601 (some (t602.getD 0)) true)) else (trivetlaw14_CalendarParts.j1 kj5 t592 t593 none t597 (some (t598.getD 0)) t601 t602 true)) else (trivetlaw14_CalendarParts.j1 kj5 t592 t593 (some (t594.getD 0)) t597 t598 t601 t602 true)) = some r := H
    have A16 := ka A160
    clear A160
    have HC17 := ka H
    clear H
    go_upto_region 7 with (first | (go_at_call 17; (with_reducible refine (calendar_Outs.calls kj5 _ _ l0 a1 a3 t593 t594 _ ?side1 ?side2 A14.out).mono ?_); (case side1 => repeat (first | exact (Kd.C_below HR0.out HB.out) | (with_reducible refine Kd.C_alloc ?_ _) | (with_reducible refine Kd.C_drewN ?_ _) | (with_reducible refine Kd.C_drew ?_))); (case side2 => exact HC0.out); rintro e w18 ⟨v595, rfl, ho0, hb⟩; have HO596 := ka (Kd.R_lower ho0 (below_size (kw HB.out))); replace HB := ka (below_step (kw HB.out) hb); (try clear hb); (try clear hb2); (try clear hk); (try clear hi); (try clear ho0); (try simp only [errW_none, errW_some])) | (go_at_call 17; (with_reducible refine (calendar_Outs.calls kj5 _ _ l0 a1 a2 t597 t598 _ ?side1 ?side2 A15.out).mono ?_); (case side1 => repeat (first | exact (Kd.C_below HR0.out HB.out) | (with_reducible refine Kd.C_alloc ?_ _) | (with_reducible refine Kd.C_drewN ?_ _) | (with_reducible refine Kd.C_drew ?_))); (case side2 => exact HC0.out); rintro e w19 ⟨v599, rfl, ho0, hb⟩; have HO600 := ka (Kd.R_lower (Kd.R_new' ho0 (Kd.R_lt (kr HO596.out))) (below_size (kw HB.out))); replace HO596 := ka (Kd.R_elder' (kr HO596.out) (Kd.R_base ho0) hb); replace HB := ka (below_step (kw HB.out) hb); (try clear hb); (try clear hb2); (try clear hk); (try clear hi); (try clear ho0); (try simp only [errW_none, errW_some])) | (go_at_call 17; (with_reducible refine (calendar_Outs.calls kj5 _ _ l0 a2 a3 t601 t602 _ ?side1 ?side2 A16.out).mono ?_); (case side1 => repeat (first | exact (Kd.C_below HR0.out HB.out) | (with_reducible refine Kd.C_alloc ?_ _) | (with_reducible refine Kd.C_drewN ?_ _) | (with_reducible refine Kd.C_drew ?_))); (case side2 => exact HC0.out); rintro e w20 ⟨v603, rfl, ho0, hb⟩; have HO604 := ka (Kd.R_lower (Kd.R_new' (Kd.R_new' ho0 (Kd.R_lt (kr HO596.out))) (Kd.R_lt (kr HO600.out))) (below_size (kw HB.out))); replace HO596 := ka (Kd.R_elder' (kr HO596.out) (Kd.R_base ho0) hb); replace HO600 := ka (Kd.R_elder' (kr HO600.out) (Kd.R_base ho0) hb); replace HB := ka (below_step (kw HB.out) hb); (try clear hb); (try clear hb2); (try clear hk); (try clear hi); (try clear ho0); (try simp only [errW_none, errW_some])))
    repeat (go_quiet (first | (go_at_call 17; (with_reducible refine (calendar_Outs.calls kj5 _ _ l0 a1 a3 t593 t594 _ ?side1 ?side2 A14.out).mono ?_); (case side1 => repeat (first | exact (Kd.C_below HR0.out HB.out) | (with_reducible refine Kd.C_alloc ?_ _) | (with_reducible refine Kd.C_drewN ?_ _) | (with_reducible refine Kd.C_drew ?_))); (case side2 => exact HC0.out); rintro e w18 ⟨v595, rfl, ho0, hb⟩; have HO596 := ka (Kd.R_lower ho0 (below_size (kw HB.out))); replace HB := ka (below_step (kw HB.out) hb); (try clear hb); (try clear hb2); (try clear hk); (try clear hi); (try clear ho0); (try simp only [errW_none, errW_some])) | (go_at_call 17; (with_reducible refine (calendar_Outs.calls kj5 _ _ l0 a1 a2 t597 t598 _ ?side1 ?side2 A15.out).mono ?_); (case side1 => repeat (first | exact (Kd.C_below HR0.out HB.out) | (with_reducible refine Kd.C_alloc ?_ _) | (with_reducible refine Kd.C_drewN ?_ _) | (with_reducible refine Kd.C_drew ?_))); (case side2 => exact HC0.out); rintro e w19 ⟨v599, rfl, ho0, hb⟩; have HO600 := ka (Kd.R_lower (Kd.R_new' ho0 (Kd.R_lt (kr HO596.out))) (below_size (kw HB.out))); replace HO596 := ka (Kd.R_elder' (kr HO596.out) (Kd.R_base ho0) hb); replace HB := ka (below_step (kw HB.out) hb); (try clear hb); (try clear hb2); (try clear hk); (try clear hi); (try clear ho0); (try simp only [errW_none, errW_some])) | (go_at_call 17; (with_reducible refine (calendar_Outs.calls kj5 _ _ l0 a2 a3 t601 t602 _ ?side1 ?side2 A16.out).mono ?_); (case side1 => repeat (first | exact (Kd.C_below HR0.out HB.out) | (with_reducible refine Kd.C_alloc ?_ _) | (with_reducible refine Kd.C_drewN ?_ _) | (with_reducible refine Kd.C_drew ?_))); (case side2 => exact HC0.out); rintro e w20 ⟨v603, rfl, ho0, hb⟩; have HO604 := ka (Kd.R_lower (Kd.R_new' (Kd.R_new' ho0 (Kd.R_lt (kr HO596.out))) (Kd.R_lt (kr HO600.out))) (below_size (kw HB.out))); replace HO596 := ka (Kd.R_elder' (kr HO596.out) (Kd.R_base ho0) hb); replace HO600 := ka (Kd.R_elder' (kr HO600.out) (Kd.R_base ho0) hb); replace HB := ka (below_step (kw HB.out) hb); (try clear hb); (try clear hb2); (try clear hk); (try clear hi); (try clear ho0); (try simp only [errW_none, errW_some]))); go_upto_region 7 with (first | (go_at_call 17; (with_reducible refine (calendar_Outs.calls kj5 _ _ l0 a1 a3 t593 t594 _ ?side1 ?side2 A14.out).mono ?_); (case side1 => repeat (first | exact (Kd.C_below HR0.out HB.out) | (with_reducible refine Kd.C_alloc ?_ _) | (with_reducible refine Kd.C_drewN ?_ _) | (with_reducible refine Kd.C_drew ?_))); (case side2 => exact HC0.out); rintro e w18 ⟨v595, rfl, ho0, hb⟩; have HO596 := ka (Kd.R_lower ho0 (below_size (kw HB.out))); replace HB := ka (below_step (kw HB.out) hb); (try clear hb); (try clear hb2); (try clear hk); (try clear hi); (try clear ho0); (try simp only [errW_none, errW_some])) | (go_at_call 17; (with_reducible refine (calendar_Outs.calls kj5 _ _ l0 a1 a2 t597 t598 _ ?side1 ?side2 A15.out).mono ?_); (case side1 => repeat (first | exact (Kd.C_below HR0.out HB.out) | (with_reducible refine Kd.C_alloc ?_ _) | (with_reducible refine Kd.C_drewN ?_ _) | (with_reducible refine Kd.C_drew ?_))); (case side2 => exact HC0.out); rintro e w19 ⟨v599, rfl, ho0, hb⟩; have HO600 := ka (Kd.R_lower (Kd.R_new' ho0 (Kd.R_lt (kr HO596.out))) (below_size (kw HB.out))); replace HO596 := ka (Kd.R_elder' (kr HO596.out) (Kd.R_base ho0) hb); replace HB := ka (below_step (kw HB.out) hb); (try clear hb); (try clear hb2); (try clear hk); (try clear hi); (try clear ho0); (try simp only [errW_none, errW_some])) | (go_at_call 17; (with_reducible refine (calendar_Outs.calls kj5 _ _ l0 a2 a3 t601 t602 _ ?side1 ?side2 A16.out).mono ?_); (case side1 => repeat (first | exact (Kd.C_below HR0.out HB.out) | (with_reducible refine Kd.C_alloc ?_ _) | (with_reducible refine Kd.C_drewN ?_ _) | (with_reducible refine Kd.C_drew ?_))); (case side2 => exact HC0.out); rintro e w20 ⟨v603, rfl, ho0, hb⟩; have HO604 := ka (Kd.R_lower (Kd.R_new' (Kd.R_new' ho0 (Kd.R_lt (kr HO596.out))) (Kd.R_lt (kr HO600.out))) (below_size (kw HB.out))); replace HO596 := ka (Kd.R_elder' (kr HO596.out) (Kd.R_base ho0) hb); replace HO600 := ka (Kd.R_elder' (kr HO600.out) (Kd.R_base ho0) hb); replace HB := ka (below_step (kw HB.out) hb); (try clear hb); (try clear hb2); (try clear hk); (try clear hi); (try clear ho0); (try simp only [errW_none, errW_some]))))
    (try simp only [Act.put, List.setIfInBounds_toArray, List.set_cons_zero, List.set_cons_succ])
    go_cut [76] (fun v76 wc => ∃ (kq : Nat) (x76_16 : Bool), v76 = .bool x76_16 ∧ Aside0 (trivetlaw14_CalendarParts.j1 kq t592 t593 t594 t597 t598 t601 t602 x76_16 = some r) ∧ Aside0 (kq ≤ kj5) ∧ Aside0 (Kd.R k45 45 wc w.heap.size (fun k_ => some k_ ≠ (v599 : Value).ownBlock ∧ some k_ ≠ (v603 : Value).ownBlock) v595 t593) ∧ Aside0 (Kd.R k45 45 wc w.heap.size (fun k_ => some k_ ≠ (v595 : Value).ownBlock ∧ some k_ ≠ (v603 : Value).ownBlock) v599 t597) ∧ Aside0 (Kd.R k45 45 wc w.heap.size (fun k_ => some k_ ≠ (v595 : Value).ownBlock ∧ some k_ ≠ (v599 : Value).ownBlock) v603 t601) ∧ Aside0 (Below w.heap.size w wc))
    case first =>
     have H := HC17.out
     clear HC17
     rcases t594 with _ | q605
     ·have H1 : (if t598.isNone = true then (if t602.isNone = true then (trivetlaw14_CalendarParts.j1 kj5 t592 t593 none t597 none t601 none false) else (trivetlaw14_CalendarParts.j1 kj5 t592 t593 none t597 none t601 (some (t602.getD 0)) true)) else (trivetlaw14_CalendarParts.j1 kj5 t592 t593 none t597 (some (t598.getD 0)) t601 t602 true)) = some r := by rw [if_pos (show (none : Option Int).isNone = true by rfl)] at H; exact H
      clear H
      have H := H1
      clear H1
      try simp only [errW_none, errW_some]
      rcases t598 with _ | q606
      ·have H1 : (if t602.isNone = true then (trivetlaw14_CalendarParts.j1 kj5 t592 t593 none t597 none t601 none false) else (trivetlaw14_CalendarParts.j1 kj5 t592 t593 none t597 none t601 (some (t602.getD 0)) true)) = some r := by rw [if_pos (show (none : Option Int).isNone = true by rfl)] at H; exact H
       clear H
       have H := H1
       clear H1
       try simp only [errW_none, errW_some]
       rcases t602 with _ | q607
       ·have H1 : (trivetlaw14_CalendarParts.j1 kj5 t592 t593 none t597 none t601 none false) = some r := by rw [if_pos (show (none : Option Int).isNone = true by rfl)] at H; exact H
        clear H
        have H := H1
        clear H1
        try simp only [errW_none, errW_some]
        have H' := ka H
        clear H
        go_wp2
        repeat (go_quiet (fail); try go_wp2)
        go_meet
        case rel => exact ⟨_, (false), (by first | rfl | (simp; done) | (simp [*]; done)), H', ⟨by have := HJ5.out; first | omega | exact Nat.le_refl _⟩, ⟨kr (Kd.R_mono HO596.out (fun _ hk => ⟨hk.1.2, hk.2⟩))⟩, ⟨kr (Kd.R_mono HO600.out (fun _ hk => ⟨hk.1.2, hk.2⟩))⟩, ⟨kr (Kd.R_mono HO604.out (fun _ hk => ⟨hk.1.2, hk.2⟩))⟩, ⟨by repeat (first | (with_reducible first | exact HB.out | apply kc1 | apply kc2 | apply kc3) | exact HB.out)⟩⟩
       ·have H1 : (trivetlaw14_CalendarParts.j1 kj5 t592 t593 none t597 none t601 (some q607) true) = some r := by rw [if_neg (show ¬ (some q607).isNone = true by simp)] at H; exact H
        clear H
        have H := H1
        clear H1
        try simp only [errW_none, errW_some]
        have H' := ka H
        clear H
        go_wp2
        repeat (go_quiet (fail); try go_wp2)
        go_meet
        case rel => exact ⟨_, (true), (by first | rfl | (simp; done) | (simp [*]; done)), H', ⟨by have := HJ5.out; first | omega | exact Nat.le_refl _⟩, ⟨kr (Kd.R_mono HO596.out (fun _ hk => ⟨hk.1.2, hk.2⟩))⟩, ⟨kr (Kd.R_mono HO600.out (fun _ hk => ⟨hk.1.2, hk.2⟩))⟩, ⟨kr (Kd.R_mono HO604.out (fun _ hk => ⟨hk.1.2, hk.2⟩))⟩, ⟨by repeat (first | (with_reducible first | exact HB.out | apply kc1 | apply kc2 | apply kc3) | exact HB.out)⟩⟩
      ·have H1 : (trivetlaw14_CalendarParts.j1 kj5 t592 t593 none t597 (some q606) t601 t602 true) = some r := by rw [if_neg (show ¬ (some q606).isNone = true by simp)] at H; exact H
       clear H
       have H := H1
       clear H1
       try simp only [errW_none, errW_some]
       have H' := ka H
       clear H
       go_wp2
       repeat (go_quiet (fail); try go_wp2)
       go_meet
       case rel => exact ⟨_, (true), (by first | rfl | (simp; done) | (simp [*]; done)), H', ⟨by have := HJ5.out; first | omega | exact Nat.le_refl _⟩, ⟨kr (Kd.R_mono HO596.out (fun _ hk => ⟨hk.1.2, hk.2⟩))⟩, ⟨kr (Kd.R_mono HO600.out (fun _ hk => ⟨hk.1.2, hk.2⟩))⟩, ⟨kr (Kd.R_mono HO604.out (fun _ hk => ⟨hk.1.2, hk.2⟩))⟩, ⟨by repeat (first | (with_reducible first | exact HB.out | apply kc1 | apply kc2 | apply kc3) | exact HB.out)⟩⟩
     ·have H1 : (trivetlaw14_CalendarParts.j1 kj5 t592 t593 (some q605) t597 t598 t601 t602 true) = some r := by rw [if_neg (show ¬ (some q605).isNone = true by simp)] at H; exact H
      clear H
      have H := H1
      clear H1
      try simp only [errW_none, errW_some]
      have H' := ka H
      clear H
      go_wp2
      repeat (go_quiet (fail); try go_wp2)
      go_meet
      case rel => exact ⟨_, (true), (by first | rfl | (simp; done) | (simp [*]; done)), H', ⟨by have := HJ5.out; first | omega | exact Nat.le_refl _⟩, ⟨kr (Kd.R_mono HO596.out (fun _ hk => ⟨hk.1.2, hk.2⟩))⟩, ⟨kr (Kd.R_mono HO600.out (fun _ hk => ⟨hk.1.2, hk.2⟩))⟩, ⟨kr (Kd.R_mono HO604.out (fun _ hk => ⟨hk.1.2, hk.2⟩))⟩, ⟨by repeat (first | (with_reducible first | exact HB.out | apply kc1 | apply kc2 | apply kc3) | exact HB.out)⟩⟩
    case rest =>
     clear HC17
     try clear c1
     try clear p2
     try clear p6
     try clear q6
     try clear c7
     try clear c8
     try clear c8b0
     try clear c8b1
     try clear c9
     try clear c9b0
     try clear c10
     try clear c10b0
     try clear c11
     try clear c11b0
     try clear c12
     try clear c12b0
     try clear c13
     try clear p2
     try clear p6
     try clear q605
     try clear q606
     try clear q607
     obtain ⟨kq, x76_16, rfl, HA, HJ16, HO_10, HO_12, HO_14, HB⟩ := hcut
     cases kq with
     | zero => exact absurd HA.out (by simp [trivetlaw14_CalendarParts.j1])
     | succ kj16 =>
      have H := HA.out
      clear HA
      simp only [trivetlaw14_CalendarParts.j1] at H
      by_cases c21 : x76_16 = true
      ·subst c21
       have H1 : (if t592 = true then (if t594.isNone = true then (if t602.isNone = true then (if t598.isNone = true then (none) else (some true)) else (some true)) else (some true)) else (none)) = some r := by rw [if_pos rfl] at H; exact H
       clear H
       have H := H1
       clear H1
       by_cases c22 : t592 = true
       ·subst c22
        have H1 : (if t594.isNone = true then (if t602.isNone = true then (if t598.isNone = true then (none) else (some true)) else (some true)) else (some true)) = some r := by rw [if_pos rfl] at H; exact H
        clear H
        have H := H1
        clear H1
        rcases t594 with _ | q608
        ·have H1 : (if t602.isNone = true then (if t598.isNone = true then (none) else (some true)) else (some true)) = some r := by rw [if_pos (show (none : Option Int).isNone = true by rfl)] at H; exact H
         clear H
         have H := H1
         clear H1
         try simp only [errW_none, errW_some]
         rcases t602 with _ | q609
         ·have H1 : (if t598.isNone = true then (none) else (some true)) = some r := by rw [if_pos (show (none : Option Int).isNone = true by rfl)] at H; exact H
          clear H
          have H := H1
          clear H1
          try simp only [errW_none, errW_some]
          rcases t598 with _ | q610
          ·have H1 : (none) = some r := by rw [if_pos (show (none : Option Int).isNone = true by rfl)] at H; exact H
           clear H
           have H := H1
           clear H1
           try simp only [errW_none, errW_some]
           exact absurd H (by simp)
          ·have H1 : (some true) = some r := by rw [if_neg (show ¬ (some q610).isNone = true by simp)] at H; exact H
           clear H
           have H := H1
           clear H1
           try simp only [errW_none, errW_some]
           obtain rfl := Option.some.inj H
           go_wp2
           repeat (go_quiet (fail); try go_wp2)
           go_ret
           exact ⟨by first | rfl | (simp [errW_none, errW_some] <;> rfl) | (simp [*, errW_none, errW_some] <;> rfl), by repeat (first | (with_reducible first | exact HB.out | apply kc1 | apply kc2 | apply kc3) | exact HB.out)⟩
         ·have H1 : (some true) = some r := by rw [if_neg (show ¬ (some q609).isNone = true by simp)] at H; exact H
          clear H
          have H := H1
          clear H1
          try simp only [errW_none, errW_some]
          obtain rfl := Option.some.inj H
          go_wp2
          repeat (go_quiet (fail); try go_wp2)
          go_ret
          exact ⟨by first | rfl | (simp [errW_none, errW_some] <;> rfl) | (simp [*, errW_none, errW_some] <;> rfl), by repeat (first | (with_reducible first | exact HB.out | apply kc1 | apply kc2 | apply kc3) | exact HB.out)⟩
        ·have H1 : (some true) = some r := by rw [if_neg (show ¬ (some q608).isNone = true by simp)] at H; exact H
         clear H
         have H := H1
         clear H1
         try simp only [errW_none, errW_some]
         obtain rfl := Option.some.inj H
         go_wp2
         repeat (go_quiet (fail); try go_wp2)
         go_ret
         exact ⟨by first | rfl | (simp [errW_none, errW_some] <;> rfl) | (simp [*, errW_none, errW_some] <;> rfl), by repeat (first | (with_reducible first | exact HB.out | apply kc1 | apply kc2 | apply kc3) | exact HB.out)⟩
       ·replace c22 := Bool.eq_false_iff.mpr c22
        subst c22
        have H1 : (none) = some r := by rw [if_neg (show ¬ (false = true) by decide)] at H; exact H
        clear H
        have H := H1
        clear H1
        exact absurd H (by simp)
      ·replace c21 := Bool.eq_false_iff.mpr c21
       subst c21
       have H1 : (if (t593.length : Int) = (wrap64 ((t597.length : Int) + (t601.length : Int))) then (trivetlaw14_CalendarParts.l0 kj16 t592 t593 t597 t601 0) else (none)) = some r := by rw [if_neg (show ¬ (false = true) by decide)] at H; exact H
       clear H
       have H := H1
       clear H1
       by_cases c23 : (t593.length : Int) = (wrap64 ((t597.length : Int) + (t601.length : Int)))
       ·rw [if_pos c23] at H
        have c23b0 : ((t593.length : Int) == (wrap64 ((t597.length : Int) + (t601.length : Int)))) = true := beq_iff_eq.mpr c23
        have c23b1 : ((t593.length : Int) != (wrap64 ((t597.length : Int) + (t601.length : Int)))) = false := bne_eq_false_iff_eq.mpr c23
        clear c23
        have H' := ka H
        clear H
        obtain ⟨Ao24, co24, eo24⟩ := Kd.R_slice HO_10.out
        subst eo24
        obtain ⟨Ao25, co25, eo25⟩ := Kd.R_slice HO_12.out
        subst eo25
        obtain ⟨Ao26, co26, eo26⟩ := Kd.R_slice HO_14.out
        subst eo26
        go_wp2
        repeat (go_quiet (fail); try go_wp2)
        (try simp only [Act.put, List.setIfInBounds_toArray, List.set_cons_zero, List.set_cons_succ])
        go_loopg [16] kj16 (fun kq v16 w' => ∃ (x16_3 : Int), v16 = .int .i64 x16_3 ∧ Aside0 (trivetlaw14_CalendarParts.l0 kq t592 t593 t597 t601 x16_3 = some r) ∧ Aside0 (kq ≤ kj16) ∧ Aside0 (Kd.R k45 45 w' w.heap.size (fun k_ => some k_ ≠ ((.slice Ao25 t597.length co25) : Value).ownBlock ∧ some k_ ≠ ((.slice Ao26 t601.length co26) : Value).ownBlock) (.slice Ao24 t593.length co24) t593) ∧ Aside0 (Kd.R k45 45 w' w.heap.size (fun k_ => some k_ ≠ ((.slice Ao24 t593.length co24) : Value).ownBlock ∧ some k_ ≠ ((.slice Ao26 t601.length co26) : Value).ownBlock) (.slice Ao25 t597.length co25) t597) ∧ Aside0 (Kd.R k45 45 w' w.heap.size (fun k_ => some k_ ≠ ((.slice Ao24 t593.length co24) : Value).ownBlock ∧ some k_ ≠ ((.slice Ao25 t597.length co25) : Value).ownBlock) (.slice Ao26 t601.length co26) t601) ∧ Aside0 (Below w.heap.size w w'))
        case atStart => exact ⟨(0), (by first | rfl | (simp; done) | (simp [*]; done)), H', ⟨Nat.le_refl _⟩, ⟨kr HO_10.out⟩, ⟨kr HO_12.out⟩, ⟨kr HO_14.out⟩, ⟨by repeat (first | (with_reducible first | exact HB.out | apply kc1 | apply kc2 | apply kc3) | exact HB.out)⟩⟩
        case round =>
         clear H'
         try clear c1
         try clear c2
         try clear p2
         try clear p6
         try clear q6
         try clear c7
         try clear c8
         try clear c8b0
         try clear c8b1
         try clear c9
         try clear c9b0
         try clear c10
         try clear c10b0
         try clear c11
         try clear c11b0
         try clear c12
         try clear c12b0
         try clear c13
         try clear c21
         try clear c22
         try clear c23
         try clear c23b0
         try clear c23b1
         try clear p2
         try clear p6
         try clear q6
         try clear q605
         try clear q606
         try clear q607
         try clear q608
         try clear q609
         try clear q610
         obtain ⟨x16_3, rfl, HA, HK3, HO_10, HO_12, HO_14, HB⟩ := hrel
         cases gk with
         | zero => exact absurd HA.out (by simp [trivetlaw14_CalendarParts.l0])
         | succ k3 =>
          have H := HA.out
          clear HA
          simp only [trivetlaw14_CalendarParts.l0] at H
          by_cases c27 : x16_3 < (t593.length : Int)
          ·rw [if_pos c27] at H
           have c27b0 : decide (x16_3 < (t593.length : Int)) = true := decide_eq_true c27
           clear c27
           by_cases c28 : x16_3 < (t597.length : Int)
           ·rw [if_pos c28] at H
            have c28b0 : decide (x16_3 < (t597.length : Int)) = true := decide_eq_true c28
            clear c28
            by_cases c29 : 0 ≤ x16_3
            ·rw [if_pos c29] at H
             have c29b0 : decide (0 ≤ x16_3) = true := decide_eq_true c29
             clear c29
             by_cases c30 : (!(((rd_T45 t593 x16_3).f0) == ((rd_T45 t597 x16_3).f0)) || (!(((rd_T45 t593 x16_3).f1) == ((rd_T45 t597 x16_3).f1)) || (!(((rd_T45 t593 x16_3).f2) == ((rd_T45 t597 x16_3).f2))))) = true
             ·rw [if_pos c30] at H
              exact absurd H (by simp)
             ·rw [if_neg c30] at H
              have c30b0 : (!(((rd_T45 t593 x16_3).f0) == ((rd_T45 t597 x16_3).f0)) || (!(((rd_T45 t593 x16_3).f1) == ((rd_T45 t597 x16_3).f1)) || (!(((rd_T45 t593 x16_3).f2) == ((rd_T45 t597 x16_3).f2))))) = false := by simpa using c30
              clear c30
              by_cases c31 : x16_3 ≥ (t597.length : Int)
              ·rw [if_pos c31] at H
               have c31b0 : decide ((t597.length : Int) ≤ x16_3) = true := decide_eq_true c31
               clear c31
               obtain ⟨ji32, hji32⟩ : ∃ j_ : Int, (wrap64 (x16_3 - (t597.length : Int))) = j_ := ⟨_, rfl⟩
               replace H : (if 0 ≤ (ji32) then (if (ji32) < (t601.length : Int) then (if (!(((rd_T45 t593 x16_3).f0) == ((rd_T45 t601 (ji32)).f0)) || (!(((rd_T45 t593 x16_3).f1) == ((rd_T45 t601 (ji32)).f1)) || (!(((rd_T45 t593 x16_3).f2) == ((rd_T45 t601 (ji32)).f2))))) = true then (none) else (trivetlaw14_CalendarParts.l0 k3 t592 t593 t597 t601 (wrap64 (x16_3 + 1)))) else (none)) else (none)) = some r := by first | (rw [hji32] at H; exact H) | (simp only [hji32] at H ⊢; exact H)
               have hji32w : (IntKind.i64.wrap (x16_3 - (t597.length : Int))) = ji32 := (i64_w _).trans hji32
               by_cases c33 : 0 ≤ (ji32)
               ·rw [if_pos c33] at H
                have c33b0 : decide (0 ≤ (ji32)) = true := decide_eq_true c33
                clear c33
                by_cases c34 : (ji32) < (t601.length : Int)
                ·rw [if_pos c34] at H
                 have c34b0 : decide ((ji32) < (t601.length : Int)) = true := decide_eq_true c34
                 clear c34
                 by_cases c35 : (!(((rd_T45 t593 x16_3).f0) == ((rd_T45 t601 (ji32)).f0)) || (!(((rd_T45 t593 x16_3).f1) == ((rd_T45 t601 (ji32)).f1)) || (!(((rd_T45 t593 x16_3).f2) == ((rd_T45 t601 (ji32)).f2))))) = true
                 ·rw [if_pos c35] at H
                  exact absurd H (by simp)
                 ·rw [if_neg c35] at H
                  have c35b0 : (!(((rd_T45 t593 x16_3).f0) == ((rd_T45 t601 (ji32)).f0)) || (!(((rd_T45 t593 x16_3).f1) == ((rd_T45 t601 (ji32)).f1)) || (!(((rd_T45 t593 x16_3).f2) == ((rd_T45 t601 (ji32)).f2))))) = false := by simpa using c35
                  clear c35
                  have H' := ka H
                  clear H
                  have p611 : 0 ≤ (x16_3 : Int) := of_decide_eq_true (by first | (with_reducible assumption) | assumption)
                  have q611 : x16_3 < (t593.length : Int) := of_decide_eq_true (by first | (with_reducible assumption) | assumption)
                  obtain ⟨ad611, e611, hx611_0, hx611_1, hx611_2⟩ := at_T45 (Kd.R_reads' HO_10.out).2.2 x16_3 p611 q611
                  cases e611
                  replace p611 := eq_true p611
                  replace q611 := eq_true q611
                  have p612 : 0 ≤ (x16_3 : Int) := of_decide_eq_true (by first | (with_reducible assumption) | assumption)
                  have q612 : x16_3 < (t597.length : Int) := of_decide_eq_true (by first | (with_reducible assumption) | assumption)
                  obtain ⟨ad612, e612, hx612_0, hx612_1, hx612_2⟩ := at_T45 (Kd.R_reads' HO_12.out).2.2 x16_3 p612 q612
                  cases e612
                  replace p612 := eq_true p612
                  replace q612 := eq_true q612
                  have p613 : 0 ≤ (x16_3 : Int) := of_decide_eq_true (by first | (with_reducible assumption) | assumption)
                  have q613 : x16_3 < (t593.length : Int) := of_decide_eq_true (by first | (with_reducible assumption) | assumption)
                  obtain ⟨ad613, e613, hx613_0, hx613_1, hx613_2⟩ := at_T45 (Kd.R_reads' HO_10.out).2.2 x16_3 p613 q613
                  obtain rfl : ad611 = ad613 := (by injection e613)
                  replace p613 := eq_true p613
                  replace q613 := eq_true q613
                  have p614 : 0 ≤ ((ji32) : Int) := of_decide_eq_true (by first | (with_reducible assumption) | assumption)
                  have q614 : (ji32) < (t601.length : Int) := of_decide_eq_true (by first | (with_reducible assumption) | assumption)
                  obtain ⟨ad614, e614, hx614_0, hx614_1, hx614_2⟩ := at_T45 (Kd.R_reads' HO_14.out).2.2 (ji32) p614 q614
                  cases e614
                  replace p614 := eq_true p614
                  replace q614 := eq_true q614
                  go_wp2
                  repeat (go_quiet (fail); try go_wp2)
                  go_roundg k3
                  case measure => have := HJ5.out; have := HJ16.out; have := HK3.out; omega
                  case rel => exact ⟨(wrap64 (x16_3 + 1)), (by first | rfl | (simp; done) | (simp [*]; done)), H', ⟨by have := HJ5.out; have := HJ16.out; have := HK3.out; omega⟩, ⟨kr HO_10.out⟩, ⟨kr HO_12.out⟩, ⟨kr HO_14.out⟩, ⟨by repeat (first | (with_reducible first | exact HB.out | apply kc1 | apply kc2 | apply kc3) | exact HB.out)⟩⟩
                ·rw [if_neg c34] at H
                 exact absurd H (by simp)
               ·rw [if_neg c33] at H
                exact absurd H (by simp)
              ·rw [if_neg c31] at H
               have c31b0 : decide ((t597.length : Int) ≤ x16_3) = false := decide_eq_false c31
               clear c31
               have H' := ka H
               clear H
               have p611 : 0 ≤ (x16_3 : Int) := of_decide_eq_true (by first | (with_reducible assumption) | assumption)
               have q611 : x16_3 < (t593.length : Int) := of_decide_eq_true (by first | (with_reducible assumption) | assumption)
               obtain ⟨ad611, e611, hx611_0, hx611_1, hx611_2⟩ := at_T45 (Kd.R_reads' HO_10.out).2.2 x16_3 p611 q611
               cases e611
               replace p611 := eq_true p611
               replace q611 := eq_true q611
               have p612 : 0 ≤ (x16_3 : Int) := of_decide_eq_true (by first | (with_reducible assumption) | assumption)
               have q612 : x16_3 < (t597.length : Int) := of_decide_eq_true (by first | (with_reducible assumption) | assumption)
               obtain ⟨ad612, e612, hx612_0, hx612_1, hx612_2⟩ := at_T45 (Kd.R_reads' HO_12.out).2.2 x16_3 p612 q612
               cases e612
               replace p612 := eq_true p612
               replace q612 := eq_true q612
               go_wp2
               repeat (go_quiet (fail); try go_wp2)
               go_roundg k3
               case measure => have := HJ5.out; have := HJ16.out; have := HK3.out; omega
               case rel => exact ⟨(wrap64 (x16_3 + 1)), (by first | rfl | (simp; done) | (simp [*]; done)), H', ⟨by have := HJ5.out; have := HJ16.out; have := HK3.out; omega⟩, ⟨kr HO_10.out⟩, ⟨kr HO_12.out⟩, ⟨kr HO_14.out⟩, ⟨by repeat (first | (with_reducible first | exact HB.out | apply kc1 | apply kc2 | apply kc3) | exact HB.out)⟩⟩
            ·rw [if_neg c29] at H
             exact absurd H (by simp)
           ·rw [if_neg c28] at H
            have c28b0 : decide (x16_3 < (t597.length : Int)) = false := decide_eq_false c28
            clear c28
            by_cases c36 : x16_3 ≥ (t597.length : Int)
            ·rw [if_pos c36] at H
             have c36b0 : decide ((t597.length : Int) ≤ x16_3) = true := decide_eq_true c36
             clear c36
             by_cases c37 : 0 ≤ x16_3
             ·rw [if_pos c37] at H
              have c37b0 : decide (0 ≤ x16_3) = true := decide_eq_true c37
              clear c37
              obtain ⟨ji38, hji38⟩ : ∃ j_ : Int, (wrap64 (x16_3 - (t597.length : Int))) = j_ := ⟨_, rfl⟩
              replace H : (if 0 ≤ (ji38) then (if (ji38) < (t601.length : Int) then (if (!(((rd_T45 t593 x16_3).f0) == ((rd_T45 t601 (ji38)).f0)) || (!(((rd_T45 t593 x16_3).f1) == ((rd_T45 t601 (ji38)).f1)) || (!(((rd_T45 t593 x16_3).f2) == ((rd_T45 t601 (ji38)).f2))))) = true then (none) else (trivetlaw14_CalendarParts.l0 k3 t592 t593 t597 t601 (wrap64 (x16_3 + 1)))) else (none)) else (none)) = some r := by first | (rw [hji38] at H; exact H) | (simp only [hji38] at H ⊢; exact H)
              have hji38w : (IntKind.i64.wrap (x16_3 - (t597.length : Int))) = ji38 := (i64_w _).trans hji38
              by_cases c39 : 0 ≤ (ji38)
              ·rw [if_pos c39] at H
               have c39b0 : decide (0 ≤ (ji38)) = true := decide_eq_true c39
               clear c39
               by_cases c40 : (ji38) < (t601.length : Int)
               ·rw [if_pos c40] at H
                have c40b0 : decide ((ji38) < (t601.length : Int)) = true := decide_eq_true c40
                clear c40
                by_cases c41 : (!(((rd_T45 t593 x16_3).f0) == ((rd_T45 t601 (ji38)).f0)) || (!(((rd_T45 t593 x16_3).f1) == ((rd_T45 t601 (ji38)).f1)) || (!(((rd_T45 t593 x16_3).f2) == ((rd_T45 t601 (ji38)).f2))))) = true
                ·rw [if_pos c41] at H
                 exact absurd H (by simp)
                ·rw [if_neg c41] at H
                 have c41b0 : (!(((rd_T45 t593 x16_3).f0) == ((rd_T45 t601 (ji38)).f0)) || (!(((rd_T45 t593 x16_3).f1) == ((rd_T45 t601 (ji38)).f1)) || (!(((rd_T45 t593 x16_3).f2) == ((rd_T45 t601 (ji38)).f2))))) = false := by simpa using c41
                 clear c41
                 have H' := ka H
                 clear H
                 have p615 : 0 ≤ (x16_3 : Int) := of_decide_eq_true (by first | (with_reducible assumption) | assumption)
                 have q615 : x16_3 < (t593.length : Int) := of_decide_eq_true (by first | (with_reducible assumption) | assumption)
                 obtain ⟨ad615, e615, hx615_0, hx615_1, hx615_2⟩ := at_T45 (Kd.R_reads' HO_10.out).2.2 x16_3 p615 q615
                 cases e615
                 replace p615 := eq_true p615
                 replace q615 := eq_true q615
                 have p616 : 0 ≤ ((ji38) : Int) := of_decide_eq_true (by first | (with_reducible assumption) | assumption)
                 have q616 : (ji38) < (t601.length : Int) := of_decide_eq_true (by first | (with_reducible assumption) | assumption)
                 obtain ⟨ad616, e616, hx616_0, hx616_1, hx616_2⟩ := at_T45 (Kd.R_reads' HO_14.out).2.2 (ji38) p616 q616
                 cases e616
                 replace p616 := eq_true p616
                 replace q616 := eq_true q616
                 go_wp2
                 repeat (go_quiet (fail); try go_wp2)
                 go_roundg k3
                 case measure => have := HJ5.out; have := HJ16.out; have := HK3.out; omega
                 case rel => exact ⟨(wrap64 (x16_3 + 1)), (by first | rfl | (simp; done) | (simp [*]; done)), H', ⟨by have := HJ5.out; have := HJ16.out; have := HK3.out; omega⟩, ⟨kr HO_10.out⟩, ⟨kr HO_12.out⟩, ⟨kr HO_14.out⟩, ⟨by repeat (first | (with_reducible first | exact HB.out | apply kc1 | apply kc2 | apply kc3) | exact HB.out)⟩⟩
               ·rw [if_neg c40] at H
                exact absurd H (by simp)
              ·rw [if_neg c39] at H
               exact absurd H (by simp)
             ·rw [if_neg c37] at H
              exact absurd H (by simp)
            ·rw [if_neg c36] at H
             have c36b0 : decide ((t597.length : Int) ≤ x16_3) = false := decide_eq_false c36
             clear c36
             have H' := ka H
             clear H
             go_wp2
             repeat (go_quiet (fail); try go_wp2)
             go_roundg k3
             case measure => have := HJ5.out; have := HJ16.out; have := HK3.out; omega
             case rel => exact ⟨(wrap64 (x16_3 + 1)), (by first | rfl | (simp; done) | (simp [*]; done)), H', ⟨by have := HJ5.out; have := HJ16.out; have := HK3.out; omega⟩, ⟨kr HO_10.out⟩, ⟨kr HO_12.out⟩, ⟨kr HO_14.out⟩, ⟨by repeat (first | (with_reducible first | exact HB.out | apply kc1 | apply kc2 | apply kc3) | exact HB.out)⟩⟩
          ·rw [if_neg c27] at H
           have c27b0 : decide (x16_3 < (t593.length : Int)) = false := decide_eq_false c27
           clear c27
           obtain rfl := Option.some.inj H
           go_wp2
           repeat (go_quiet (fail); try go_wp2)
           go_ret
           exact ⟨by first | rfl | (simp [errW_none, errW_some] <;> rfl) | (simp [*, errW_none, errW_some] <;> rfl), by repeat (first | (with_reducible first | exact HB.out | apply kc1 | apply kc2 | apply kc3) | exact HB.out)⟩
       ·rw [if_neg c23] at H
        exact absurd H (by simp)

/-- THE ONE PURE STATEMENT of trivetlaw14_CalendarParts: yours. -/
def trivetlaw14_CalendarParts.Pure : Prop := ∀ (l0 : List (S48)) (a1 : Int) (a2 : Int) (a3 : Int), l0.length ≤ maxLen → l0.length * 24 ≤ 140737488351232 → (∀ x ∈ l0, (Lit.int .i64 x.f0).wf = true ∧ (Lit.int .i64 x.f1).wf = true ∧ (Lit.int .i64 x.f2).wf = true) → (Lit.int .i64 a1).wf = true → (Lit.int .i64 a2).wf = true → (Lit.int .i64 a3).wf = true → ∃ k, trivetlaw14_CalendarParts.f k l0 a1 a2 a3 = some true
theorem trivetlaw14_CalendarParts.walk (P : trivetlaw14_CalendarParts.Pure) (a0 : Option Addr) (len0 cap0 : Nat) (l0 : List (S48)) (a1 : Int) (a2 : Int) (a3 : Int) (w : World) (w0 : Kd.C k48 w a0 len0 l0 ∧ len0 ≤ cap0 ∧ len0 ≤ maxLen ∧ (∀ x ∈ l0, (Lit.int .i64 x.f0).wf = true ∧ (Lit.int .i64 x.f1).wf = true ∧ (Lit.int .i64 x.f2).wf = true)) (y0 : len0 * 24 ≤ 140737488351232) (w1 : (Lit.int .i64 a1).wf = true) (w2 : (Lit.int .i64 a2).wf = true) (w3 : (Lit.int .i64 a3).wf = true) :
  Calls Try.prog 7 #[.slice a0 len0 cap0, .int .i64 a1, .int .i64 a2, .int .i64 a3] w fun e w' => e = .returned (.bool true) ∧ Below w.heap.size w w' := by
 obtain ⟨hr0, hc0, hm0, hw0⟩ := w0
 obtain rfl := Kd.C_len hr0
 obtain ⟨k, h⟩ := P l0 a1 a2 a3 hm0 y0 hw0 w1 w2 w3
 refine (trivetlaw14_CalendarParts.calls k _ _ l0 a1 a2 a3 true w hr0 hc0 h).mono ?_
 rintro e w' ⟨rfl, hd⟩
 exact ⟨rfl, hd⟩

/-! ### trivetref04_May: function 20 -/
def trivetref04_May.f (a0_0 : Int) (a0_1 : Int) (a0_2 : Int) : Option (Bool) := if a0_2 ≥ 1 then ((trivetref04_Days_s.f a0_0 a0_1).bind fun t618 => (some (decide (a0_2 ≤ t618)))) else (some false)
set_option maxHeartbeats 8000000 in
set_option maxRecDepth 100000 in
theorem trivetref04_May.calls (a0_0 : Int) (a0_1 : Int) (a0_2 : Int) (r : Bool) (w : World) (h : trivetref04_May.f a0_0 a0_1 a0_2 = some r) :
  Calls Try.prog 20 #[.agg #[.int .i64 a0_0, .int .i64 a0_1, .int .i64 a0_2]] w fun e w' => e = .returned (.bool r) ∧ Below w.heap.size w w' := by
 have hu30 := Try.underlying30
 have HB := ka (Below.refl w.heap.size w)
 have H : (if a0_2 ≥ 1 then ((trivetref04_Days_s.f a0_0 a0_1).bind fun t618 => (some (decide (a0_2 ≤ t618)))) else (some false)) = some r := h
 clear h
 by_cases c2 : a0_2 ≥ 1
 ·rw [if_pos c2] at H
  have c2b0 : decide (1 ≤ a0_2) = true := decide_eq_true c2
  clear c2
  replace H := Option.bind_eq_some_iff.mp H
  obtain ⟨t618, A30, H⟩ := H
  replace H : (some (decide (a0_2 ≤ t618))) = some r := H
  have A3 := ka A30
  clear A30
  obtain rfl := Option.some.inj H
  go_enter Try.func20, Try.ntmps20
  go_wp2_with (first | ((with_reducible refine gate_dst (N := 1) rfl ?_); refine kx (N := 1) (cs := #[.int .i64 a0_0, .int .i64 a0_1, .int .i64 a0_2]) (t := 30) ?_; intro gb617 hg w4 hbox hb; have n0_ := ka (below_step (kw HB.out) hb); have n1_ := ka (hbox); have n2_ := ka ((by rw [hg]; exact (below_size (kw HB.out)) : w.heap.size ≤ gb617)); have n3_ := n2_; clear HB; have HB := n0_; have BK617 := n1_; have GW617 := n2_; have GE617 := n3_; clear n0_ n1_ n2_ n3_; clear hb hbox hg; have hcz5 := blkAll3 BK617.out) | (go_at_call 24; (with_reducible refine (trivetref04_Days_s.calls a0_0 a0_1 t618 _ A3.out).mono ?_); rintro e w' ⟨rfl, ⟨nd, rfl⟩⟩; (try first | exact ⟨rfl, _, World.drewN_drewN _ _ _⟩ | exact ⟨rfl, _, Eq.trans (World.drewN_drewN _ _ _) (congrArg (World.drewN _) (Nat.add_assoc _ _ _))⟩)))
  repeat (go_quiet (first | ((with_reducible refine gate_dst (N := 1) rfl ?_); refine kx (N := 1) (cs := #[.int .i64 a0_0, .int .i64 a0_1, .int .i64 a0_2]) (t := 30) ?_; intro gb617 hg w4 hbox hb; have n0_ := ka (below_step (kw HB.out) hb); have n1_ := ka (hbox); have n2_ := ka ((by rw [hg]; exact (below_size (kw HB.out)) : w.heap.size ≤ gb617)); have n3_ := n2_; clear HB; have HB := n0_; have BK617 := n1_; have GW617 := n2_; have GE617 := n3_; clear n0_ n1_ n2_ n3_; clear hb hbox hg; have hcz5 := blkAll3 BK617.out) | (go_at_call 24; (with_reducible refine (trivetref04_Days_s.calls a0_0 a0_1 t618 _ A3.out).mono ?_); rintro e w' ⟨rfl, ⟨nd, rfl⟩⟩; (try first | exact ⟨rfl, _, World.drewN_drewN _ _ _⟩ | exact ⟨rfl, _, Eq.trans (World.drewN_drewN _ _ _) (congrArg (World.drewN _) (Nat.add_assoc _ _ _))⟩))); try go_wp2_with (first | ((with_reducible refine gate_dst (N := 1) rfl ?_); refine kx (N := 1) (cs := #[.int .i64 a0_0, .int .i64 a0_1, .int .i64 a0_2]) (t := 30) ?_; intro gb617 hg w4 hbox hb; have n0_ := ka (below_step (kw HB.out) hb); have n1_ := ka (hbox); have n2_ := ka ((by rw [hg]; exact (below_size (kw HB.out)) : w.heap.size ≤ gb617)); have n3_ := n2_; clear HB; have HB := n0_; have BK617 := n1_; have GW617 := n2_; have GE617 := n3_; clear n0_ n1_ n2_ n3_; clear hb hbox hg; have hcz5 := blkAll3 BK617.out) | (go_at_call 24; (with_reducible refine (trivetref04_Days_s.calls a0_0 a0_1 t618 _ A3.out).mono ?_); rintro e w' ⟨rfl, ⟨nd, rfl⟩⟩; (try first | exact ⟨rfl, _, World.drewN_drewN _ _ _⟩ | exact ⟨rfl, _, Eq.trans (World.drewN_drewN _ _ _) (congrArg (World.drewN _) (Nat.add_assoc _ _ _))⟩))))
  go_ret
  exact ⟨by first | rfl | (simp [errW_none, errW_some] <;> rfl) | (simp [*, errW_none, errW_some] <;> rfl), by repeat (first | (with_reducible first | exact HB.out | apply kc1 | apply kc2 | apply kc3 | refine kc4 ?_ GE617.out) | exact HB.out)⟩
 ·rw [if_neg c2] at H
  have c2b0 : decide (1 ≤ a0_2) = false := decide_eq_false c2
  clear c2
  obtain rfl := Option.some.inj H
  go_enter Try.func20, Try.ntmps20
  go_wp2_with (first | ((with_reducible refine gate_dst (N := 1) rfl ?_); refine kx (N := 1) (cs := #[.int .i64 a0_0, .int .i64 a0_1, .int .i64 a0_2]) (t := 30) ?_; intro gb617 hg w6 hbox hb; have n0_ := ka (below_step (kw HB.out) hb); have n1_ := ka (hbox); have n2_ := ka ((by rw [hg]; exact (below_size (kw HB.out)) : w.heap.size ≤ gb617)); have n3_ := n2_; clear HB; have HB := n0_; have BK617 := n1_; have GW617 := n2_; have GE617 := n3_; clear n0_ n1_ n2_ n3_; clear hb hbox hg; have hcz7 := blkAll3 BK617.out))
  repeat (go_quiet (first | ((with_reducible refine gate_dst (N := 1) rfl ?_); refine kx (N := 1) (cs := #[.int .i64 a0_0, .int .i64 a0_1, .int .i64 a0_2]) (t := 30) ?_; intro gb617 hg w6 hbox hb; have n0_ := ka (below_step (kw HB.out) hb); have n1_ := ka (hbox); have n2_ := ka ((by rw [hg]; exact (below_size (kw HB.out)) : w.heap.size ≤ gb617)); have n3_ := n2_; clear HB; have HB := n0_; have BK617 := n1_; have GW617 := n2_; have GE617 := n3_; clear n0_ n1_ n2_ n3_; clear hb hbox hg; have hcz7 := blkAll3 BK617.out)); try go_wp2_with (first | ((with_reducible refine gate_dst (N := 1) rfl ?_); refine kx (N := 1) (cs := #[.int .i64 a0_0, .int .i64 a0_1, .int .i64 a0_2]) (t := 30) ?_; intro gb617 hg w6 hbox hb; have n0_ := ka (below_step (kw HB.out) hb); have n1_ := ka (hbox); have n2_ := ka ((by rw [hg]; exact (below_size (kw HB.out)) : w.heap.size ≤ gb617)); have n3_ := n2_; clear HB; have HB := n0_; have BK617 := n1_; have GW617 := n2_; have GE617 := n3_; clear n0_ n1_ n2_ n3_; clear hb hbox hg; have hcz7 := blkAll3 BK617.out)))
  go_ret
  exact ⟨by first | rfl | (simp [errW_none, errW_some] <;> rfl) | (simp [*, errW_none, errW_some] <;> rfl), by repeat (first | (with_reducible first | exact HB.out | apply kc1 | apply kc2 | apply kc3 | refine kc4 ?_ GE617.out) | exact HB.out)⟩

/-! ### trivetref04_May_s: function 20, told plainly -/
theorem trivetref04_May.tells (y m d : Int) : trivetref04_May.f y m d = some (decide (M.date y m d)) := by
 unfold trivetref04_May.f trivetref04_Days_s.f M.date
 by_cases h : d ≥ 1
 ·rw [if_pos h, Option.bind_some]
  simp [h]
 ·rw [if_neg h]
  simp [show ¬ 1 ≤ d by omega]
def trivetref04_May_s.f (y m d : Int) : Option Bool := some (decide (M.date y m d))
theorem trivetref04_May_s.calls (a0_0 : Int) (a0_1 : Int) (a0_2 : Int) (r : Bool) (w : World) (h : trivetref04_May_s.f a0_0 a0_1 a0_2 = some r) :
  Calls Try.prog 20 #[.agg #[.int .i64 a0_0, .int .i64 a0_1, .int .i64 a0_2]] w fun e w' => e = .returned (.bool r) ∧ Below w.heap.size w w' := by
 exact trivetref04_May.calls a0_0 a0_1 a0_2 r w ((trivetref04_May.tells a0_0 a0_1 a0_2).trans h)

end Go.Proofs.Ytmkfbaoglmmhjaa.P
