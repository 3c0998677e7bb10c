-- Written by a program of this session out of the translation of the seat: Lean functions and the proofs that the Go functions come to them.
import Derived.Test.YtmkfbaoglmmhjaaPx0
import Derived.Test.YtmkfbaoglmmhjaaPx1
import Derived.Test.YtmkfbaoglmmhjaaPx2
import Derived.Test.YtmkfbaoglmmhjaaPx5
import Derived.Test.YtmkfbaoglmmhjaaPx8
namespace Go.Proofs.Ytmkfbaoglmmhjaa.P
open Go.RowKit Go.Proofs.YtmkfbaoglmmhjaaW.PrintWords Go.Proofs.YtmkfbaoglmmhjaaW.PrintLast Go.Proofs.YtmkfbaoglmmhjaaW.PrintMore
attribute [local go_sem] max2_int min2_int max_two min_two max_three min_three max_four min_four   -- for this text's walks alone
set_option linter.unusedVariables false
set_option linter.unusedSimpArgs false

attribute [local go_sem high] eqA45 eqA48
/-! ### trivetlaw14_CalendarStays: function 6 -/
mutual
def trivetlaw14_CalendarStays.l0 : Nat → List (S48) → Int → Int → Bool → List (S48) → List (S45) → Option Int → List (S45) → Int → Option (Bool)
 | 0, _, _, _, _, _, _, _, _, _ => none
 | k + 1, x0, x1, x2, x7, x8, x9, x10, x11, x12 => if x12 < (x9.length : Int) then (if 0 ≤ x12 then (trivetlaw14_CalendarStays.l0 k x0 x1 x2 x7 x8 (x9.set (x12 : Int).toNat (⟨0, 0, 0⟩ : S45)) x10 x11 (wrap64 (x12 + 1))) else (none)) else ((calendar_Outs.f k x8 x1 x2).bind fun bt581 => (if x10.isNone = true then (if bt581.2.isNone = true then (trivetlaw14_CalendarStays.j1 k x0 x7 x8 x11 bt581.1 ((bt581.1.length : Int) != (x11.length : Int))) else (trivetlaw14_CalendarStays.j1 k x0 x7 x8 x11 bt581.1 true)) else (if bt581.2.isNone = true then (trivetlaw14_CalendarStays.j1 k x0 x7 x8 x11 bt581.1 true) else (trivetlaw14_CalendarStays.j1 k x0 x7 x8 x11 bt581.1 ((bt581.1.length : Int) != (x11.length : Int))))))
def trivetlaw14_CalendarStays.j1 : Nat → List (S48) → Bool → List (S48) → List (S45) → List (S45) → Bool → Option (Bool)
 | 0, _, _, _, _, _, _ => none
 | k + 1, x0, x7, x8, x11, x13, x63 => if x63 = true then (none) else (trivetlaw14_CalendarStays.l1 k x0 x7 x8 x11 x13 0)
def trivetlaw14_CalendarStays.l1 : Nat → List (S48) → Bool → List (S48) → List (S45) → List (S45) → Int → Option (Bool)
 | 0, _, _, _, _, _, _ => none
 | k + 1, x0, x7, x8, x11, x13, x15 => if x15 < (x13.length : Int) then (if 0 ≤ x15 then (if x15 < (x11.length : Int) then (if (!(((rd_T45 x13 x15).f0) == ((rd_T45 x11 x15).f0)) || (!(((rd_T45 x13 x15).f1) == ((rd_T45 x11 x15).f1)) || (!(((rd_T45 x13 x15).f2) == ((rd_T45 x11 x15).f2))))) = true then (none) else (trivetlaw14_CalendarStays.l1 k x0 x7 x8 x11 x13 (wrap64 (x15 + 1)))) else (none)) else (none)) else (trivetlaw14_CalendarStays.l2 k x0 x7 x8 0)
def trivetlaw14_CalendarStays.l2 : Nat → List (S48) → Bool → List (S48) → Int → Option (Bool)
 | 0, _, _, _, _ => none
 | k + 1, x0, x7, x8, x16 => if x16 < (x0.length : Int) then (if 0 ≤ x16 then (if x16 < (x8.length : Int) then (if (!(((rd_T48 x8 x16).f0) == ((rd_T48 x0 x16).f0)) || (!(((rd_T48 x8 x16).f1) == ((rd_T48 x0 x16).f1)) || (!(((rd_T48 x8 x16).f2) == ((rd_T48 x0 x16).f2))))) = true then (none) else (trivetlaw14_CalendarStays.l2 k x0 x7 x8 (wrap64 (x16 + 1)))) else (none)) else (none)) else (some x7)
end
def trivetlaw14_CalendarStays.f (k : Nat) (l0 : List (S48)) (a1 : Int) (a2 : Int) : Option (Bool) := (trivetlaw14_up.f k).bind fun t563 => (if (l0.length : Int) > 100 then (some t563) else ((some (([] : List (S48)) : List (S48))).bind fun y564 => (if y564.length + l0.length < 5864062014805 then ((some (y564 ++ l0 : List (S48))).bind fun y567 => ((calendar_Outs.f k y567 a1 a2).bind fun bt570 => ((some (([] : List (S45)) : List (S45))).bind fun y574 => (if y574.length + bt570.1.length < 5864062014805 then (trivetlaw14_CalendarStays.l0 k l0 a1 a2 t563 y567 bt570.1 bt570.2 (y574 ++ bt570.1) 0) else (none))))) else (none))))
theorem trivetlaw14_CalendarStays.mono_l : ∀ k, (∀ y0 y1 y2 y3 y4 y5 y6 y7 y8, LeO (trivetlaw14_CalendarStays.l0 k y0 y1 y2 y3 y4 y5 y6 y7 y8) (trivetlaw14_CalendarStays.l0 (k + 1) y0 y1 y2 y3 y4 y5 y6 y7 y8)) ∧ (∀ y0 y1 y2 y3 y4 y5, LeO (trivetlaw14_CalendarStays.j1 k y0 y1 y2 y3 y4 y5) (trivetlaw14_CalendarStays.j1 (k + 1) y0 y1 y2 y3 y4 y5)) ∧ (∀ y0 y1 y2 y3 y4 y5, LeO (trivetlaw14_CalendarStays.l1 k y0 y1 y2 y3 y4 y5) (trivetlaw14_CalendarStays.l1 (k + 1) y0 y1 y2 y3 y4 y5)) ∧ (∀ y0 y1 y2 y3, LeO (trivetlaw14_CalendarStays.l2 k y0 y1 y2 y3) (trivetlaw14_CalendarStays.l2 (k + 1) y0 y1 y2 y3))
 | 0 => ⟨fun _ _ _ _ _ _ _ _ _ r h => by simp [trivetlaw14_CalendarStays.l0] at h, fun _ _ _ _ _ _ r h => by simp [trivetlaw14_CalendarStays.j1] at h, fun _ _ _ _ _ _ r h => by simp [trivetlaw14_CalendarStays.l1] at h, fun _ _ _ _ r h => by simp [trivetlaw14_CalendarStays.l2] at h⟩
 | k + 1 => by
  obtain ⟨ih0, ih1, ih2, ih3⟩ := trivetlaw14_CalendarStays.mono_l k
  refine ⟨?_, ?_, ?_, ?_⟩
  ·intro y0 y1 y2 y3 y4 y5 y6 y7 y8
   unfold trivetlaw14_CalendarStays.l0
   repeat' first
   | (with_reducible exact ih0 _ _ _ _ _ _ _ _ _)
   | (with_reducible exact ih1 _ _ _ _ _ _)
   | (with_reducible exact ih2 _ _ _ _ _ _)
   | (with_reducible exact ih3 _ _ _ _)
   | (with_reducible exact calendar_Outs.mono _ _ _ _)
   | (with_reducible exact trivetlaw14_up.mono _)
   | (with_reducible exact LeO.refl _)
   | (with_reducible exact LeO.none _)
   | (with_reducible refine LeO.ite ?_ ?_)
   | (with_reducible refine LeO.bind ?_ (fun _ => ?_))
   | exact ih0 _ _ _ _ _ _ _ _ _
   | exact ih1 _ _ _ _ _ _
   | exact ih2 _ _ _ _ _ _
   | exact ih3 _ _ _ _
   | exact calendar_Outs.mono _ _ _ _
   | exact trivetlaw14_up.mono _
   | exact LeO.none _
   | refine LeO.ite ?_ ?_
   | refine LeO.bind ?_ (fun _ => ?_)
  ·intro y0 y1 y2 y3 y4 y5
   unfold trivetlaw14_CalendarStays.j1
   repeat' first
   | (with_reducible exact ih0 _ _ _ _ _ _ _ _ _)
   | (with_reducible exact ih1 _ _ _ _ _ _)
   | (with_reducible exact ih2 _ _ _ _ _ _)
   | (with_reducible exact ih3 _ _ _ _)
   | (with_reducible exact calendar_Outs.mono _ _ _ _)
   | (with_reducible exact trivetlaw14_up.mono _)
   | (with_reducible exact LeO.refl _)
   | (with_reducible exact LeO.none _)
   | (with_reducible refine LeO.ite ?_ ?_)
   | (with_reducible refine LeO.bind ?_ (fun _ => ?_))
   | exact ih0 _ _ _ _ _ _ _ _ _
   | exact ih1 _ _ _ _ _ _
   | exact ih2 _ _ _ _ _ _
   | exact ih3 _ _ _ _
   | exact calendar_Outs.mono _ _ _ _
   | exact trivetlaw14_up.mono _
   | exact LeO.none _
   | refine LeO.ite ?_ ?_
   | refine LeO.bind ?_ (fun _ => ?_)
  ·intro y0 y1 y2 y3 y4 y5
   unfold trivetlaw14_CalendarStays.l1
   repeat' first
   | (with_reducible exact ih0 _ _ _ _ _ _ _ _ _)
   | (with_reducible exact ih1 _ _ _ _ _ _)
   | (with_reducible exact ih2 _ _ _ _ _ _)
   | (with_reducible exact ih3 _ _ _ _)
   | (with_reducible exact calendar_Outs.mono _ _ _ _)
   | (with_reducible exact trivetlaw14_up.mono _)
   | (with_reducible exact LeO.refl _)
   | (with_reducible exact LeO.none _)
   | (with_reducible refine LeO.ite ?_ ?_)
   | (with_reducible refine LeO.bind ?_ (fun _ => ?_))
   | exact ih0 _ _ _ _ _ _ _ _ _
   | exact ih1 _ _ _ _ _ _
   | exact ih2 _ _ _ _ _ _
   | exact ih3 _ _ _ _
   | exact calendar_Outs.mono _ _ _ _
   | exact trivetlaw14_up.mono _
   | exact LeO.none _
   | refine LeO.ite ?_ ?_
   | refine LeO.bind ?_ (fun _ => ?_)
  ·intro y0 y1 y2 y3
   unfold trivetlaw14_CalendarStays.l2
   repeat' first
   | (with_reducible exact ih0 _ _ _ _ _ _ _ _ _)
   | (with_reducible exact ih1 _ _ _ _ _ _)
   | (with_reducible exact ih2 _ _ _ _ _ _)
   | (with_reducible exact ih3 _ _ _ _)
   | (with_reducible exact calendar_Outs.mono _ _ _ _)
   | (with_reducible exact trivetlaw14_up.mono _)
   | (with_reducible exact LeO.refl _)
   | (with_reducible exact LeO.none _)
   | (with_reducible refine LeO.ite ?_ ?_)
   | (with_reducible refine LeO.bind ?_ (fun _ => ?_))
   | exact ih0 _ _ _ _ _ _ _ _ _
   | exact ih1 _ _ _ _ _ _
   | exact ih2 _ _ _ _ _ _
   | exact ih3 _ _ _ _
   | exact calendar_Outs.mono _ _ _ _
   | exact trivetlaw14_up.mono _
   | exact LeO.none _
   | refine LeO.ite ?_ ?_
   | refine LeO.bind ?_ (fun _ => ?_)
theorem trivetlaw14_CalendarStays.mono : ∀ a0 a1 a2 k, LeO (trivetlaw14_CalendarStays.f k a0 a1 a2) (trivetlaw14_CalendarStays.f (k + 1) a0 a1 a2) := by
 intro a0 a1 a2 k
 obtain ⟨ih0, ih1, ih2, ih3⟩ := trivetlaw14_CalendarStays.mono_l k
 unfold trivetlaw14_CalendarStays.f
 repeat' first
   | (with_reducible exact ih0 _ _ _ _ _ _ _ _ _)
   | (with_reducible exact ih1 _ _ _ _ _ _)
   | (with_reducible exact ih2 _ _ _ _ _ _)
   | (with_reducible exact ih3 _ _ _ _)
   | (with_reducible exact calendar_Outs.mono _ _ _ _)
   | (with_reducible exact trivetlaw14_up.mono _)
   | (with_reducible exact LeO.refl _)
   | (with_reducible exact LeO.none _)
   | (with_reducible refine LeO.ite ?_ ?_)
   | (with_reducible refine LeO.bind ?_ (fun _ => ?_))
   | exact ih0 _ _ _ _ _ _ _ _ _
   | exact ih1 _ _ _ _ _ _
   | exact ih2 _ _ _ _ _ _
   | exact ih3 _ _ _ _
   | exact calendar_Outs.mono _ _ _ _
   | exact trivetlaw14_up.mono _
   | exact LeO.none _
   | refine LeO.ite ?_ ?_
   | refine LeO.bind ?_ (fun _ => ?_)
set_option maxHeartbeats 8000000 in
set_option maxRecDepth 100000 in
theorem trivetlaw14_CalendarStays.calls (k : Nat) (A0 : Option Addr) (c0 : Nat) (l0 : List (S48)) (a1 : Int) (a2 : Int) (r : Bool) (w : World) (hr0 : Kd.C k48 w A0 l0.length l0) (hc0 : l0.length ≤ c0) (h : trivetlaw14_CalendarStays.f k l0 a1 a2 = some r) :
  Calls Try.prog 6 #[.slice A0 l0.length c0, .int .i64 a1, .int .i64 a2] w fun e w' => e = .returned (.bool r) ∧ Below w.heap.size w w' := by
 have hu45 := Try.underlying45
 have hu48 := Try.underlying48
 have hu26 := Try.underlying26
 have hu35 := Try.underlying35
 have HR0 := ka hr0
 have HC0 := ka hc0
 clear hr0 hc0
 have HB := ka (Below.refl w.heap.size w)
 have H : ((trivetlaw14_up.f k).bind fun t563 => (if (l0.length : Int) > 100 then (some t563) else ((some (([] : List (S48)) : List (S48))).bind fun y564 => (if y564.length + l0.length < 5864062014805 then ((some (y564 ++ l0 : List (S48))).bind fun y567 => ((calendar_Outs.f k y567 a1 a2).bind fun bt570 => ((some (([] : List (S45)) : List (S45))).bind fun y574 => (if y574.length + bt570.1.length < 5864062014805 then (trivetlaw14_CalendarStays.l0 k l0 a1 a2 t563 y567 bt570.1 bt570.2 (y574 ++ bt570.1) 0) else (none))))) else (none))))) = some r := h
 clear h
 replace H := Option.bind_eq_some_iff.mp H
 obtain ⟨t563, A40, H⟩ := H
 replace H : (if (l0.length : Int) > 100 then (some t563) else ((some (([] : List (S48)) : List (S48))).bind fun y564 => (if y564.length + l0.length < 5864062014805 then ((some (y564 ++ l0 : List (S48))).bind fun y567 => ((calendar_Outs.f k y567 a1 a2).bind fun bt570 => ((some (([] : List (S45)) : List (S45))).bind fun y574 => (if y574.length + bt570.1.length < 5864062014805 then (trivetlaw14_CalendarStays.l0 k l0 a1 a2 t563 y567 bt570.1 bt570.2 (y574 ++ bt570.1) 0) else (none))))) else (none)))) = some r := H
 have A4 := ka A40
 clear A40
 by_cases c5 : (l0.length : Int) > 100
 ·rw [if_pos c5] at H
  have c5b0 : decide (100 < (l0.length : Int)) = true := decide_eq_true c5
  have c5b1 : decide (100 < l0.length) = true := decide_eq_true (by omega)
  clear c5
  obtain rfl := Option.some.inj H
  go_enter Try.func6, Try.ntmps6
  go_wp2_with (first | (go_at_call 9; (with_reducible refine (trivetlaw14_up.calls k  t563 _ A4.out).mono ?_); rintro e w6 ⟨rfl, hb⟩; replace HB := ka (below_step (kw HB.out) hb); (try clear hb); (try clear hb2); (try clear hk); (try clear hi)))
  repeat (go_quiet (first | (go_at_call 9; (with_reducible refine (trivetlaw14_up.calls k  t563 _ A4.out).mono ?_); rintro e w6 ⟨rfl, hb⟩; replace HB := ka (below_step (kw HB.out) hb); (try clear hb); (try clear hb2); (try clear hk); (try clear hi))); try go_wp2_with (first | (go_at_call 9; (with_reducible refine (trivetlaw14_up.calls k  t563 _ A4.out).mono ?_); rintro e w6 ⟨rfl, hb⟩; replace HB := ka (below_step (kw HB.out) hb); (try clear hb); (try clear hb2); (try clear hk); (try clear hi))))
  go_ret
  exact ⟨by first | rfl | (simp [errW_none, errW_some] <;> rfl) | (simp [*, errW_none, errW_some] <;> rfl), by repeat (first | (with_reducible first | exact HB.out | apply kc1 | apply kc2 | apply kc3) | exact HB.out)⟩
 ·rw [if_neg c5] at H
  have c5b0 : decide (100 < (l0.length : Int)) = false := decide_eq_false c5
  have c5b1 : decide (100 < l0.length) = false := decide_eq_false (by omega)
  clear c5
  obtain ⟨y564, hy564⟩ : ∃ y_ : List (S48), y_ = (([] : List (S48))) := ⟨_, rfl⟩
  replace H : (if y564.length + l0.length < 5864062014805 then ((some (y564 ++ l0 : List (S48))).bind fun y567 => ((calendar_Outs.f k y567 a1 a2).bind fun bt570 => ((some (([] : List (S45)) : List (S45))).bind fun y574 => (if y574.length + bt570.1.length < 5864062014805 then (trivetlaw14_CalendarStays.l0 k l0 a1 a2 t563 y567 bt570.1 bt570.2 (y574 ++ bt570.1) 0) else (none))))) else (none)) = some r := by first | (rw [hy564]; with_reducible exact H) | (have H2_ := (Option.bind_some _ _).symm.trans H; rw [hy564]; with_reducible exact H2_) | (have H2_ := (Option.bind_some _ _).symm.trans H; with_reducible exact H2_) | with_reducible exact H | (rw [hy564]; exact H) | exact H
  have Ny564 := ka hy564
  clear hy564
  by_cases c7 : y564.length + l0.length < 5864062014805
  ·rw [if_pos c7] at H
   have LMc7 := ka c7
   clear c7
   obtain ⟨y567, hy567⟩ : ∃ y_ : List (S48), y_ = (y564 ++ l0) := ⟨_, rfl⟩
   replace H : ((calendar_Outs.f k y567 a1 a2).bind fun bt570 => ((some (([] : List (S45)) : List (S45))).bind fun y574 => (if y574.length + bt570.1.length < 5864062014805 then (trivetlaw14_CalendarStays.l0 k l0 a1 a2 t563 y567 bt570.1 bt570.2 (y574 ++ bt570.1) 0) else (none)))) = some r := by first | (rw [hy567]; with_reducible exact H) | (have H2_ := (Option.bind_some _ _).symm.trans H; rw [hy567]; with_reducible exact H2_) | (have H2_ := (Option.bind_some _ _).symm.trans H; with_reducible exact H2_) | with_reducible exact H | (rw [hy567]; exact H) | exact H
   have Ny567 := ka hy567
   clear hy567
   replace H := Option.bind_eq_some_iff.mp H
   obtain ⟨⟨t570, t571⟩, A80, H⟩ := H
   replace H : ((some (([] : List (S45)) : List (S45))).bind fun y574 => (if y574.length + t570.length < 5864062014805 then (trivetlaw14_CalendarStays.l0 k l0 a1 a2 t563 y567 t570 t571 (y574 ++ t570) 0) else (none))) = some r := H
   have A8 := ka A80
   clear A80
   obtain ⟨y574, hy574⟩ : ∃ y_ : List (S45), y_ = (([] : List (S45))) := ⟨_, rfl⟩
   replace H : (if y574.length + t570.length < 5864062014805 then (trivetlaw14_CalendarStays.l0 k l0 a1 a2 t563 y567 t570 t571 (y574 ++ t570) 0) else (none)) = some r := by first | (rw [hy574]; with_reducible exact H) | (have H2_ := (Option.bind_some _ _).symm.trans H; rw [hy574]; with_reducible exact H2_) | (have H2_ := (Option.bind_some _ _).symm.trans H; with_reducible exact H2_) | with_reducible exact H | (rw [hy574]; exact H) | exact H
   have Ny574 := ka hy574
   clear hy574
   by_cases c9 : y574.length + t570.length < 5864062014805
   ·rw [if_pos c9] at H
    have LMc9 := ka c9
    clear c9
    obtain ⟨y577, hy577⟩ : ∃ y_ : List (S45), y_ = (y574 ++ t570) := ⟨_, rfl⟩
    replace H : (trivetlaw14_CalendarStays.l0 k l0 a1 a2 t563 y567 t570 t571 y577 0) = some r := by first | (rw [hy577]; with_reducible exact H) | (have H2_ := (Option.bind_some _ _).symm.trans H; rw [hy577]; with_reducible exact H2_) | (have H2_ := (Option.bind_some _ _).symm.trans H; with_reducible exact H2_) | with_reducible exact H | (rw [hy577]; exact H) | exact H
    have Ny577 := ka hy577
    clear hy577
    have H' := ka H
    clear H
    go_enter Try.func6, Try.ntmps6
    go_wp2_with (first | (go_at_call 9; (with_reducible refine (trivetlaw14_up.calls k  t563 _ A4.out).mono ?_); rintro e w10 ⟨rfl, hb⟩; replace HB := ka (below_step (kw HB.out) hb); (try clear hb); (try clear hb2); (try clear hk); (try clear hi)) | ((with_reducible refine gate_dst (N := 22) rfl ?_); (try (refine gate_guard (by rfl) ?_; dsimp only)); refine Kd.R_lit k48 _ 48 ?hg (N := 22) ?hd (xs := ([] : List (S48))) (inner := []) (ok := fun _ => True) (okp := fun _ => True) ?hr ?hp (fun _ hk => hk) trivial (Below.refl _ _) (Nat.le_refl _) (by simp) ?_; (case hd => rfl); (case hg => rfl); (case hr => first | (go_simp; done) | (go_simp; rfl)); (case hp => exact (Reps.none _ _)); intro v565 w11 ho12 hb hg_ hnew_; clear hg_ hnew_; (first | rw [← Ny564.out] at ho12 | (simp only [Int.reduceToNat] at ho12; rw [← Ny564.out] at ho12)); have HO566 := ka (Kd.R_lower ho12 (below_size (kw HB.out))); replace HB := ka (below_step (kw HB.out) hb); clear hb ho12) | ((with_reducible refine gate_builtin (b := .append) (xs := #[.tmp 22, .tmp 23]) rfl ?_); (try (refine gate_guard (by rfl) ?_; dsimp only)); at_builtin; refine Kd.R_append_rows k48 (w0 := w) w.heap.size rfl (.tmp 22) (.tmp 23) 22 48 (.agg #[(.int .i64 0), (.int .i64 0), (.int .i64 0)]) 24 rfl Try.underlying22 info48 rfl (by decide) (by omega) v565 y564 l0 _ _ _ (fun _ => True) (fun _ => False) rfl rfl ?aO ?aR (fun _ _ h => h) (fun _ h => h.elim) ?aF ?aB ?aS ?aL ?_; (case aR => repeat (first | exact (Kd.C_below HR0.out HB.out) | (with_reducible refine Kd.C_alloc ?_ _) | (with_reducible refine Kd.C_drewN ?_ _) | (with_reducible refine Kd.C_drew ?_))); (case aB => exact (kw HB.out)); (case aF => exact (fun _ _ => trivial)); (case aO => exact (kr HO566.out)); (case aS => exact (below_size (kw HB.out))); (case aL => have := LMc7.out; omega); intro v568 w13 ho hb hg hat; rw [← Ny567.out] at ho; replace HB := ka (hb); have HO569 := ka (ho); clear HO566; clear ho hb hg hat; obtain ⟨Ao14, co14, eo14⟩ := Kd.R_slice HO569.out; subst eo14) | (go_at_call 17; (with_reducible refine (calendar_Outs.calls k _ _ y567 a1 a2 t570 t571 _ ?side1 ?side2 A8.out).mono ?_); (case side1 => repeat (first | exact (Kd.R_reads' HO569.out).2.2 | (with_reducible refine Kd.C_alloc ?_ _) | (with_reducible refine Kd.C_drewN ?_ _) | (with_reducible refine Kd.C_drew ?_))); (case side2 => exact (Kd.R_reads' HO569.out).2.1); rintro e w15 ⟨v572, rfl, ho0, hb⟩; replace HO569 := ka (Kd.R_below (kr HO569.out) hb); have HO573 := ka (Kd.R_lower ho0 (below_size (kw HB.out))); replace HB := ka (below_step (kw HB.out) hb); (try clear hb); (try clear hb2); (try clear hk); (try clear hi); (try clear ho0); (try simp only [errW_none, errW_some])) | ((with_reducible refine gate_dst (N := 32) rfl ?_); (try (refine gate_guard (by rfl) ?_; dsimp only)); refine Kd.R_lit k45 _ 45 ?hg (N := 32) ?hd (xs := ([] : List (S45))) (inner := []) (ok := fun _ => True) (okp := fun _ => True) ?hr ?hp (fun _ hk => hk) trivial (Below.refl _ _) (Nat.le_refl _) (by simp) ?_; (case hd => rfl); (case hg => rfl); (case hr => first | (go_simp; done) | (go_simp; rfl)); (case hp => exact (Reps.none _ _)); intro v575 w16 ho17 hb hg_ hnew_; clear hg_ hnew_; (first | rw [← Ny574.out] at ho17 | (simp only [Int.reduceToNat] at ho17; rw [← Ny574.out] at ho17)); replace HO569 := ka (Kd.R_below (kr HO569.out) hb); have HO576 := ka (Kd.R_lower (Kd.R_new' ho17 (Kd.R_lt (kr HO573.out))) (below_size (kw HB.out))); replace HO573 := ka (Kd.R_elder' (kr HO573.out) (Kd.R_base ho17) hb); replace HB := ka (below_step (kw HB.out) hb); clear hb ho17; obtain ⟨Ao19, co19, eo19⟩ := Kd.R_slice HO573.out; subst eo19) | ((with_reducible refine gate_builtin (b := .append) (xs := #[.tmp 32, .tmp 33]) rfl ?_); (try (refine gate_guard (by rfl) ?_; dsimp only)); at_builtin; refine Kd.R_append_rows k45 (w0 := w) w.heap.size rfl (.tmp 32) (.tmp 33) 40 45 (.agg #[(.int .i64 0), (.int .i64 0), (.int .i64 0)]) 24 rfl Try.underlying40 info45 rfl (by decide) (by omega) v575 y574 t570 _ _ _ (fun k_ => some k_ ≠ (.slice Ao19 t570.length co19 : Value).ownBlock) (fun _ => False) rfl rfl ?aO ?aR (fun _ _ h => h) (fun _ h => h.elim) ?aF ?aB ?aS ?aL ?_; (case aR => repeat (first | exact (Kd.R_reads' HO573.out).2.2 | (with_reducible refine Kd.C_alloc ?_ _) | (with_reducible refine Kd.C_drewN ?_ _) | (with_reducible refine Kd.C_drew ?_))); (case aB => exact (kw HB.out)); (case aF => exact (fun k_ hk => Kd.fresh' (Kd.R_lt (kr HO573.out)) k_ hk)); (case aO => exact (kr (Kd.R_mono HO576.out (fun _ hk => hk.2)))); (case aS => exact (below_size (kw HB.out))); (case aL => have := LMc9.out; omega); intro v578 w18 ho hb hg hat; rw [← Ny577.out] at ho; replace HO569 := ka (Kd.R_over' (kr HO569.out) (Kd.R_typed (kr HO576.out)) (by decide) hg); replace HO573 := ka (Kd.R_after (ok := (fun _ => True)) (kr HO573.out) hg hat); replace HB := ka (hb); have HO579 := ka (ho); clear HO576; clear ho hb hg hat))
    repeat (go_quiet (first | (go_at_call 9; (with_reducible refine (trivetlaw14_up.calls k  t563 _ A4.out).mono ?_); rintro e w10 ⟨rfl, hb⟩; replace HB := ka (below_step (kw HB.out) hb); (try clear hb); (try clear hb2); (try clear hk); (try clear hi)) | ((with_reducible refine gate_dst (N := 22) rfl ?_); (try (refine gate_guard (by rfl) ?_; dsimp only)); refine Kd.R_lit k48 _ 48 ?hg (N := 22) ?hd (xs := ([] : List (S48))) (inner := []) (ok := fun _ => True) (okp := fun _ => True) ?hr ?hp (fun _ hk => hk) trivial (Below.refl _ _) (Nat.le_refl _) (by simp) ?_; (case hd => rfl); (case hg => rfl); (case hr => first | (go_simp; done) | (go_simp; rfl)); (case hp => exact (Reps.none _ _)); intro v565 w11 ho12 hb hg_ hnew_; clear hg_ hnew_; (first | rw [← Ny564.out] at ho12 | (simp only [Int.reduceToNat] at ho12; rw [← Ny564.out] at ho12)); have HO566 := ka (Kd.R_lower ho12 (below_size (kw HB.out))); replace HB := ka (below_step (kw HB.out) hb); clear hb ho12) | ((with_reducible refine gate_builtin (b := .append) (xs := #[.tmp 22, .tmp 23]) rfl ?_); (try (refine gate_guard (by rfl) ?_; dsimp only)); at_builtin; refine Kd.R_append_rows k48 (w0 := w) w.heap.size rfl (.tmp 22) (.tmp 23) 22 48 (.agg #[(.int .i64 0), (.int .i64 0), (.int .i64 0)]) 24 rfl Try.underlying22 info48 rfl (by decide) (by omega) v565 y564 l0 _ _ _ (fun _ => True) (fun _ => False) rfl rfl ?aO ?aR (fun _ _ h => h) (fun _ h => h.elim) ?aF ?aB ?aS ?aL ?_; (case aR => repeat (first | exact (Kd.C_below HR0.out HB.out) | (with_reducible refine Kd.C_alloc ?_ _) | (with_reducible refine Kd.C_drewN ?_ _) | (with_reducible refine Kd.C_drew ?_))); (case aB => exact (kw HB.out)); (case aF => exact (fun _ _ => trivial)); (case aO => exact (kr HO566.out)); (case aS => exact (below_size (kw HB.out))); (case aL => have := LMc7.out; omega); intro v568 w13 ho hb hg hat; rw [← Ny567.out] at ho; replace HB := ka (hb); have HO569 := ka (ho); clear HO566; clear ho hb hg hat; obtain ⟨Ao14, co14, eo14⟩ := Kd.R_slice HO569.out; subst eo14) | (go_at_call 17; (with_reducible refine (calendar_Outs.calls k _ _ y567 a1 a2 t570 t571 _ ?side1 ?side2 A8.out).mono ?_); (case side1 => repeat (first | exact (Kd.R_reads' HO569.out).2.2 | (with_reducible refine Kd.C_alloc ?_ _) | (with_reducible refine Kd.C_drewN ?_ _) | (with_reducible refine Kd.C_drew ?_))); (case side2 => exact (Kd.R_reads' HO569.out).2.1); rintro e w15 ⟨v572, rfl, ho0, hb⟩; replace HO569 := ka (Kd.R_below (kr HO569.out) hb); have HO573 := ka (Kd.R_lower ho0 (below_size (kw HB.out))); replace HB := ka (below_step (kw HB.out) hb); (try clear hb); (try clear hb2); (try clear hk); (try clear hi); (try clear ho0); (try simp only [errW_none, errW_some])) | ((with_reducible refine gate_dst (N := 32) rfl ?_); (try (refine gate_guard (by rfl) ?_; dsimp only)); refine Kd.R_lit k45 _ 45 ?hg (N := 32) ?hd (xs := ([] : List (S45))) (inner := []) (ok := fun _ => True) (okp := fun _ => True) ?hr ?hp (fun _ hk => hk) trivial (Below.refl _ _) (Nat.le_refl _) (by simp) ?_; (case hd => rfl); (case hg => rfl); (case hr => first | (go_simp; done) | (go_simp; rfl)); (case hp => exact (Reps.none _ _)); intro v575 w16 ho17 hb hg_ hnew_; clear hg_ hnew_; (first | rw [← Ny574.out] at ho17 | (simp only [Int.reduceToNat] at ho17; rw [← Ny574.out] at ho17)); replace HO569 := ka (Kd.R_below (kr HO569.out) hb); have HO576 := ka (Kd.R_lower (Kd.R_new' ho17 (Kd.R_lt (kr HO573.out))) (below_size (kw HB.out))); replace HO573 := ka (Kd.R_elder' (kr HO573.out) (Kd.R_base ho17) hb); replace HB := ka (below_step (kw HB.out) hb); clear hb ho17; obtain ⟨Ao19, co19, eo19⟩ := Kd.R_slice HO573.out; subst eo19) | ((with_reducible refine gate_builtin (b := .append) (xs := #[.tmp 32, .tmp 33]) rfl ?_); (try (refine gate_guard (by rfl) ?_; dsimp only)); at_builtin; refine Kd.R_append_rows k45 (w0 := w) w.heap.size rfl (.tmp 32) (.tmp 33) 40 45 (.agg #[(.int .i64 0), (.int .i64 0), (.int .i64 0)]) 24 rfl Try.underlying40 info45 rfl (by decide) (by omega) v575 y574 t570 _ _ _ (fun k_ => some k_ ≠ (.slice Ao19 t570.length co19 : Value).ownBlock) (fun _ => False) rfl rfl ?aO ?aR (fun _ _ h => h) (fun _ h => h.elim) ?aF ?aB ?aS ?aL ?_; (case aR => repeat (first | exact (Kd.R_reads' HO573.out).2.2 | (with_reducible refine Kd.C_alloc ?_ _) | (with_reducible refine Kd.C_drewN ?_ _) | (with_reducible refine Kd.C_drew ?_))); (case aB => exact (kw HB.out)); (case aF => exact (fun k_ hk => Kd.fresh' (Kd.R_lt (kr HO573.out)) k_ hk)); (case aO => exact (kr (Kd.R_mono HO576.out (fun _ hk => hk.2)))); (case aS => exact (below_size (kw HB.out))); (case aL => have := LMc9.out; omega); intro v578 w18 ho hb hg hat; rw [← Ny577.out] at ho; replace HO569 := ka (Kd.R_over' (kr HO569.out) (Kd.R_typed (kr HO576.out)) (by decide) hg); replace HO573 := ka (Kd.R_after (ok := (fun _ => True)) (kr HO573.out) hg hat); replace HB := ka (hb); have HO579 := ka (ho); clear HO576; clear ho hb hg hat)); try go_wp2_with (first | (go_at_call 9; (with_reducible refine (trivetlaw14_up.calls k  t563 _ A4.out).mono ?_); rintro e w10 ⟨rfl, hb⟩; replace HB := ka (below_step (kw HB.out) hb); (try clear hb); (try clear hb2); (try clear hk); (try clear hi)) | ((with_reducible refine gate_dst (N := 22) rfl ?_); (try (refine gate_guard (by rfl) ?_; dsimp only)); refine Kd.R_lit k48 _ 48 ?hg (N := 22) ?hd (xs := ([] : List (S48))) (inner := []) (ok := fun _ => True) (okp := fun _ => True) ?hr ?hp (fun _ hk => hk) trivial (Below.refl _ _) (Nat.le_refl _) (by simp) ?_; (case hd => rfl); (case hg => rfl); (case hr => first | (go_simp; done) | (go_simp; rfl)); (case hp => exact (Reps.none _ _)); intro v565 w11 ho12 hb hg_ hnew_; clear hg_ hnew_; (first | rw [← Ny564.out] at ho12 | (simp only [Int.reduceToNat] at ho12; rw [← Ny564.out] at ho12)); have HO566 := ka (Kd.R_lower ho12 (below_size (kw HB.out))); replace HB := ka (below_step (kw HB.out) hb); clear hb ho12) | ((with_reducible refine gate_builtin (b := .append) (xs := #[.tmp 22, .tmp 23]) rfl ?_); (try (refine gate_guard (by rfl) ?_; dsimp only)); at_builtin; refine Kd.R_append_rows k48 (w0 := w) w.heap.size rfl (.tmp 22) (.tmp 23) 22 48 (.agg #[(.int .i64 0), (.int .i64 0), (.int .i64 0)]) 24 rfl Try.underlying22 info48 rfl (by decide) (by omega) v565 y564 l0 _ _ _ (fun _ => True) (fun _ => False) rfl rfl ?aO ?aR (fun _ _ h => h) (fun _ h => h.elim) ?aF ?aB ?aS ?aL ?_; (case aR => repeat (first | exact (Kd.C_below HR0.out HB.out) | (with_reducible refine Kd.C_alloc ?_ _) | (with_reducible refine Kd.C_drewN ?_ _) | (with_reducible refine Kd.C_drew ?_))); (case aB => exact (kw HB.out)); (case aF => exact (fun _ _ => trivial)); (case aO => exact (kr HO566.out)); (case aS => exact (below_size (kw HB.out))); (case aL => have := LMc7.out; omega); intro v568 w13 ho hb hg hat; rw [← Ny567.out] at ho; replace HB := ka (hb); have HO569 := ka (ho); clear HO566; clear ho hb hg hat; obtain ⟨Ao14, co14, eo14⟩ := Kd.R_slice HO569.out; subst eo14) | (go_at_call 17; (with_reducible refine (calendar_Outs.calls k _ _ y567 a1 a2 t570 t571 _ ?side1 ?side2 A8.out).mono ?_); (case side1 => repeat (first | exact (Kd.R_reads' HO569.out).2.2 | (with_reducible refine Kd.C_alloc ?_ _) | (with_reducible refine Kd.C_drewN ?_ _) | (with_reducible refine Kd.C_drew ?_))); (case side2 => exact (Kd.R_reads' HO569.out).2.1); rintro e w15 ⟨v572, rfl, ho0, hb⟩; replace HO569 := ka (Kd.R_below (kr HO569.out) hb); have HO573 := ka (Kd.R_lower ho0 (below_size (kw HB.out))); replace HB := ka (below_step (kw HB.out) hb); (try clear hb); (try clear hb2); (try clear hk); (try clear hi); (try clear ho0); (try simp only [errW_none, errW_some])) | ((with_reducible refine gate_dst (N := 32) rfl ?_); (try (refine gate_guard (by rfl) ?_; dsimp only)); refine Kd.R_lit k45 _ 45 ?hg (N := 32) ?hd (xs := ([] : List (S45))) (inner := []) (ok := fun _ => True) (okp := fun _ => True) ?hr ?hp (fun _ hk => hk) trivial (Below.refl _ _) (Nat.le_refl _) (by simp) ?_; (case hd => rfl); (case hg => rfl); (case hr => first | (go_simp; done) | (go_simp; rfl)); (case hp => exact (Reps.none _ _)); intro v575 w16 ho17 hb hg_ hnew_; clear hg_ hnew_; (first | rw [← Ny574.out] at ho17 | (simp only [Int.reduceToNat] at ho17; rw [← Ny574.out] at ho17)); replace HO569 := ka (Kd.R_below (kr HO569.out) hb); have HO576 := ka (Kd.R_lower (Kd.R_new' ho17 (Kd.R_lt (kr HO573.out))) (below_size (kw HB.out))); replace HO573 := ka (Kd.R_elder' (kr HO573.out) (Kd.R_base ho17) hb); replace HB := ka (below_step (kw HB.out) hb); clear hb ho17; obtain ⟨Ao19, co19, eo19⟩ := Kd.R_slice HO573.out; subst eo19) | ((with_reducible refine gate_builtin (b := .append) (xs := #[.tmp 32, .tmp 33]) rfl ?_); (try (refine gate_guard (by rfl) ?_; dsimp only)); at_builtin; refine Kd.R_append_rows k45 (w0 := w) w.heap.size rfl (.tmp 32) (.tmp 33) 40 45 (.agg #[(.int .i64 0), (.int .i64 0), (.int .i64 0)]) 24 rfl Try.underlying40 info45 rfl (by decide) (by omega) v575 y574 t570 _ _ _ (fun k_ => some k_ ≠ (.slice Ao19 t570.length co19 : Value).ownBlock) (fun _ => False) rfl rfl ?aO ?aR (fun _ _ h => h) (fun _ h => h.elim) ?aF ?aB ?aS ?aL ?_; (case aR => repeat (first | exact (Kd.R_reads' HO573.out).2.2 | (with_reducible refine Kd.C_alloc ?_ _) | (with_reducible refine Kd.C_drewN ?_ _) | (with_reducible refine Kd.C_drew ?_))); (case aB => exact (kw HB.out)); (case aF => exact (fun k_ hk => Kd.fresh' (Kd.R_lt (kr HO573.out)) k_ hk)); (case aO => exact (kr (Kd.R_mono HO576.out (fun _ hk => hk.2)))); (case aS => exact (below_size (kw HB.out))); (case aL => have := LMc9.out; omega); intro v578 w18 ho hb hg hat; rw [← Ny577.out] at ho; replace HO569 := ka (Kd.R_over' (kr HO569.out) (Kd.R_typed (kr HO576.out)) (by decide) hg); replace HO573 := ka (Kd.R_after (ok := (fun _ => True)) (kr HO573.out) hg hat); replace HB := ka (hb); have HO579 := ka (ho); clear HO576; clear ho hb hg hat)))
    (try simp only [Act.put, List.setIfInBounds_toArray, List.set_cons_zero, List.set_cons_succ])
    go_loopg [12] k (fun kq v12 w' => ∃ (x9_1 : List (S45)) (x12_1 : Int), v12 = .int .i64 x12_1 ∧ Aside0 (trivetlaw14_CalendarStays.l0 kq l0 a1 a2 t563 y567 x9_1 t571 y577 x12_1 = some r) ∧ Aside0 (kq ≤ k) ∧ Aside0 (Kd.R k48 48 w' w.heap.size (fun _ => True) (.slice Ao14 y567.length co14) y567) ∧ Aside0 (Kd.R k45 45 w' w.heap.size (fun k_ => some k_ ≠ (v578 : Value).ownBlock) (.slice Ao19 t570.length co19) x9_1) ∧ Aside0 (Kd.R k45 45 w' w.heap.size (fun k_ => some k_ ≠ ((.slice Ao19 t570.length co19) : Value).ownBlock) v578 y577) ∧ Aside0 (Below w.heap.size w w'))
    case atStart => exact ⟨(t570), (0), (by first | rfl | (simp; done) | (simp [*]; done)), H', ⟨Nat.le_refl _⟩, ⟨kr HO569.out⟩, ⟨kr (Kd.R_mono HO573.out (fun _ hk => hk.2))⟩, ⟨kr HO579.out⟩, ⟨by repeat (first | (with_reducible first | exact HB.out | apply kc1 | apply kc2 | apply kc3) | exact HB.out)⟩⟩
    case round =>
     clear H'
     try clear p2
     try clear c5
     try clear c5b0
     try clear c5b1
     try clear c6
     try clear c7
     try clear c9
     obtain ⟨x9_1, x12_1, rfl, HA, HK1, HO_8, HO_9, HO_11, HB⟩ := hrel
     have hl9_1 := (Kd.R_reads' HO_9.out).1
     rw [hl9_1] at HO_9
     (try simp only [hl9_1])
     (try simp only [hl9_1] at HO_8)
     (try simp only [hl9_1] at HO_11)
     cases gk with
     | zero => exact absurd HA.out (by simp [trivetlaw14_CalendarStays.l0])
     | succ k1 =>
      have H := HA.out
      clear HA
      simp only [trivetlaw14_CalendarStays.l0] at H
      by_cases c20 : x12_1 < (x9_1.length : Int)
      ·rw [if_pos c20] at H
       have c20b0 : decide (x12_1 < (x9_1.length : Int)) = true := decide_eq_true c20
       clear c20
       by_cases c21 : 0 ≤ x12_1
       ·rw [if_pos c21] at H
        have c21b0 : decide (0 ≤ x12_1) = true := decide_eq_true c21
        clear c21
        obtain ⟨y580, hy580⟩ : ∃ y_ : List (S45), y_ = (x9_1.set (x12_1 : Int).toNat (⟨0, 0, 0⟩ : S45)) := ⟨_, rfl⟩
        replace H : (trivetlaw14_CalendarStays.l0 k1 l0 a1 a2 t563 y567 y580 t571 y577 (wrap64 (x12_1 + 1))) = some r := by first | (rw [hy580]; with_reducible exact H) | (have H2_ := (Option.bind_some _ _).symm.trans H; rw [hy580]; with_reducible exact H2_) | (have H2_ := (Option.bind_some _ _).symm.trans H; with_reducible exact H2_) | with_reducible exact H | (rw [hy580]; exact H) | exact H
        have Ny580 := ka hy580
        clear hy580
        have H' := ka H
        clear H
        have p22 : 0 ≤ (x12_1 : Int) := of_decide_eq_true (by first | (with_reducible assumption) | assumption)
        have q22 : (x12_1 : Int) < ((x9_1.length : Int) : Int) := of_decide_eq_true (by first | (with_reducible assumption) | assumption)
        obtain ⟨go22, co22, eo22, gb22, gl22, cl22, HG22⟩ := Kd.R_form HO_9.out (by omega)
        (first | cases eo22 | (injection eo22 with ea_ en_ ec_; (first | subst ea_ | (injection ea_ with ea_; subst ea_)); subst ec_; clear en_))
        have GB22 := ka gb22
        have GG22 := ka HG22
        clear gb22 gl22 HG22
        obtain ⟨ce22, hcl22, hM22, hcc22, hfr22⟩ := Kd.R_elem HO_9.out z45 (x12_1 : Int) p22 q22
        obtain rfl := k45_openM hM22
        have hx22_0 : wr.cell? ⟨go22, (x12_1 : Int).toNat * 3, none⟩ = some (.int .i64 ((rd_T45 x9_1 x12_1).f0)) := hcc22 0 _ rfl
        have hx22_1 : wr.cell? ⟨go22, (x12_1 : Int).toNat * 3 + 1, none⟩ = some (.int .i64 ((rd_T45 x9_1 x12_1).f1)) := hcc22 1 _ rfl
        have hx22_2 : wr.cell? ⟨go22, (x12_1 : Int).toNat * 3 + 2, none⟩ = some (.int .i64 ((rd_T45 x9_1 x12_1).f2)) := hcc22 2 _ rfl
        have hf22_0 : wr.frozen? ⟨go22, (x12_1 : Int).toNat * 3, none⟩ = false := hfr22 0
        have hf22_1 : wr.frozen? ⟨go22, (x12_1 : Int).toNat * 3 + 1, none⟩ = false := hfr22 1
        have hf22_2 : wr.frozen? ⟨go22, (x12_1 : Int).toNat * 3 + 2, none⟩ = false := hfr22 2
        clear hcl22 hcc22 hfr22 hM22
        replace p22 := eq_true p22
        replace q22 := eq_true q22
        have HX23 := ka (show Kd.R k45 45 wr w.heap.size (fun k_ => some k_ ≠ (v578 : Value).ownBlock) (.slice (some ⟨go22, 0, none⟩) x9_1.length co19) x9_1 from (kr HO_9.out))
        obtain ⟨ce23, hcl23, hM23, hcc23, hfr23⟩ := Kd.R_elem HX23.out z45 (x12_1 : Int) (of_decide_eq_true (by first | (with_reducible assumption) | assumption)) (by have h_ : (x12_1 : Int) < ((x9_1.length : Int) : Int) := of_decide_eq_true (by first | (with_reducible assumption) | assumption); first | exact h_ | (have e_ := (Kd.R_reads' HO_9.out).1; omega) | simpa using h_)
        obtain rfl := k45_openM hM23
        have HP23 := Kd.R_seg HX23.out (x12_1 : Int) (of_decide_eq_true (by first | (with_reducible assumption) | assumption)) (by have h_ : (x12_1 : Int) < ((x9_1.length : Int) : Int) := of_decide_eq_true (by first | (with_reducible assumption) | assumption); first | exact h_ | (have e_ := (Kd.R_reads' HO_9.out).1; omega) | simpa using h_) (seg := [.int .i64 0, .int .i64 0, .int .i64 0]) (j := 0) hcl23 hcc23 (show 3 ≤ 3 from by decide) (x' := (⟨0, 0, 0⟩ : S45)) (k45_mkM _ _ _ (⟨0, 0, 0⟩ : S45) ) (fun _ hk => hk)
        have hx23_0 := hcc23 0 _ rfl
        (try simp only [show (k45).sz = 3 from rfl, Nat.mul_one, Nat.add_zero] at hx23_0)
        have hf23_0 := hfr23 0
        (try simp only [show (k45).sz = 3 from rfl, Nat.mul_one, Nat.add_zero] at hf23_0)
        have hx23_1 := hcc23 1 _ rfl
        (try simp only [show (k45).sz = 3 from rfl, Nat.mul_one, Nat.add_zero] at hx23_1)
        have hf23_1 := hfr23 1
        (try simp only [show (k45).sz = 3 from rfl, Nat.mul_one, Nat.add_zero] at hf23_1)
        have hx23_2 := hcc23 2 _ rfl
        (try simp only [show (k45).sz = 3 from rfl, Nat.mul_one, Nat.add_zero] at hx23_2)
        have hf23_2 := hfr23 2
        (try simp only [show (k45).sz = 3 from rfl, Nat.mul_one, Nat.add_zero] at hf23_2)
        clear hcl23 hcc23 hfr23 hM23
        go_wp2_with (first | ((with_reducible refine gate_store (t := 45) (p := 44) rfl ?_); (try (rw [drewN_self wr]; generalize hq_ : World.drewN wr _ = wr; replace HO_8 := ka (Kd.R_at hq_ HO_8.out); replace HO_9 := ka (Kd.R_at hq_ HO_9.out); replace HO_11 := ka (Kd.R_at hq_ HO_11.out); replace HB := ka (below_at hq_ HB.out); clear hq_; (try (have HX23 := ka (show Kd.R k45 45 wr w.heap.size (fun k_ => some k_ ≠ (v578 : Value).ownBlock) (.slice (some ⟨go22, 0, none⟩) x9_1.length co19) x9_1 from (kr HO_9.out)))); (try (obtain ⟨ce23, hcl23, hM23, hcc23, hfr23⟩ := Kd.R_elem HX23.out z45 (x12_1 : Int) (of_decide_eq_true (by first | (with_reducible assumption) | assumption)) (by have h_ : (x12_1 : Int) < ((x9_1.length : Int) : Int) := of_decide_eq_true (by first | (with_reducible assumption) | assumption); first | exact h_ | (have e_ := (Kd.R_reads' HO_9.out).1; omega) | simpa using h_))); (try (obtain rfl := k45_openM hM23)); (try (have HP23 := Kd.R_seg HX23.out (x12_1 : Int) (of_decide_eq_true (by first | (with_reducible assumption) | assumption)) (by have h_ : (x12_1 : Int) < ((x9_1.length : Int) : Int) := of_decide_eq_true (by first | (with_reducible assumption) | assumption); first | exact h_ | (have e_ := (Kd.R_reads' HO_9.out).1; omega) | simpa using h_) (seg := [.int .i64 0, .int .i64 0, .int .i64 0]) (j := 0) hcl23 hcc23 (show 3 ≤ 3 from by decide) (x' := (⟨0, 0, 0⟩ : S45)) (k45_mkM _ _ _ (⟨0, 0, 0⟩ : S45) ) (fun _ hk => hk))); (try (have hx23_0 := hcc23 0 _ rfl)); (try (try simp only [show (k45).sz = 3 from rfl, Nat.mul_one, Nat.add_zero] at hx23_0)); (try (have hf23_0 := hfr23 0)); (try (try simp only [show (k45).sz = 3 from rfl, Nat.mul_one, Nat.add_zero] at hf23_0)); (try (have hx23_1 := hcc23 1 _ rfl)); (try (try simp only [show (k45).sz = 3 from rfl, Nat.mul_one, Nat.add_zero] at hx23_1)); (try (have hf23_1 := hfr23 1)); (try (try simp only [show (k45).sz = 3 from rfl, Nat.mul_one, Nat.add_zero] at hf23_1)); (try (have hx23_2 := hcc23 2 _ rfl)); (try (try simp only [show (k45).sz = 3 from rfl, Nat.mul_one, Nat.add_zero] at hx23_2)); (try (have hf23_2 := hfr23 2)); (try (try simp only [show (k45).sz = 3 from rfl, Nat.mul_one, Nat.add_zero] at hf23_2)); (try (clear hcl23 hcc23 hfr23 hM23)))); refine store_event (t := 45) (p := 44) (v := ?vo_w24) (w1 := (((wr.setCell ⟨go22, (x12_1 : Int).toNat * 3, none⟩ (.int .i64 0)).setCell ⟨go22, (x12_1 : Int).toNat * 3 + 1, none⟩ (.int .i64 0)).setCell ⟨go22, (x12_1 : Int).toNat * 3 + 2, none⟩ (.int .i64 0))) ?hg ?ho ?hn ?hr ?_; (case ho => rfl); (case hg => rfl); (case hn => rfl); (case hr => first | (go_simp; done) | (go_simp; rfl)); intro w24 hw; have hg : wr.grownBy w24 (some go22) := (by rw [hw]; exact HP23.2); have hp_ : Kd.R k45 45 w24 w.heap.size (fun k_ => some k_ ≠ (v578 : Value).ownBlock) (.slice (some ⟨go22, 0, none⟩) x9_1.length co19) y580 := (by rw [hw, Ny580.out]; exact HP23.1); clear HP23; replace HO_8 := ka (Kd.R_over' (v := (.slice (some ⟨go22, 0, none⟩) x9_1.length co19)) (kr HO_8.out) (Kd.R_typed HO_9.out) (by decide) hg); replace HO_9 := ka (hp_); replace HO_11 := ka (Kd.R_after (v := (.slice (some ⟨go22, 0, none⟩) x9_1.length co19)) (v1 := (.slice (some ⟨go22, 0, none⟩) x9_1.length co19)) (ok := (fun _ => True)) (kr (Kd.R_mono HO_11.out (fun _ hk => ⟨trivial, hk⟩))) hg (.inl rfl)); replace HB := ka ((by rw [hw]; exact below_set (below_set (below_set (HB.out) GB22.out) GB22.out) GB22.out : Below w.heap.size w w24)); clear hg hw hp_))
        repeat (go_quiet (first | ((with_reducible refine gate_store (t := 45) (p := 44) rfl ?_); (try (rw [drewN_self wr]; generalize hq_ : World.drewN wr _ = wr; replace HO_8 := ka (Kd.R_at hq_ HO_8.out); replace HO_9 := ka (Kd.R_at hq_ HO_9.out); replace HO_11 := ka (Kd.R_at hq_ HO_11.out); replace HB := ka (below_at hq_ HB.out); clear hq_; (try (have HX23 := ka (show Kd.R k45 45 wr w.heap.size (fun k_ => some k_ ≠ (v578 : Value).ownBlock) (.slice (some ⟨go22, 0, none⟩) x9_1.length co19) x9_1 from (kr HO_9.out)))); (try (obtain ⟨ce23, hcl23, hM23, hcc23, hfr23⟩ := Kd.R_elem HX23.out z45 (x12_1 : Int) (of_decide_eq_true (by first | (with_reducible assumption) | assumption)) (by have h_ : (x12_1 : Int) < ((x9_1.length : Int) : Int) := of_decide_eq_true (by first | (with_reducible assumption) | assumption); first | exact h_ | (have e_ := (Kd.R_reads' HO_9.out).1; omega) | simpa using h_))); (try (obtain rfl := k45_openM hM23)); (try (have HP23 := Kd.R_seg HX23.out (x12_1 : Int) (of_decide_eq_true (by first | (with_reducible assumption) | assumption)) (by have h_ : (x12_1 : Int) < ((x9_1.length : Int) : Int) := of_decide_eq_true (by first | (with_reducible assumption) | assumption); first | exact h_ | (have e_ := (Kd.R_reads' HO_9.out).1; omega) | simpa using h_) (seg := [.int .i64 0, .int .i64 0, .int .i64 0]) (j := 0) hcl23 hcc23 (show 3 ≤ 3 from by decide) (x' := (⟨0, 0, 0⟩ : S45)) (k45_mkM _ _ _ (⟨0, 0, 0⟩ : S45) ) (fun _ hk => hk))); (try (have hx23_0 := hcc23 0 _ rfl)); (try (try simp only [show (k45).sz = 3 from rfl, Nat.mul_one, Nat.add_zero] at hx23_0)); (try (have hf23_0 := hfr23 0)); (try (try simp only [show (k45).sz = 3 from rfl, Nat.mul_one, Nat.add_zero] at hf23_0)); (try (have hx23_1 := hcc23 1 _ rfl)); (try (try simp only [show (k45).sz = 3 from rfl, Nat.mul_one, Nat.add_zero] at hx23_1)); (try (have hf23_1 := hfr23 1)); (try (try simp only [show (k45).sz = 3 from rfl, Nat.mul_one, Nat.add_zero] at hf23_1)); (try (have hx23_2 := hcc23 2 _ rfl)); (try (try simp only [show (k45).sz = 3 from rfl, Nat.mul_one, Nat.add_zero] at hx23_2)); (try (have hf23_2 := hfr23 2)); (try (try simp only [show (k45).sz = 3 from rfl, Nat.mul_one, Nat.add_zero] at hf23_2)); (try (clear hcl23 hcc23 hfr23 hM23)))); refine store_event (t := 45) (p := 44) (v := ?vo_w24) (w1 := (((wr.setCell ⟨go22, (x12_1 : Int).toNat * 3, none⟩ (.int .i64 0)).setCell ⟨go22, (x12_1 : Int).toNat * 3 + 1, none⟩ (.int .i64 0)).setCell ⟨go22, (x12_1 : Int).toNat * 3 + 2, none⟩ (.int .i64 0))) ?hg ?ho ?hn ?hr ?_; (case ho => rfl); (case hg => rfl); (case hn => rfl); (case hr => first | (go_simp; done) | (go_simp; rfl)); intro w24 hw; have hg : wr.grownBy w24 (some go22) := (by rw [hw]; exact HP23.2); have hp_ : Kd.R k45 45 w24 w.heap.size (fun k_ => some k_ ≠ (v578 : Value).ownBlock) (.slice (some ⟨go22, 0, none⟩) x9_1.length co19) y580 := (by rw [hw, Ny580.out]; exact HP23.1); clear HP23; replace HO_8 := ka (Kd.R_over' (v := (.slice (some ⟨go22, 0, none⟩) x9_1.length co19)) (kr HO_8.out) (Kd.R_typed HO_9.out) (by decide) hg); replace HO_9 := ka (hp_); replace HO_11 := ka (Kd.R_after (v := (.slice (some ⟨go22, 0, none⟩) x9_1.length co19)) (v1 := (.slice (some ⟨go22, 0, none⟩) x9_1.length co19)) (ok := (fun _ => True)) (kr (Kd.R_mono HO_11.out (fun _ hk => ⟨trivial, hk⟩))) hg (.inl rfl)); replace HB := ka ((by rw [hw]; exact below_set (below_set (below_set (HB.out) GB22.out) GB22.out) GB22.out : Below w.heap.size w w24)); clear hg hw hp_)); try go_wp2_with (first | ((with_reducible refine gate_store (t := 45) (p := 44) rfl ?_); (try (rw [drewN_self wr]; generalize hq_ : World.drewN wr _ = wr; replace HO_8 := ka (Kd.R_at hq_ HO_8.out); replace HO_9 := ka (Kd.R_at hq_ HO_9.out); replace HO_11 := ka (Kd.R_at hq_ HO_11.out); replace HB := ka (below_at hq_ HB.out); clear hq_; (try (have HX23 := ka (show Kd.R k45 45 wr w.heap.size (fun k_ => some k_ ≠ (v578 : Value).ownBlock) (.slice (some ⟨go22, 0, none⟩) x9_1.length co19) x9_1 from (kr HO_9.out)))); (try (obtain ⟨ce23, hcl23, hM23, hcc23, hfr23⟩ := Kd.R_elem HX23.out z45 (x12_1 : Int) (of_decide_eq_true (by first | (with_reducible assumption) | assumption)) (by have h_ : (x12_1 : Int) < ((x9_1.length : Int) : Int) := of_decide_eq_true (by first | (with_reducible assumption) | assumption); first | exact h_ | (have e_ := (Kd.R_reads' HO_9.out).1; omega) | simpa using h_))); (try (obtain rfl := k45_openM hM23)); (try (have HP23 := Kd.R_seg HX23.out (x12_1 : Int) (of_decide_eq_true (by first | (with_reducible assumption) | assumption)) (by have h_ : (x12_1 : Int) < ((x9_1.length : Int) : Int) := of_decide_eq_true (by first | (with_reducible assumption) | assumption); first | exact h_ | (have e_ := (Kd.R_reads' HO_9.out).1; omega) | simpa using h_) (seg := [.int .i64 0, .int .i64 0, .int .i64 0]) (j := 0) hcl23 hcc23 (show 3 ≤ 3 from by decide) (x' := (⟨0, 0, 0⟩ : S45)) (k45_mkM _ _ _ (⟨0, 0, 0⟩ : S45) ) (fun _ hk => hk))); (try (have hx23_0 := hcc23 0 _ rfl)); (try (try simp only [show (k45).sz = 3 from rfl, Nat.mul_one, Nat.add_zero] at hx23_0)); (try (have hf23_0 := hfr23 0)); (try (try simp only [show (k45).sz = 3 from rfl, Nat.mul_one, Nat.add_zero] at hf23_0)); (try (have hx23_1 := hcc23 1 _ rfl)); (try (try simp only [show (k45).sz = 3 from rfl, Nat.mul_one, Nat.add_zero] at hx23_1)); (try (have hf23_1 := hfr23 1)); (try (try simp only [show (k45).sz = 3 from rfl, Nat.mul_one, Nat.add_zero] at hf23_1)); (try (have hx23_2 := hcc23 2 _ rfl)); (try (try simp only [show (k45).sz = 3 from rfl, Nat.mul_one, Nat.add_zero] at hx23_2)); (try (have hf23_2 := hfr23 2)); (try (try simp only [show (k45).sz = 3 from rfl, Nat.mul_one, Nat.add_zero] at hf23_2)); (try (clear hcl23 hcc23 hfr23 hM23)))); refine store_event (t := 45) (p := 44) (v := ?vo_w24) (w1 := (((wr.setCell ⟨go22, (x12_1 : Int).toNat * 3, none⟩ (.int .i64 0)).setCell ⟨go22, (x12_1 : Int).toNat * 3 + 1, none⟩ (.int .i64 0)).setCell ⟨go22, (x12_1 : Int).toNat * 3 + 2, none⟩ (.int .i64 0))) ?hg ?ho ?hn ?hr ?_; (case ho => rfl); (case hg => rfl); (case hn => rfl); (case hr => first | (go_simp; done) | (go_simp; rfl)); intro w24 hw; have hg : wr.grownBy w24 (some go22) := (by rw [hw]; exact HP23.2); have hp_ : Kd.R k45 45 w24 w.heap.size (fun k_ => some k_ ≠ (v578 : Value).ownBlock) (.slice (some ⟨go22, 0, none⟩) x9_1.length co19) y580 := (by rw [hw, Ny580.out]; exact HP23.1); clear HP23; replace HO_8 := ka (Kd.R_over' (v := (.slice (some ⟨go22, 0, none⟩) x9_1.length co19)) (kr HO_8.out) (Kd.R_typed HO_9.out) (by decide) hg); replace HO_9 := ka (hp_); replace HO_11 := ka (Kd.R_after (v := (.slice (some ⟨go22, 0, none⟩) x9_1.length co19)) (v1 := (.slice (some ⟨go22, 0, none⟩) x9_1.length co19)) (ok := (fun _ => True)) (kr (Kd.R_mono HO_11.out (fun _ hk => ⟨trivial, hk⟩))) hg (.inl rfl)); replace HB := ka ((by rw [hw]; exact below_set (below_set (below_set (HB.out) GB22.out) GB22.out) GB22.out : Below w.heap.size w w24)); clear hg hw hp_)))
        (try simp only [← hl9_1])
        go_roundg k1
        case measure => have := HK1.out; omega
        case rel => exact ⟨(y580), (wrap64 (x12_1 + 1)), (by first | rfl | (simp; done) | (simp [*]; done)), H', ⟨by have := HK1.out; omega⟩, ⟨by (try simp only [hl9_1]); (with_reducible repeat (first | apply Kd.R_alloc | apply Kd.R_drewN | apply Kd.R_drew)); exact HO_8.out⟩, ⟨by (try simp only [hl9_1]); (with_reducible repeat (first | apply Kd.R_alloc | apply Kd.R_drewN | apply Kd.R_drew)); exact HO_9.out⟩, ⟨by (try simp only [hl9_1]); (with_reducible repeat (first | apply Kd.R_alloc | apply Kd.R_drewN | apply Kd.R_drew)); exact Kd.R_mono HO_11.out (fun _ hk => hk.2)⟩, ⟨by repeat (first | (with_reducible first | exact HB.out | apply kc1 | apply kc2 | apply kc3) | exact HB.out)⟩⟩
       ·rw [if_neg c21] at H
        exact absurd H (by simp)
      ·rw [if_neg c20] at H
       have c20b0 : decide (x12_1 < (x9_1.length : Int)) = false := decide_eq_false c20
       clear c20
       replace H := Option.bind_eq_some_iff.mp H
       obtain ⟨⟨t581, t582⟩, A250, H⟩ := H
       replace H : (if t571.isNone = true then (if t582.isNone = true then (trivetlaw14_CalendarStays.j1 k1 l0 t563 y567 y577 t581 ((t581.length : Int) != (y577.length : Int))) else (trivetlaw14_CalendarStays.j1 k1 l0 t563 y567 y577 t581 true)) else (if t582.isNone = true then (trivetlaw14_CalendarStays.j1 k1 l0 t563 y567 y577 t581 true) else (trivetlaw14_CalendarStays.j1 k1 l0 t563 y567 y577 t581 ((t581.length : Int) != (y577.length : Int))))) = some r := H
       have A25 := ka A250
       clear A250
       have HC26 := ka H
       clear H
       go_upto_region 12 with (first | (go_at_call 17; (with_reducible refine (calendar_Outs.calls k1 _ _ y567 a1 a2 t581 t582 _ ?side1 ?side2 A25.out).mono ?_); (case side1 => repeat (first | exact (Kd.R_reads' HO_8.out).2.2 | (with_reducible refine Kd.C_alloc ?_ _) | (with_reducible refine Kd.C_drewN ?_ _) | (with_reducible refine Kd.C_drew ?_))); (case side2 => exact (Kd.R_reads' HO_8.out).2.1); rintro e w27 ⟨v583, rfl, ho0, hb⟩; replace HO_8 := ka (Kd.R_below (kr HO_8.out) hb); have HO584 := ka (Kd.R_lower (Kd.R_new' (Kd.R_new' ho0 (Kd.R_lt (kr HO_9.out))) (Kd.R_lt (kr HO_11.out))) (below_size (kw HB.out))); replace HO_9 := ka (Kd.R_elder' (kr HO_9.out) (Kd.R_base ho0) hb); replace HO_11 := ka (Kd.R_elder' (kr HO_11.out) (Kd.R_base ho0) hb); replace HB := ka (below_step (kw HB.out) hb); (try clear hb); (try clear hb2); (try clear hk); (try clear hi); (try clear ho0); (try simp only [errW_none, errW_some])))
       repeat (go_quiet (first | (go_at_call 17; (with_reducible refine (calendar_Outs.calls k1 _ _ y567 a1 a2 t581 t582 _ ?side1 ?side2 A25.out).mono ?_); (case side1 => repeat (first | exact (Kd.R_reads' HO_8.out).2.2 | (with_reducible refine Kd.C_alloc ?_ _) | (with_reducible refine Kd.C_drewN ?_ _) | (with_reducible refine Kd.C_drew ?_))); (case side2 => exact (Kd.R_reads' HO_8.out).2.1); rintro e w27 ⟨v583, rfl, ho0, hb⟩; replace HO_8 := ka (Kd.R_below (kr HO_8.out) hb); have HO584 := ka (Kd.R_lower (Kd.R_new' (Kd.R_new' ho0 (Kd.R_lt (kr HO_9.out))) (Kd.R_lt (kr HO_11.out))) (below_size (kw HB.out))); replace HO_9 := ka (Kd.R_elder' (kr HO_9.out) (Kd.R_base ho0) hb); replace HO_11 := ka (Kd.R_elder' (kr HO_11.out) (Kd.R_base ho0) hb); replace HB := ka (below_step (kw HB.out) hb); (try clear hb); (try clear hb2); (try clear hk); (try clear hi); (try clear ho0); (try simp only [errW_none, errW_some]))); go_upto_region 12 with (first | (go_at_call 17; (with_reducible refine (calendar_Outs.calls k1 _ _ y567 a1 a2 t581 t582 _ ?side1 ?side2 A25.out).mono ?_); (case side1 => repeat (first | exact (Kd.R_reads' HO_8.out).2.2 | (with_reducible refine Kd.C_alloc ?_ _) | (with_reducible refine Kd.C_drewN ?_ _) | (with_reducible refine Kd.C_drew ?_))); (case side2 => exact (Kd.R_reads' HO_8.out).2.1); rintro e w27 ⟨v583, rfl, ho0, hb⟩; replace HO_8 := ka (Kd.R_below (kr HO_8.out) hb); have HO584 := ka (Kd.R_lower (Kd.R_new' (Kd.R_new' ho0 (Kd.R_lt (kr HO_9.out))) (Kd.R_lt (kr HO_11.out))) (below_size (kw HB.out))); replace HO_9 := ka (Kd.R_elder' (kr HO_9.out) (Kd.R_base ho0) hb); replace HO_11 := ka (Kd.R_elder' (kr HO_11.out) (Kd.R_base ho0) hb); replace HB := ka (below_step (kw HB.out) hb); (try clear hb); (try clear hb2); (try clear hk); (try clear hi); (try clear ho0); (try simp only [errW_none, errW_some]))))
       (try simp only [Act.put, List.setIfInBounds_toArray, List.set_cons_zero, List.set_cons_succ])
       go_cut [63] (fun v63 wc => ∃ (kq : Nat) (x63_25 : Bool), v63 = .bool x63_25 ∧ Aside0 (trivetlaw14_CalendarStays.j1 kq l0 t563 y567 y577 t581 x63_25 = some r) ∧ Aside0 (kq ≤ k1) ∧ Aside0 (Kd.R k48 48 wc w.heap.size (fun _ => True) (.slice Ao14 y567.length co14) y567) ∧ Aside0 (Kd.R k45 45 wc w.heap.size (fun k_ => some k_ ≠ (v583 : Value).ownBlock) v578 y577) ∧ Aside0 (Kd.R k45 45 wc w.heap.size (fun k_ => some k_ ≠ (v578 : Value).ownBlock) v583 t581) ∧ Aside0 (Below w.heap.size w wc))
       case first =>
        have H := HC26.out
        clear HC26
        rcases t571 with _ | q585
        ·have H1 : (if t582.isNone = true then (trivetlaw14_CalendarStays.j1 k1 l0 t563 y567 y577 t581 ((t581.length : Int) != (y577.length : Int))) else (trivetlaw14_CalendarStays.j1 k1 l0 t563 y567 y577 t581 true)) = some r := by rw [if_pos (show (none : Option Int).isNone = true by rfl)] at H; exact H
         clear H
         have H := H1
         clear H1
         try simp only [errW_none, errW_some]
         rcases t582 with _ | q586
         ·have H1 : (trivetlaw14_CalendarStays.j1 k1 l0 t563 y567 y577 t581 ((t581.length : Int) != (y577.length : Int))) = some r := by rw [if_pos (show (none : Option Int).isNone = true by rfl)] at H; exact H
          clear H
          have H := H1
          clear H1
          try simp only [errW_none, errW_some]
          have H' := ka H
          clear H
          obtain ⟨Ao28, co28, eo28⟩ := Kd.R_slice HO584.out
          subst eo28
          obtain ⟨Ao29, co29, eo29⟩ := Kd.R_slice HO_11.out
          subst eo29
          go_wp2
          repeat (go_quiet (fail); try go_wp2)
          go_meet
          case rel => exact ⟨_, (((t581.length : Int) != (y577.length : Int))), (by first | rfl | (simp; done) | (simp [*]; done)), H', ⟨by have := HK1.out; first | omega | exact Nat.le_refl _⟩, ⟨by (try simp only [hl9_1]); (with_reducible repeat (first | apply Kd.R_alloc | apply Kd.R_drewN | apply Kd.R_drew)); exact HO_8.out⟩, ⟨by (try simp only [hl9_1]); (with_reducible repeat (first | apply Kd.R_alloc | apply Kd.R_drewN | apply Kd.R_drew)); exact Kd.R_mono HO_11.out (fun _ hk => hk.2)⟩, ⟨by (try simp only [hl9_1]); (with_reducible repeat (first | apply Kd.R_alloc | apply Kd.R_drewN | apply Kd.R_drew)); exact Kd.R_mono HO584.out (fun _ hk => hk.2)⟩, ⟨by repeat (first | (with_reducible first | exact HB.out | apply kc1 | apply kc2 | apply kc3) | exact HB.out)⟩⟩
         ·have H1 : (trivetlaw14_CalendarStays.j1 k1 l0 t563 y567 y577 t581 true) = some r := by rw [if_neg (show ¬ (some q586).isNone = true by simp)] at H; exact H
          clear H
          have H := H1
          clear H1
          try simp only [errW_none, errW_some]
          have H' := ka H
          clear H
          go_wp2
          repeat (go_quiet (fail); try go_wp2)
          go_meet
          case rel => exact ⟨_, (true), (by first | rfl | (simp; done) | (simp [*]; done)), H', ⟨by have := HK1.out; first | omega | exact Nat.le_refl _⟩, ⟨by (try simp only [hl9_1]); (with_reducible repeat (first | apply Kd.R_alloc | apply Kd.R_drewN | apply Kd.R_drew)); exact HO_8.out⟩, ⟨by (try simp only [hl9_1]); (with_reducible repeat (first | apply Kd.R_alloc | apply Kd.R_drewN | apply Kd.R_drew)); exact Kd.R_mono HO_11.out (fun _ hk => hk.2)⟩, ⟨by (try simp only [hl9_1]); (with_reducible repeat (first | apply Kd.R_alloc | apply Kd.R_drewN | apply Kd.R_drew)); exact Kd.R_mono HO584.out (fun _ hk => hk.2)⟩, ⟨by repeat (first | (with_reducible first | exact HB.out | apply kc1 | apply kc2 | apply kc3) | exact HB.out)⟩⟩
        ·have H1 : (if t582.isNone = true then (trivetlaw14_CalendarStays.j1 k1 l0 t563 y567 y577 t581 true) else (trivetlaw14_CalendarStays.j1 k1 l0 t563 y567 y577 t581 ((t581.length : Int) != (y577.length : Int)))) = some r := by rw [if_neg (show ¬ (some q585).isNone = true by simp)] at H; exact H
         clear H
         have H := H1
         clear H1
         try simp only [errW_none, errW_some]
         rcases t582 with _ | q587
         ·have H1 : (trivetlaw14_CalendarStays.j1 k1 l0 t563 y567 y577 t581 true) = some r := by rw [if_pos (show (none : Option Int).isNone = true by rfl)] at H; exact H
          clear H
          have H := H1
          clear H1
          try simp only [errW_none, errW_some]
          have H' := ka H
          clear H
          go_wp2
          repeat (go_quiet (fail); try go_wp2)
          go_meet
          case rel => exact ⟨_, (true), (by first | rfl | (simp; done) | (simp [*]; done)), H', ⟨by have := HK1.out; first | omega | exact Nat.le_refl _⟩, ⟨by (try simp only [hl9_1]); (with_reducible repeat (first | apply Kd.R_alloc | apply Kd.R_drewN | apply Kd.R_drew)); exact HO_8.out⟩, ⟨by (try simp only [hl9_1]); (with_reducible repeat (first | apply Kd.R_alloc | apply Kd.R_drewN | apply Kd.R_drew)); exact Kd.R_mono HO_11.out (fun _ hk => hk.2)⟩, ⟨by (try simp only [hl9_1]); (with_reducible repeat (first | apply Kd.R_alloc | apply Kd.R_drewN | apply Kd.R_drew)); exact Kd.R_mono HO584.out (fun _ hk => hk.2)⟩, ⟨by repeat (first | (with_reducible first | exact HB.out | apply kc1 | apply kc2 | apply kc3) | exact HB.out)⟩⟩
         ·have H1 : (trivetlaw14_CalendarStays.j1 k1 l0 t563 y567 y577 t581 ((t581.length : Int) != (y577.length : Int))) = some r := by rw [if_neg (show ¬ (some q587).isNone = true by simp)] at H; exact H
          clear H
          have H := H1
          clear H1
          try simp only [errW_none, errW_some]
          have H' := ka H
          clear H
          obtain ⟨Ao30, co30, eo30⟩ := Kd.R_slice HO584.out
          subst eo30
          obtain ⟨Ao31, co31, eo31⟩ := Kd.R_slice HO_11.out
          subst eo31
          go_wp2
          repeat (go_quiet (fail); try go_wp2)
          go_meet
          case rel => exact ⟨_, (((t581.length : Int) != (y577.length : Int))), (by first | rfl | (simp; done) | (simp [*]; done)), H', ⟨by have := HK1.out; first | omega | exact Nat.le_refl _⟩, ⟨by (try simp only [hl9_1]); (with_reducible repeat (first | apply Kd.R_alloc | apply Kd.R_drewN | apply Kd.R_drew)); exact HO_8.out⟩, ⟨by (try simp only [hl9_1]); (with_reducible repeat (first | apply Kd.R_alloc | apply Kd.R_drewN | apply Kd.R_drew)); exact Kd.R_mono HO_11.out (fun _ hk => hk.2)⟩, ⟨by (try simp only [hl9_1]); (with_reducible repeat (first | apply Kd.R_alloc | apply Kd.R_drewN | apply Kd.R_drew)); exact Kd.R_mono HO584.out (fun _ hk => hk.2)⟩, ⟨by repeat (first | (with_reducible first | exact HB.out | apply kc1 | apply kc2 | apply kc3) | exact HB.out)⟩⟩
       case rest =>
        clear HC26
        try clear c2
        try clear p2
        try clear q2
        try clear hx2
        try clear c5
        try clear c5b0
        try clear c5b1
        try clear q5
        try clear c6
        try clear p6
        try clear c7
        try clear c9
        try clear c20
        try clear c20b0
        try clear c21
        try clear c21b0
        try clear c22
        try clear p22
        try clear q22
        try clear hx22
        try clear hf22
        try clear c23
        try clear hx23
        try clear hf23
        try clear hx22_0
        try clear hx22_1
        try clear hx22_2
        try clear hx23_0
        try clear hx23_1
        try clear hx23_2
        try clear p2
        try clear p22
        try clear q22
        try clear q585
        try clear q586
        try clear q587
        obtain ⟨kq, x63_25, rfl, HA, HJ25, HO_8, HO_11, HO_13, HB⟩ := hcut
        cases kq with
        | zero => exact absurd HA.out (by simp [trivetlaw14_CalendarStays.j1])
        | succ kj25 =>
         have H := HA.out
         clear HA
         simp only [trivetlaw14_CalendarStays.j1] at H
         by_cases c32 : x63_25 = true
         ·subst c32
          have H1 : (none) = some r := by rw [if_pos rfl] at H; exact H
          clear H
          have H := H1
          clear H1
          exact absurd H (by simp)
         ·replace c32 := Bool.eq_false_iff.mpr c32
          subst c32
          have H1 : (trivetlaw14_CalendarStays.l1 kj25 l0 t563 y567 y577 t581 0) = some r := by rw [if_neg (show ¬ (false = true) by decide)] at H; exact H
          clear H
          have H := H1
          clear H1
          have H' := ka H
          clear H
          go_wp2
          repeat (go_quiet (fail); try go_wp2)
          (try simp only [Act.put, List.setIfInBounds_toArray, List.set_cons_zero, List.set_cons_succ])
          go_loopg [15] kj25 (fun kq v15 w' => ∃ (x15_3 : Int), v15 = .int .i64 x15_3 ∧ Aside0 (trivetlaw14_CalendarStays.l1 kq l0 t563 y567 y577 t581 x15_3 = some r) ∧ Aside0 (kq ≤ kj25) ∧ Aside0 (Kd.R k48 48 w' w.heap.size (fun _ => True) (.slice Ao14 y567.length co14) y567) ∧ Aside0 (Kd.R k45 45 w' w.heap.size (fun k_ => some k_ ≠ (v583 : Value).ownBlock) v578 y577) ∧ Aside0 (Kd.R k45 45 w' w.heap.size (fun k_ => some k_ ≠ (v578 : Value).ownBlock) v583 t581) ∧ Aside0 (Below w.heap.size w w'))
          case atStart => exact ⟨(0), (by first | rfl | (simp; done) | (simp [*]; done)), H', ⟨Nat.le_refl _⟩, ⟨by (try simp only [hl9_1]); (with_reducible repeat (first | apply Kd.R_alloc | apply Kd.R_drewN | apply Kd.R_drew)); exact HO_8.out⟩, ⟨by (try simp only [hl9_1]); (with_reducible repeat (first | apply Kd.R_alloc | apply Kd.R_drewN | apply Kd.R_drew)); exact HO_11.out⟩, ⟨by (try simp only [hl9_1]); (with_reducible repeat (first | apply Kd.R_alloc | apply Kd.R_drewN | apply Kd.R_drew)); exact HO_13.out⟩, ⟨by repeat (first | (with_reducible first | exact HB.out | apply kc1 | apply kc2 | apply kc3) | exact HB.out)⟩⟩
          case round =>
           clear H'
           try clear c2
           try clear p2
           try clear q2
           try clear hx2
           try clear c3
           try clear c5
           try clear c5b0
           try clear c5b1
           try clear q5
           try clear c6
           try clear p6
           try clear c7
           try clear c9
           try clear c20
           try clear c20b0
           try clear c21
           try clear c21b0
           try clear c22
           try clear p22
           try clear q22
           try clear hx22
           try clear hf22
           try clear c23
           try clear hx23
           try clear hf23
           try clear c32
           try clear hx22_0
           try clear hx22_1
           try clear hx22_2
           try clear hx23_0
           try clear hx23_1
           try clear hx23_2
           try clear p2
           try clear p22
           try clear p6
           try clear q2
           try clear q22
           try clear q5
           try clear q585
           try clear q586
           try clear q587
           obtain ⟨x15_3, rfl, HA, HK3, HO_8, HO_11, HO_13, HB⟩ := hrel
           cases gk with
           | zero => exact absurd HA.out (by simp [trivetlaw14_CalendarStays.l1])
           | succ k3 =>
            have H := HA.out
            clear HA
            simp only [trivetlaw14_CalendarStays.l1] at H
            by_cases c33 : x15_3 < (t581.length : Int)
            ·rw [if_pos c33] at H
             have c33b0 : decide (x15_3 < (t581.length : Int)) = true := decide_eq_true c33
             clear c33
             by_cases c34 : 0 ≤ x15_3
             ·rw [if_pos c34] at H
              have c34b0 : decide (0 ≤ x15_3) = true := decide_eq_true c34
              clear c34
              by_cases c35 : x15_3 < (y577.length : Int)
              ·rw [if_pos c35] at H
               have c35b0 : decide (x15_3 < (y577.length : Int)) = true := decide_eq_true c35
               clear c35
               by_cases c36 : (!(((rd_T45 t581 x15_3).f0) == ((rd_T45 y577 x15_3).f0)) || (!(((rd_T45 t581 x15_3).f1) == ((rd_T45 y577 x15_3).f1)) || (!(((rd_T45 t581 x15_3).f2) == ((rd_T45 y577 x15_3).f2))))) = true
               ·rw [if_pos c36] at H
                exact absurd H (by simp)
               ·rw [if_neg c36] at H
                have c36b0 : (!(((rd_T45 t581 x15_3).f0) == ((rd_T45 y577 x15_3).f0)) || (!(((rd_T45 t581 x15_3).f1) == ((rd_T45 y577 x15_3).f1)) || (!(((rd_T45 t581 x15_3).f2) == ((rd_T45 y577 x15_3).f2))))) = false := by simpa using c36
                clear c36
                have H' := ka H
                clear H
                obtain ⟨Ao37, co37, eo37⟩ := Kd.R_slice HO_13.out
                subst eo37
                have p588 : 0 ≤ (x15_3 : Int) := of_decide_eq_true (by first | (with_reducible assumption) | assumption)
                have q588 : x15_3 < (t581.length : Int) := of_decide_eq_true (by first | (with_reducible assumption) | assumption)
                obtain ⟨ad588, e588, hx588_0, hx588_1, hx588_2⟩ := at_T45 (Kd.R_reads' HO_13.out).2.2 x15_3 p588 q588
                cases e588
                replace p588 := eq_true p588
                replace q588 := eq_true q588
                obtain ⟨Ao38, co38, eo38⟩ := Kd.R_slice HO_11.out
                subst eo38
                have p589 : 0 ≤ (x15_3 : Int) := of_decide_eq_true (by first | (with_reducible assumption) | assumption)
                have q589 : x15_3 < (y577.length : Int) := of_decide_eq_true (by first | (with_reducible assumption) | assumption)
                obtain ⟨ad589, e589, hx589_0, hx589_1, hx589_2⟩ := at_T45 (Kd.R_reads' HO_11.out).2.2 x15_3 p589 q589
                cases e589
                replace p589 := eq_true p589
                replace q589 := eq_true q589
                go_wp2
                repeat (go_quiet (fail); try go_wp2)
                go_roundg k3
                case measure => have := HK1.out; have := HJ25.out; have := HK3.out; omega
                case rel => exact ⟨(wrap64 (x15_3 + 1)), (by first | rfl | (simp; done) | (simp [*]; done)), H', ⟨by have := HK1.out; have := HJ25.out; have := HK3.out; omega⟩, ⟨by (try simp only [hl9_1]); (with_reducible repeat (first | apply Kd.R_alloc | apply Kd.R_drewN | apply Kd.R_drew)); exact HO_8.out⟩, ⟨by (try simp only [hl9_1]); (with_reducible repeat (first | apply Kd.R_alloc | apply Kd.R_drewN | apply Kd.R_drew)); exact HO_11.out⟩, ⟨by (try simp only [hl9_1]); (with_reducible repeat (first | apply Kd.R_alloc | apply Kd.R_drewN | apply Kd.R_drew)); exact HO_13.out⟩, ⟨by repeat (first | (with_reducible first | exact HB.out | apply kc1 | apply kc2 | apply kc3) | exact HB.out)⟩⟩
              ·rw [if_neg c35] at H
               exact absurd H (by simp)
             ·rw [if_neg c34] at H
              exact absurd H (by simp)
            ·rw [if_neg c33] at H
             have c33b0 : decide (x15_3 < (t581.length : Int)) = false := decide_eq_false c33
             clear c33
             have H' := ka H
             clear H
             obtain ⟨Ao39, co39, eo39⟩ := Kd.R_slice HO_13.out
             subst eo39
             go_wp2
             repeat (go_quiet (fail); try go_wp2)
             (try simp only [Act.put, List.setIfInBounds_toArray, List.set_cons_zero, List.set_cons_succ])
             go_loopg [16] k3 (fun kq v16 w' => ∃ (x16_4 : Int), v16 = .int .i64 x16_4 ∧ Aside0 (trivetlaw14_CalendarStays.l2 kq l0 t563 y567 x16_4 = some r) ∧ Aside0 (kq ≤ k3) ∧ Aside0 (Kd.R k48 48 w' w.heap.size (fun _ => True) (.slice Ao14 y567.length co14) y567) ∧ Aside0 (Below w.heap.size w w'))
             case atStart => exact ⟨(0), (by first | rfl | (simp; done) | (simp [*]; done)), H', ⟨Nat.le_refl _⟩, ⟨by (try simp only [hl9_1]); (with_reducible repeat (first | apply Kd.R_alloc | apply Kd.R_drewN | apply Kd.R_drew)); exact HO_8.out⟩, ⟨by repeat (first | (with_reducible first | exact HB.out | apply kc1 | apply kc2 | apply kc3) | exact HB.out)⟩⟩
             case round =>
              clear H'
              try clear c2
              try clear p2
              try clear q2
              try clear hx2
              try clear c3
              try clear c5
              try clear c5b0
              try clear c5b1
              try clear p5
              try clear q5
              try clear hx5
              try clear c6
              try clear p6
              try clear c7
              try clear c9
              try clear c20
              try clear c20b0
              try clear c21
              try clear c21b0
              try clear c22
              try clear p22
              try clear q22
              try clear hx22
              try clear hf22
              try clear c23
              try clear hx23
              try clear hf23
              try clear c32
              try clear c33
              try clear c33b0
              try clear c34
              try clear c34b0
              try clear c35
              try clear c35b0
              try clear c36
              try clear c36b0
              try clear hx22_0
              try clear hx22_1
              try clear hx22_2
              try clear hx23_0
              try clear hx23_1
              try clear hx23_2
              try clear hx588_0
              try clear hx588_1
              try clear hx588_2
              try clear hx589_0
              try clear hx589_1
              try clear hx589_2
              try clear p2
              try clear p22
              try clear p588
              try clear p589
              try clear p6
              try clear q2
              try clear q22
              try clear q5
              try clear q585
              try clear q586
              try clear q587
              try clear q588
              try clear q589
              obtain ⟨x16_4, rfl, HA, HK4, HO_8, HB⟩ := hrel
              cases gk with
              | zero => exact absurd HA.out (by simp [trivetlaw14_CalendarStays.l2])
              | succ k4 =>
               have H := HA.out
               clear HA
               simp only [trivetlaw14_CalendarStays.l2] at H
               by_cases c40 : x16_4 < (l0.length : Int)
               ·rw [if_pos c40] at H
                have c40b0 : decide (x16_4 < (l0.length : Int)) = true := decide_eq_true c40
                clear c40
                by_cases c41 : 0 ≤ x16_4
                ·rw [if_pos c41] at H
                 have c41b0 : decide (0 ≤ x16_4) = true := decide_eq_true c41
                 clear c41
                 by_cases c42 : x16_4 < (y567.length : Int)
                 ·rw [if_pos c42] at H
                  have c42b0 : decide (x16_4 < (y567.length : Int)) = true := decide_eq_true c42
                  clear c42
                  by_cases c43 : (!(((rd_T48 y567 x16_4).f0) == ((rd_T48 l0 x16_4).f0)) || (!(((rd_T48 y567 x16_4).f1) == ((rd_T48 l0 x16_4).f1)) || (!(((rd_T48 y567 x16_4).f2) == ((rd_T48 l0 x16_4).f2))))) = true
                  ·rw [if_pos c43] at H
                   exact absurd H (by simp)
                  ·rw [if_neg c43] at H
                   have c43b0 : (!(((rd_T48 y567 x16_4).f0) == ((rd_T48 l0 x16_4).f0)) || (!(((rd_T48 y567 x16_4).f1) == ((rd_T48 l0 x16_4).f1)) || (!(((rd_T48 y567 x16_4).f2) == ((rd_T48 l0 x16_4).f2))))) = false := by simpa using c43
                   clear c43
                   have H' := ka H
                   clear H
                   have p590 : 0 ≤ (x16_4 : Int) := of_decide_eq_true (by first | (with_reducible assumption) | assumption)
                   have q590 : x16_4 < (y567.length : Int) := of_decide_eq_true (by first | (with_reducible assumption) | assumption)
                   obtain ⟨ad590, e590, hx590_0, hx590_1, hx590_2⟩ := at_T48 (Kd.R_reads' HO_8.out).2.2 x16_4 p590 q590
                   cases e590
                   replace p590 := eq_true p590
                   replace q590 := eq_true q590
                   have p591 : 0 ≤ (x16_4 : Int) := of_decide_eq_true (by first | (with_reducible assumption) | assumption)
                   have q591 : x16_4 < (l0.length : Int) := of_decide_eq_true (by first | (with_reducible assumption) | assumption)
                   obtain ⟨ad591, e591, hx591_0, hx591_1, hx591_2⟩ := at_T48 HR0.out x16_4 p591 q591
                   cases e591
                   replace hx591_0 := (HB.out.cell (World.block_lt_of_cell? w _ hx591_0)).trans hx591_0
                   replace hx591_1 := (HB.out.cell (World.block_lt_of_cell? w _ hx591_1)).trans hx591_1
                   replace hx591_2 := (HB.out.cell (World.block_lt_of_cell? w _ hx591_2)).trans hx591_2
                   replace p591 := eq_true p591
                   replace q591 := eq_true q591
                   go_wp2
                   repeat (go_quiet (fail); try go_wp2)
                   go_roundg k4
                   case measure => have := HK1.out; have := HJ25.out; have := HK3.out; have := HK4.out; omega
                   case rel => exact ⟨(wrap64 (x16_4 + 1)), (by first | rfl | (simp; done) | (simp [*]; done)), H', ⟨by have := HK1.out; have := HJ25.out; have := HK3.out; have := HK4.out; omega⟩, ⟨by (try simp only [hl9_1]); (with_reducible repeat (first | apply Kd.R_alloc | apply Kd.R_drewN | apply Kd.R_drew)); exact HO_8.out⟩, ⟨by repeat (first | (with_reducible first | exact HB.out | apply kc1 | apply kc2 | apply kc3) | exact HB.out)⟩⟩
                 ·rw [if_neg c42] at H
                  exact absurd H (by simp)
                ·rw [if_neg c41] at H
                 exact absurd H (by simp)
               ·rw [if_neg c40] at H
                have c40b0 : decide (x16_4 < (l0.length : Int)) = false := decide_eq_false c40
                clear c40
                obtain rfl := Option.some.inj H
                go_wp2
                repeat (go_quiet (fail); try go_wp2)
                go_ret
                exact ⟨by first | rfl | (simp [errW_none, errW_some] <;> rfl) | (simp [*, errW_none, errW_some] <;> rfl), by repeat (first | (with_reducible first | exact HB.out | apply kc1 | apply kc2 | apply kc3) | exact HB.out)⟩
   ·rw [if_neg c9] at H
    exact absurd H (by simp)
  ·rw [if_neg c7] at H
   exact absurd H (by simp)

/-- THE ONE PURE STATEMENT of trivetlaw14_CalendarStays: yours. -/
def trivetlaw14_CalendarStays.Pure : Prop := ∀ (l0 : List (S48)) (a1 : Int) (a2 : Int), l0.length ≤ maxLen → l0.length * 24 ≤ 140737488351232 → (∀ x ∈ l0, (Lit.int .i64 x.f0).wf = true ∧ (Lit.int .i64 x.f1).wf = true ∧ (Lit.int .i64 x.f2).wf = true) → (Lit.int .i64 a1).wf = true → (Lit.int .i64 a2).wf = true → ∃ k, trivetlaw14_CalendarStays.f k l0 a1 a2 = some true
theorem trivetlaw14_CalendarStays.walk (P : trivetlaw14_CalendarStays.Pure) (a0 : Option Addr) (len0 cap0 : Nat) (l0 : List (S48)) (a1 : Int) (a2 : Int) (w : World) (w0 : Kd.C k48 w a0 len0 l0 ∧ len0 ≤ cap0 ∧ len0 ≤ maxLen ∧ (∀ x ∈ l0, (Lit.int .i64 x.f0).wf = true ∧ (Lit.int .i64 x.f1).wf = true ∧ (Lit.int .i64 x.f2).wf = true)) (y0 : len0 * 24 ≤ 140737488351232) (w1 : (Lit.int .i64 a1).wf = true) (w2 : (Lit.int .i64 a2).wf = true) :
  Calls Try.prog 6 #[.slice a0 len0 cap0, .int .i64 a1, .int .i64 a2] w fun e w' => e = .returned (.bool true) ∧ Below w.heap.size w w' := by
 obtain ⟨hr0, hc0, hm0, hw0⟩ := w0
 obtain rfl := Kd.C_len hr0
 obtain ⟨k, h⟩ := P l0 a1 a2 hm0 y0 hw0 w1 w2
 refine (trivetlaw14_CalendarStays.calls k _ _ l0 a1 a2 true w hr0 hc0 h).mono ?_
 rintro e w' ⟨rfl, hd⟩
 exact ⟨rfl, hd⟩

end Go.Proofs.Ytmkfbaoglmmhjaa.P
