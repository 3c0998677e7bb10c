-- Written by a program of this session out of the translation of the seat: Lean functions and the proofs that the Go functions come to them.
import Derived.Test.YtmkfbaoglmmhjaaPx0
import Derived.Test.YtmkfbaoglmmhjaaPx2
import Derived.Test.YtmkfbaoglmmhjaaPx3
import Derived.Test.YtmkfbaoglmmhjaaPx4
import Derived.Test.YtmkfbaoglmmhjaaPx5
import Derived.Test.YtmkfbaoglmmhjaaPx6
namespace Go.Proofs.Ytmkfbaoglmmhjaa.P
open Go.RowKit Go.Proofs.YtmkfbaoglmmhjaaW.PrintWords Go.Proofs.YtmkfbaoglmmhjaaW.PrintLast Go.Proofs.YtmkfbaoglmmhjaaW.PrintMore
attribute [local go_sem] max2_int min2_int max_two min_two max_three min_three max_four min_four   -- for this text's walks alone
set_option linter.unusedVariables false
set_option linter.unusedSimpArgs false

/-! ### trivetlaw14_CalendarMonths: function 3 -/
mutual
def trivetlaw14_CalendarMonths.j0 : Nat → List (S48) → Int → Bool → List Int → Option Int → Bool → Bool → Int → Int → Int → Option (Bool)
 | 0, _, _, _, _, _, _, _, _, _, _ => none
 | k + 1, x0, x1, x5, x6, x7, x10, x11, x483000, x483001, x483002 => if x10 = true then (if x11 = true then (trivetlaw14_CalendarMonths.j1 k x0 x1 x5 x6 x7 (x483002 != 1)) else (trivetlaw14_CalendarMonths.j1 k x0 x1 x5 x6 x7 true)) else (trivetlaw14_CalendarMonths.j1 k x0 x1 x5 x6 x7 true)
def trivetlaw14_CalendarMonths.j1 : Nat → List (S48) → Int → Bool → List Int → Option Int → Bool → Option (Bool)
 | 0, _, _, _, _, _, _ => none
 | k + 1, x0, x1, x5, x6, x7, x46 => if x46 = true then (if x5 = true then (if x7.isNone = true then (none) else (if (x7.getD 0) = 1 then (some ((x6.length : Int) == 0)) else (none))) else (none)) else (if x5 = true then (if x7.isNone = true then ((trivetref14_Months.f k x0 x1).bind fun t490 => ((trivetlaw14_Same.f k x6 t490).bind fun t493 => (some t493))) else (none)) else (none))
end
def trivetlaw14_CalendarMonths.f (k : Nat) (l0 : List (S48)) (a1 : Int) : Option (Bool) := (trivetlaw14_up.f k).bind fun t473 => (if (l0.length : Int) > 100 then (some t473) else ((calendar_Months.f k l0 a1).bind fun bt474 => ((trivetref04_Of_s.f a1).bind fun bt478 => ((trivetref14_May.f k l0).bind fun t483 => (if bt478.2.2.2 = true then ((trivetref04_Months_s.f bt478.1 bt478.2.1 bt478.2.2.1 12).bind fun bt484 => (trivetlaw14_CalendarMonths.j0 k l0 a1 t473 bt474.1 bt474.2 t483 bt484.2.2.2 bt478.1 bt478.2.1 bt478.2.2.1)) else (trivetlaw14_CalendarMonths.j0 k l0 a1 t473 bt474.1 bt474.2 t483 false bt478.1 bt478.2.1 bt478.2.2.1))))))
theorem trivetlaw14_CalendarMonths.mono_l : ∀ k, (∀ y0 y1 y2 y3 y4 y5 y6 y7 y8 y9, LeO (trivetlaw14_CalendarMonths.j0 k y0 y1 y2 y3 y4 y5 y6 y7 y8 y9) (trivetlaw14_CalendarMonths.j0 (k + 1) y0 y1 y2 y3 y4 y5 y6 y7 y8 y9)) ∧ (∀ y0 y1 y2 y3 y4 y5, LeO (trivetlaw14_CalendarMonths.j1 k y0 y1 y2 y3 y4 y5) (trivetlaw14_CalendarMonths.j1 (k + 1) y0 y1 y2 y3 y4 y5))
 | 0 => ⟨fun _ _ _ _ _ _ _ _ _ _ r h => by simp [trivetlaw14_CalendarMonths.j0] at h, fun _ _ _ _ _ _ r h => by simp [trivetlaw14_CalendarMonths.j1] at h⟩
 | k + 1 => by
  obtain ⟨ih0, ih1⟩ := trivetlaw14_CalendarMonths.mono_l k
  refine ⟨?_, ?_⟩
  ·intro y0 y1 y2 y3 y4 y5 y6 y7 y8 y9
   unfold trivetlaw14_CalendarMonths.j0
   repeat' first
   | (with_reducible exact ih0 _ _ _ _ _ _ _ _ _ _)
   | (with_reducible exact ih1 _ _ _ _ _ _)
   | (with_reducible exact calendar_Months.mono _ _ _)
   | (with_reducible exact trivetlaw14_Same.mono _ _ _)
   | (with_reducible exact trivetlaw14_up.mono _)
   | (with_reducible exact trivetref14_May.mono _ _)
   | (with_reducible exact trivetref14_Months.mono _ _ _)
   | (with_reducible exact LeO.refl _)
   | (with_reducible exact LeO.none _)
   | (with_reducible refine LeO.ite ?_ ?_)
   | (with_reducible refine LeO.bind ?_ (fun _ => ?_))
   | exact ih0 _ _ _ _ _ _ _ _ _ _
   | exact ih1 _ _ _ _ _ _
   | exact calendar_Months.mono _ _ _
   | exact trivetlaw14_Same.mono _ _ _
   | exact trivetlaw14_up.mono _
   | exact trivetref14_May.mono _ _
   | exact trivetref14_Months.mono _ _ _
   | exact LeO.none _
   | refine LeO.ite ?_ ?_
   | refine LeO.bind ?_ (fun _ => ?_)
  ·intro y0 y1 y2 y3 y4 y5
   unfold trivetlaw14_CalendarMonths.j1
   repeat' first
   | (with_reducible exact ih0 _ _ _ _ _ _ _ _ _ _)
   | (with_reducible exact ih1 _ _ _ _ _ _)
   | (with_reducible exact calendar_Months.mono _ _ _)
   | (with_reducible exact trivetlaw14_Same.mono _ _ _)
   | (with_reducible exact trivetlaw14_up.mono _)
   | (with_reducible exact trivetref14_May.mono _ _)
   | (with_reducible exact trivetref14_Months.mono _ _ _)
   | (with_reducible exact LeO.refl _)
   | (with_reducible exact LeO.none _)
   | (with_reducible refine LeO.ite ?_ ?_)
   | (with_reducible refine LeO.bind ?_ (fun _ => ?_))
   | exact ih0 _ _ _ _ _ _ _ _ _ _
   | exact ih1 _ _ _ _ _ _
   | exact calendar_Months.mono _ _ _
   | exact trivetlaw14_Same.mono _ _ _
   | exact trivetlaw14_up.mono _
   | exact trivetref14_May.mono _ _
   | exact trivetref14_Months.mono _ _ _
   | exact LeO.none _
   | refine LeO.ite ?_ ?_
   | refine LeO.bind ?_ (fun _ => ?_)
theorem trivetlaw14_CalendarMonths.mono : ∀ a0 a1 k, LeO (trivetlaw14_CalendarMonths.f k a0 a1) (trivetlaw14_CalendarMonths.f (k + 1) a0 a1) := by
 intro a0 a1 k
 obtain ⟨ih0, ih1⟩ := trivetlaw14_CalendarMonths.mono_l k
 unfold trivetlaw14_CalendarMonths.f
 repeat' first
   | (with_reducible exact ih0 _ _ _ _ _ _ _ _ _ _)
   | (with_reducible exact ih1 _ _ _ _ _ _)
   | (with_reducible exact calendar_Months.mono _ _ _)
   | (with_reducible exact trivetlaw14_Same.mono _ _ _)
   | (with_reducible exact trivetlaw14_up.mono _)
   | (with_reducible exact trivetref14_May.mono _ _)
   | (with_reducible exact trivetref14_Months.mono _ _ _)
   | (with_reducible exact LeO.refl _)
   | (with_reducible exact LeO.none _)
   | (with_reducible refine LeO.ite ?_ ?_)
   | (with_reducible refine LeO.bind ?_ (fun _ => ?_))
   | exact ih0 _ _ _ _ _ _ _ _ _ _
   | exact ih1 _ _ _ _ _ _
   | exact calendar_Months.mono _ _ _
   | exact trivetlaw14_Same.mono _ _ _
   | exact trivetlaw14_up.mono _
   | exact trivetref14_May.mono _ _
   | exact trivetref14_Months.mono _ _ _
   | exact LeO.none _
   | refine LeO.ite ?_ ?_
   | refine LeO.bind ?_ (fun _ => ?_)
set_option maxHeartbeats 8000000 in
set_option maxRecDepth 100000 in
theorem trivetlaw14_CalendarMonths.calls (k : Nat) (A0 : Option Addr) (c0 : Nat) (l0 : List (S48)) (a1 : Int) (r : Bool) (w : World) (hr0 : Kd.C k48 w A0 l0.length l0) (hc0 : l0.length ≤ c0) (h : trivetlaw14_CalendarMonths.f k l0 a1 = some r) :
  Calls Try.prog 3 #[.slice A0 l0.length c0, .int .i64 a1] w fun e w' => e = .returned (.bool r) ∧ Below w.heap.size w w' := by
 have hu30 := Try.underlying30
 have hu26 := Try.underlying26
 have hu35 := Try.underlying35
 have HR0 := ka hr0
 have HC0 := ka hc0
 clear hr0 hc0
 have HB := ka (Below.refl w.heap.size w)
 have H : ((trivetlaw14_up.f k).bind fun t473 => (if (l0.length : Int) > 100 then (some t473) else ((calendar_Months.f k l0 a1).bind fun bt474 => ((trivetref04_Of_s.f a1).bind fun bt478 => ((trivetref14_May.f k l0).bind fun t483 => (if bt478.2.2.2 = true then ((trivetref04_Months_s.f bt478.1 bt478.2.1 bt478.2.2.1 12).bind fun bt484 => (trivetlaw14_CalendarMonths.j0 k l0 a1 t473 bt474.1 bt474.2 t483 bt484.2.2.2 bt478.1 bt478.2.1 bt478.2.2.1)) else (trivetlaw14_CalendarMonths.j0 k l0 a1 t473 bt474.1 bt474.2 t483 false bt478.1 bt478.2.1 bt478.2.2.1))))))) = some r := h
 clear h
 replace H := Option.bind_eq_some_iff.mp H
 obtain ⟨t473, A30, H⟩ := H
 replace H : (if (l0.length : Int) > 100 then (some t473) else ((calendar_Months.f k l0 a1).bind fun bt474 => ((trivetref04_Of_s.f a1).bind fun bt478 => ((trivetref14_May.f k l0).bind fun t483 => (if bt478.2.2.2 = true then ((trivetref04_Months_s.f bt478.1 bt478.2.1 bt478.2.2.1 12).bind fun bt484 => (trivetlaw14_CalendarMonths.j0 k l0 a1 t473 bt474.1 bt474.2 t483 bt484.2.2.2 bt478.1 bt478.2.1 bt478.2.2.1)) else (trivetlaw14_CalendarMonths.j0 k l0 a1 t473 bt474.1 bt474.2 t483 false bt478.1 bt478.2.1 bt478.2.2.1)))))) = some r := H
 have A3 := ka A30
 clear A30
 by_cases c4 : (l0.length : Int) > 100
 ·rw [if_pos c4] at H
  have c4b0 : decide (100 < (l0.length : Int)) = true := decide_eq_true c4
  have c4b1 : decide (100 < l0.length) = true := decide_eq_true (by omega)
  clear c4
  obtain rfl := Option.some.inj H
  go_enter Try.func3, Try.ntmps3
  go_wp2_with (first | ((with_reducible refine gate_callee (f := 9) rfl ?_); refine kg (some 12) rfl rfl Try.func9 (by kernel_rfl) rfl #[] rfl ?_; (with_reducible refine (trivetlaw14_up.calls k  t473 _ A3.out).mono ?_); rintro e w5 ⟨rfl, hb⟩; refine ⟨_, rfl, ?_⟩; replace HB := ka (below_step (kw HB.out) hb); (try clear hb); (try clear hb2); (try clear hk); (try clear hi)))
  go_ret
  exact ⟨by first | rfl | (simp [errW_none, errW_some] <;> rfl) | (simp [*, errW_none, errW_some] <;> rfl), by repeat (first | (with_reducible first | exact HB.out | apply kc1 | apply kc2 | apply kc3) | exact HB.out)⟩
 ·rw [if_neg c4] at H
  have c4b0 : decide (100 < (l0.length : Int)) = false := decide_eq_false c4
  have c4b1 : decide (100 < l0.length) = false := decide_eq_false (by omega)
  clear c4
  replace H := Option.bind_eq_some_iff.mp H
  obtain ⟨⟨t474, t475⟩, A60, H⟩ := H
  replace H : ((trivetref04_Of_s.f a1).bind fun bt478 => ((trivetref14_May.f k l0).bind fun t483 => (if bt478.2.2.2 = true then ((trivetref04_Months_s.f bt478.1 bt478.2.1 bt478.2.2.1 12).bind fun bt484 => (trivetlaw14_CalendarMonths.j0 k l0 a1 t473 t474 t475 t483 bt484.2.2.2 bt478.1 bt478.2.1 bt478.2.2.1)) else (trivetlaw14_CalendarMonths.j0 k l0 a1 t473 t474 t475 t483 false bt478.1 bt478.2.1 bt478.2.2.1)))) = some r := H
  have A6 := ka A60
  clear A60
  replace H := Option.bind_eq_some_iff.mp H
  obtain ⟨⟨t478, t479, t480, t481⟩, A70, H⟩ := H
  replace H : ((trivetref14_May.f k l0).bind fun t483 => (if t481 = true then ((trivetref04_Months_s.f t478 t479 t480 12).bind fun bt484 => (trivetlaw14_CalendarMonths.j0 k l0 a1 t473 t474 t475 t483 bt484.2.2.2 t478 t479 t480)) else (trivetlaw14_CalendarMonths.j0 k l0 a1 t473 t474 t475 t483 false t478 t479 t480))) = some r := H
  have A7 := ka A70
  clear A70
  replace H := Option.bind_eq_some_iff.mp H
  obtain ⟨t483, A80, H⟩ := H
  replace H : (if t481 = true then ((trivetref04_Months_s.f t478 t479 t480 12).bind fun bt484 => (trivetlaw14_CalendarMonths.j0 k l0 a1 t473 t474 t475 t483 bt484.2.2.2 t478 t479 t480)) else (trivetlaw14_CalendarMonths.j0 k l0 a1 t473 t474 t475 t483 false t478 t479 t480)) = some r := H
  have A8 := ka A80
  clear A80
  have HC9 := ka H
  clear H
  go_enter Try.func3, Try.ntmps3
  go_upto_if 30 with (first | ((with_reducible refine gate_callee (f := 9) rfl ?_); refine kg (some 12) rfl rfl Try.func9 (by kernel_rfl) rfl #[] rfl ?_; (with_reducible refine (trivetlaw14_up.calls k  t473 _ A3.out).mono ?_); rintro e w10 ⟨rfl, hb⟩; refine ⟨_, rfl, ?_⟩; replace HB := ka (below_step (kw HB.out) hb); (try clear hb); (try clear hb2); (try clear hk); (try clear hi)) | ((with_reducible refine gate_callee (f := 10) rfl ?_); refine kg (some 20) rfl rfl Try.func10 (by kernel_rfl) rfl #[.slice A0 l0.length c0, .int .i64 a1] rfl ?_; (with_reducible refine (calendar_Months.calls k _ _ l0 a1 t474 t475 _ ?side1 ?side2 A6.out).mono ?_); (case side1 => repeat (first | exact (Kd.C_below HR0.out HB.out) | (with_reducible refine Kd.C_alloc ?_ _) | (with_reducible refine Kd.C_drewN ?_ _) | (with_reducible refine Kd.C_drew ?_))); (case side2 => exact HC0.out); rintro e w11 ⟨v476, rfl, ho0, hb⟩; refine ⟨_, rfl, ?_⟩; have HO477 := ka (Kd.R_lower ho0 (below_size (kw HB.out))); replace HB := ka (below_step (kw HB.out) hb); (try clear hb); (try clear hb2); (try clear hk); (try clear hi); (try clear ho0); (try simp only [errW_none, errW_some])) | ((with_reducible refine gate_callee (f := 11) rfl ?_); refine kg (some 25) rfl rfl Try.func11 (by kernel_rfl) rfl #[.int .i64 a1] rfl ?_; (with_reducible refine (trivetref04_Of_s.calls a1 t478 t479 t480 t481 _ A7.out).mono ?_); rintro e w12 ⟨rfl, hb⟩; refine ⟨_, rfl, ?_⟩; replace HO477 := ka (Kd.R_below (kr HO477.out) hb); replace HB := ka (below_step (kw HB.out) hb); (try clear hb); (try clear hb2); (try clear hk); (try clear hi)) | ((with_reducible refine gate_dst (N := 8) rfl ?_); (try (refine gate_guard (by rfl) ?_; dsimp only)); refine kx (N := 8) (cs := #[.int .i64 0, .int .i64 0, .int .i64 0]) (t := 30) ?_; intro gb482 hg w13 hbox hb; have n0_ := ka (Kd.R_below (kr HO477.out) hb); have n1_ := ka (below_step (kw HB.out) hb); have n2_ := ka (hbox); have n3_ := ka ((by rw [hg]; exact (below_size (kw HB.out)) : w.heap.size ≤ gb482)); have n4_ := n3_; clear HO477; clear HB; have HO477 := n0_; have HB := n1_; have BK482 := n2_; have GW482 := n3_; have GE482 := n4_; clear n0_ n1_ n2_ n3_ n4_; clear hb hbox hg; have hcz14 := blkAll3 BK482.out) | ((with_reducible refine gate_callee (f := 12) rfl ?_); refine kg (some 29) rfl rfl Try.func12 (by kernel_rfl) rfl #[.slice A0 l0.length c0] rfl ?_; (with_reducible refine (trivetref14_May.calls k _ _ l0 t483 _ ?side1 ?side2 A8.out).mono ?_); (case side1 => exact Kd.C_below HR0.out (kw HB.out)); (case side2 => exact HC0.out); rintro e w15 ⟨rfl, hb⟩; refine ⟨_, rfl, ?_⟩; replace HO477 := ka (Kd.R_below (kr ((Kd.R_mono (Kd.R_far (p := ⟨gb482, 2, none⟩) (Kd.R_far (p := ⟨gb482, 1, none⟩) (Kd.R_far (p := ⟨gb482, 0, none⟩) (Kd.R_types HO477.out BK482.out (by decide)) (fun _ hk => hk.2) (.int .i64 t478)) (fun _ hk => hk.2) (.int .i64 t479)) (fun _ hk => hk.2) (.int .i64 t480)) (fun _ h_ => h_.1)))) hb); replace BK482 := ka (blk_below (g := gb482) (o := .cells #[.int .i64 t478, .int .i64 t479, .int .i64 t480] 30 (0, 0)) (by (with_reducible repeat (first | apply kb1 | apply kb2 | apply kb3 | apply blkPut3_2 | apply blkPut3_1 | apply blkPut3_0)); exact BK482.out) hb); replace HB := ka (below_step (kw HB.out) hb); (try clear hb); (try clear hb2); (try clear hk); (try clear hi)))
  (try simp only [Act.put, List.setIfInBounds_toArray, List.set_cons_zero, List.set_cons_succ])
  go_cut [11] (fun v11 wc => ∃ (kq : Nat) (x11_8 : Bool), v11 = .bool x11_8 ∧ Aside0 (trivetlaw14_CalendarMonths.j0 kq l0 a1 t473 t474 t475 t483 x11_8 t478 t479 t480 = some r) ∧ Aside0 (kq ≤ k) ∧ Aside0 (Kd.R (Kd.int .i64) 2 wc w.heap.size (fun _ => True) v476 t474) ∧ Aside0 (wc.heap[gb482]? = some (.cells #[.int .i64 t478, .int .i64 t479, .int .i64 t480] 30 (0, 0))) ∧ Aside0 (Below w.heap.size w wc))
  case first =>
   have H := HC9.out
   clear HC9
   by_cases c16 : t481 = true
   ·subst c16
    have H1 : ((trivetref04_Months_s.f t478 t479 t480 12).bind fun bt484 => (trivetlaw14_CalendarMonths.j0 k l0 a1 t473 t474 t475 t483 bt484.2.2.2 t478 t479 t480)) = some r := by rw [if_pos rfl] at H; exact H
    clear H
    have H := H1
    clear H1
    replace H := Option.bind_eq_some_iff.mp H
    obtain ⟨⟨t484, t485, t486, t487⟩, A170, H⟩ := H
    replace H : (trivetlaw14_CalendarMonths.j0 k l0 a1 t473 t474 t475 t483 t487 t478 t479 t480) = some r := H
    have A17 := ka A170
    clear A170
    have H' := ka H
    clear H
    have hcz18 := blkAll3 BK482.out
    go_wp2_with (first | ((with_reducible refine gate_callee (f := 13) rfl ?_); refine kg (some 33) rfl rfl Try.func13 (by kernel_rfl) rfl #[.agg #[.int .i64 t478, .int .i64 t479, .int .i64 t480], .int .i64 12] rfl ?_; (with_reducible refine (trivetref04_Months_s.calls t478 t479 t480 12 t484 t485 t486 t487 _ A17.out).mono ?_); rintro e w19 ⟨rfl, hb⟩; refine ⟨_, rfl, ?_⟩; replace HO477 := ka (Kd.R_below (kr HO477.out) hb); replace BK482 := kbb BK482 hb; replace HB := ka (below_step (kw HB.out) hb); (try clear hb); (try clear hb2); (try clear hk); (try clear hi)))
    go_meet
    case rel => exact ⟨_, (t487), (by first | rfl | (simp; done) | (simp [*]; done)), H', ⟨by first | omega | exact Nat.le_refl _⟩, ⟨kr HO477.out⟩, ⟨by (with_reducible repeat (first | apply kb1 | apply kb2 | apply kb3)); exact BK482.out⟩, ⟨by repeat (first | (with_reducible first | exact HB.out | apply kc1 | apply kc2 | apply kc3 | refine kc4 ?_ GE482.out) | exact HB.out)⟩⟩
   ·replace c16 := Bool.eq_false_iff.mpr c16
    subst c16
    have H1 : (trivetlaw14_CalendarMonths.j0 k l0 a1 t473 t474 t475 t483 false t478 t479 t480) = some r := by rw [if_neg (show ¬ (false = true) by decide)] at H; exact H
    clear H
    have H := H1
    clear H1
    have H' := ka H
    clear H
    go_wp2
    go_meet
    case rel => exact ⟨_, (false), (by first | rfl | (simp; done) | (simp [*]; done)), H', ⟨by first | omega | exact Nat.le_refl _⟩, ⟨kr HO477.out⟩, ⟨by (with_reducible repeat (first | apply kb1 | apply kb2 | apply kb3)); exact BK482.out⟩, ⟨by repeat (first | (with_reducible first | exact HB.out | apply kc1 | apply kc2 | apply kc3 | refine kc4 ?_ GE482.out) | exact HB.out)⟩⟩
  case rest =>
   clear HC9
   try clear c1
   try clear p2
   try clear c3
   try clear c4
   try clear c4b0
   try clear c4b1
   try clear c9
   try clear c10
   try clear c11
   try clear c12
   try clear c13
   try clear c16
   try clear hcz14
   try clear hcz18
   obtain ⟨kq, x11_8, rfl, HA, HJ8, HO_6, BK482, HB⟩ := hcut
   cases kq with
   | zero => exact absurd HA.out (by simp [trivetlaw14_CalendarMonths.j0])
   | succ kj8 =>
    have H := HA.out
    clear HA
    simp only [trivetlaw14_CalendarMonths.j0] at H
    have HC20 := ka H
    clear H
    go_upto_region 10 with (fail)
    go_cut [46] (fun v46 wc => ∃ (kq : Nat) (x46_19 : Bool), v46 = .bool x46_19 ∧ Aside0 (trivetlaw14_CalendarMonths.j1 kq l0 a1 t473 t474 t475 x46_19 = some r) ∧ Aside0 (kq ≤ kj8) ∧ Aside0 (Kd.R (Kd.int .i64) 2 wc w.heap.size (fun _ => True) v476 t474) ∧ Aside0 (wc.heap[gb482]? = some (.cells #[.int .i64 t478, .int .i64 t479, .int .i64 t480] 30 (0, 0))) ∧ Aside0 (Below w.heap.size w wc))
    case first =>
     have H := HC20.out
     clear HC20
     by_cases c21 : t483 = true
     ·subst c21
      have H1 : (if x11_8 = true then (trivetlaw14_CalendarMonths.j1 kj8 l0 a1 t473 t474 t475 (t480 != 1)) else (trivetlaw14_CalendarMonths.j1 kj8 l0 a1 t473 t474 t475 true)) = some r := by rw [if_pos rfl] at H; exact H
      clear H
      have H := H1
      clear H1
      by_cases c22 : x11_8 = true
      ·subst c22
       have H1 : (trivetlaw14_CalendarMonths.j1 kj8 l0 a1 t473 t474 t475 (t480 != 1)) = some r := by rw [if_pos rfl] at H; exact H
       clear H
       have H := H1
       clear H1
       have H' := ka H
       clear H
       have hcz23 := blkAll3 BK482.out
       go_wp2
       go_meet
       case rel => exact ⟨_, ((t480 != 1)), (by first | rfl | (simp; done) | (simp [*]; done)), H', ⟨by have := HJ8.out; first | omega | exact Nat.le_refl _⟩, ⟨kr HO_6.out⟩, ⟨by (with_reducible repeat (first | apply kb1 | apply kb2 | apply kb3)); exact BK482.out⟩, ⟨by repeat (first | (with_reducible first | exact HB.out | apply kc1 | apply kc2 | apply kc3 | refine kc4 ?_ GE482.out) | exact HB.out)⟩⟩
      ·replace c22 := Bool.eq_false_iff.mpr c22
       subst c22
       have H1 : (trivetlaw14_CalendarMonths.j1 kj8 l0 a1 t473 t474 t475 true) = some r := by rw [if_neg (show ¬ (false = true) by decide)] at H; exact H
       clear H
       have H := H1
       clear H1
       have H' := ka H
       clear H
       go_wp2
       go_meet
       case rel => exact ⟨_, (true), (by first | rfl | (simp; done) | (simp [*]; done)), H', ⟨by have := HJ8.out; first | omega | exact Nat.le_refl _⟩, ⟨kr HO_6.out⟩, ⟨by (with_reducible repeat (first | apply kb1 | apply kb2 | apply kb3)); exact BK482.out⟩, ⟨by repeat (first | (with_reducible first | exact HB.out | apply kc1 | apply kc2 | apply kc3 | refine kc4 ?_ GE482.out) | exact HB.out)⟩⟩
     ·replace c21 := Bool.eq_false_iff.mpr c21
      subst c21
      have H1 : (trivetlaw14_CalendarMonths.j1 kj8 l0 a1 t473 t474 t475 true) = some r := by rw [if_neg (show ¬ (false = true) by decide)] at H; exact H
      clear H
      have H := H1
      clear H1
      have H' := ka H
      clear H
      go_wp2
      go_meet
      case rel => exact ⟨_, (true), (by first | rfl | (simp; done) | (simp [*]; done)), H', ⟨by have := HJ8.out; first | omega | exact Nat.le_refl _⟩, ⟨kr HO_6.out⟩, ⟨by (with_reducible repeat (first | apply kb1 | apply kb2 | apply kb3)); exact BK482.out⟩, ⟨by repeat (first | (with_reducible first | exact HB.out | apply kc1 | apply kc2 | apply kc3 | refine kc4 ?_ GE482.out) | exact HB.out)⟩⟩
    case rest =>
     clear HC20
     try clear c1
     try clear c2
     try clear p2
     try clear c3
     try clear c4
     try clear c4b0
     try clear c4b1
     try clear c9
     try clear c10
     try clear c11
     try clear c12
     try clear c13
     try clear c16
     try clear c21
     try clear c22
     try clear hcz14
     try clear hcz18
     try clear hcz23
     try clear p2
     obtain ⟨kq, x46_19, rfl, HA, HJ19, HO_6, BK482, HB⟩ := hcut
     cases kq with
     | zero => exact absurd HA.out (by simp [trivetlaw14_CalendarMonths.j1])
     | succ kj19 =>
      have H := HA.out
      clear HA
      simp only [trivetlaw14_CalendarMonths.j1] at H
      by_cases c24 : x46_19 = true
      ·subst c24
       have H1 : (if t473 = true then (if t475.isNone = true then (none) else (if (t475.getD 0) = 1 then (some ((t474.length : Int) == 0)) else (none))) else (none)) = some r := by rw [if_pos rfl] at H; exact H
       clear H
       have H := H1
       clear H1
       by_cases c25 : t473 = true
       ·subst c25
        have H1 : (if t475.isNone = true then (none) else (if (t475.getD 0) = 1 then (some ((t474.length : Int) == 0)) else (none))) = some r := by rw [if_pos rfl] at H; exact H
        clear H
        have H := H1
        clear H1
        rcases t475 with _ | q488
        ·have H1 : (none) = some r := by rw [if_pos (show (none : Option Int).isNone = true by rfl)] at H; exact H
         clear H
         have H := H1
         clear H1
         try simp only [errW_none, errW_some]
         exact absurd H (by simp)
        ·have H1 : (if q488 = 1 then (some ((t474.length : Int) == 0)) else (none)) = some r := by rw [if_neg (show ¬ (some q488).isNone = true by simp)] at H; exact H
         clear H
         have H := H1
         clear H1
         try simp only [errW_none, errW_some]
         by_cases c26 : q488 = 1
         ·rw [if_pos c26] at H
          have c26b0 : (q488 == 1) = true := beq_iff_eq.mpr c26
          have c26b1 : (q488 != 1) = false := bne_eq_false_iff_eq.mpr c26
          clear c26
          obtain rfl := Option.some.inj H
          obtain ⟨Ao27, co27, eo27⟩ := Kd.R_slice HO_6.out
          subst eo27
          go_wp2
          go_ret
          exact ⟨by first | rfl | (simp [errW_none, errW_some] <;> rfl) | (simp [*, errW_none, errW_some] <;> rfl), by repeat (first | (with_reducible first | exact HB.out | apply kc1 | apply kc2 | apply kc3 | refine kc4 ?_ GE482.out) | exact HB.out)⟩
         ·rw [if_neg c26] at H
          exact absurd H (by simp)
       ·replace c25 := Bool.eq_false_iff.mpr c25
        subst c25
        have H1 : (none) = some r := by rw [if_neg (show ¬ (false = true) by decide)] at H; exact H
        clear H
        have H := H1
        clear H1
        exact absurd H (by simp)
      ·replace c24 := Bool.eq_false_iff.mpr c24
       subst c24
       have H1 : (if t473 = true then (if t475.isNone = true then ((trivetref14_Months.f kj19 l0 a1).bind fun t490 => ((trivetlaw14_Same.f kj19 t474 t490).bind fun t493 => (some t493))) else (none)) else (none)) = some r := by rw [if_neg (show ¬ (false = true) by decide)] at H; exact H
       clear H
       have H := H1
       clear H1
       by_cases c28 : t473 = true
       ·subst c28
        have H1 : (if t475.isNone = true then ((trivetref14_Months.f kj19 l0 a1).bind fun t490 => ((trivetlaw14_Same.f kj19 t474 t490).bind fun t493 => (some t493))) else (none)) = some r := by rw [if_pos rfl] at H; exact H
        clear H
        have H := H1
        clear H1
        rcases t475 with _ | q489
        ·have H1 : ((trivetref14_Months.f kj19 l0 a1).bind fun t490 => ((trivetlaw14_Same.f kj19 t474 t490).bind fun t493 => (some t493))) = some r := by rw [if_pos (show (none : Option Int).isNone = true by rfl)] at H; exact H
         clear H
         have H := H1
         clear H1
         try simp only [errW_none, errW_some]
         replace H := Option.bind_eq_some_iff.mp H
         obtain ⟨t490, A290, H⟩ := H
         replace H : ((trivetlaw14_Same.f kj19 t474 t490).bind fun t493 => (some t493)) = some r := H
         have A29 := ka A290
         clear A290
         replace H := Option.bind_eq_some_iff.mp H
         obtain ⟨t493, A300, H⟩ := H
         replace H : (some t493) = some r := H
         have A30 := ka A300
         clear A300
         obtain rfl := Option.some.inj H
         go_wp2_with (first | (go_at_call 15; (with_reducible refine (trivetref14_Months.calls kj19 _ _ l0 a1 t490 _ ?side1 ?side2 A29.out).mono ?_); (case side1 => repeat (first | exact (Kd.C_below HR0.out HB.out) | (with_reducible refine Kd.C_alloc ?_ _) | (with_reducible refine Kd.C_drewN ?_ _) | (with_reducible refine Kd.C_drew ?_))); (case side2 => exact HC0.out); rintro e w31 ⟨v491, rfl, ho0, hb⟩; have HO492 := ka (Kd.R_lower (Kd.R_new' ho0 (Kd.R_lt (kr HO_6.out))) (below_size (kw HB.out))); replace HO_6 := ka (Kd.R_elder' (kr HO_6.out) (Kd.R_base ho0) hb); replace BK482 := kbb BK482 hb; replace HB := ka (below_step (kw HB.out) hb); (try clear hb); (try clear hb2); (try clear hk); (try clear hi); (try clear ho0); obtain ⟨Ao32, co32, eo32⟩ := Kd.R_slice HO_6.out; subst eo32; obtain ⟨Ao33, co33, eo33⟩ := Kd.R_slice HO492.out; subst eo33) | (go_at_call 14; (with_reducible refine (trivetlaw14_Same.calls kj19 _ _ t474 _ _ t490 t493 _ ?side1 ?side2 ?side3 ?side4 A30.out).mono ?_); (case side1 => repeat (first | exact (Kd.R_reads' HO_6.out).2.2 | (with_reducible refine Kd.C_alloc ?_ _) | (with_reducible refine Kd.C_drewN ?_ _) | (with_reducible refine Kd.C_drew ?_))); (case side2 => exact (Kd.R_reads' HO_6.out).2.1); (case side3 => repeat (first | exact (Kd.R_reads' HO492.out).2.2 | (with_reducible refine Kd.C_alloc ?_ _) | (with_reducible refine Kd.C_drewN ?_ _) | (with_reducible refine Kd.C_drew ?_))); (case side4 => exact (Kd.R_reads' HO492.out).2.1); rintro e w' ⟨rfl, ⟨nd, rfl⟩⟩))
         go_ret
         exact ⟨by first | rfl | (simp [errW_none, errW_some] <;> rfl) | (simp [*, errW_none, errW_some] <;> rfl), by repeat (first | (with_reducible first | exact HB.out | apply kc1 | apply kc2 | apply kc3 | refine kc4 ?_ GE482.out) | exact HB.out)⟩
        ·have H1 : (none) = some r := by rw [if_neg (show ¬ (some q489).isNone = true by simp)] at H; exact H
         clear H
         have H := H1
         clear H1
         try simp only [errW_none, errW_some]
         exact absurd H (by simp)
       ·replace c28 := Bool.eq_false_iff.mpr c28
        subst c28
        have H1 : (none) = some r := by rw [if_neg (show ¬ (false = true) by decide)] at H; exact H
        clear H
        have H := H1
        clear H1
        exact absurd H (by simp)

/-- THE ONE PURE STATEMENT of trivetlaw14_CalendarMonths: yours. -/
def trivetlaw14_CalendarMonths.Pure : Prop := ∀ (l0 : List (S48)) (a1 : Int), l0.length ≤ maxLen → l0.length * 24 ≤ 140737488351232 → (∀ x ∈ l0, (Lit.int .i64 x.f0).wf = true ∧ (Lit.int .i64 x.f1).wf = true ∧ (Lit.int .i64 x.f2).wf = true) → (Lit.int .i64 a1).wf = true → ∃ k, trivetlaw14_CalendarMonths.f k l0 a1 = some true
theorem trivetlaw14_CalendarMonths.walk (P : trivetlaw14_CalendarMonths.Pure) (a0 : Option Addr) (len0 cap0 : Nat) (l0 : List (S48)) (a1 : Int) (w : World) (w0 : Kd.C k48 w a0 len0 l0 ∧ len0 ≤ cap0 ∧ len0 ≤ maxLen ∧ (∀ x ∈ l0, (Lit.int .i64 x.f0).wf = true ∧ (Lit.int .i64 x.f1).wf = true ∧ (Lit.int .i64 x.f2).wf = true)) (y0 : len0 * 24 ≤ 140737488351232) (w1 : (Lit.int .i64 a1).wf = true) :
  Calls Try.prog 3 #[.slice a0 len0 cap0, .int .i64 a1] w fun e w' => e = .returned (.bool true) ∧ Below w.heap.size w w' := by
 obtain ⟨hr0, hc0, hm0, hw0⟩ := w0
 obtain rfl := Kd.C_len hr0
 obtain ⟨k, h⟩ := P l0 a1 hm0 y0 hw0 w1
 refine (trivetlaw14_CalendarMonths.calls k _ _ l0 a1 true w hr0 hc0 h).mono ?_
 rintro e w' ⟨rfl, hd⟩
 exact ⟨rfl, hd⟩

end Go.Proofs.Ytmkfbaoglmmhjaa.P
