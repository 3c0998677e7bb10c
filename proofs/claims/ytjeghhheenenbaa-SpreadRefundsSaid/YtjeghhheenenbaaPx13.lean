-- Written by a program of this session out of the translation of the seat: Lean functions and the proofs that the Go functions come to them.
import Derived.Test.YtjeghhheenenbaaPx0
import Derived.Test.YtjeghhheenenbaaPx6
import Derived.Test.YtjeghhheenenbaaPx7
namespace Go.Proofs.Ytjeghhheenenbaa.P
open Go.RowKit Go.Proofs.YtjeghhheenenbaaW.PrintWords Go.Proofs.YtjeghhheenenbaaW.PrintLast Go.Proofs.YtjeghhheenenbaaW.PrintMore
attribute [local go_sem] max2_int min2_int max_two min_two max_three min_three max_four min_four   -- for this text's walks alone
set_option linter.unusedVariables false
set_option linter.unusedSimpArgs false

/-! ### trivetlaw16_SpreadRefunds: function 7 -/
mutual
def trivetlaw16_SpreadRefunds.j0 : Nat → Int → Bool → Bool → Bool → Int → Int → Int → Int → Int → List Int → Option (Bool)
 | 0, _, _, _, _, _, _, _, _, _, _ => none
 | k + 1, x1, x2, x7, x38, x614000, x614001, x614002, x614003, x614004, x614005 => if x38 = true then (some x7) else ((spread_Of.f k x614000 x614001 x614002 x614003 x614004 x614005 (wrap64 (x614003 + x1)) x2).bind fun bt615 => (if bt615.2.2.2.2.2.isNone = true then (if bt615.1 = x1 then (trivetlaw16_SpreadRefunds.j1 k x1 x2 x7 ((bt615.2.2.2.2.1.length : Int) != 12) bt615.1 bt615.2.1 bt615.2.2.1 bt615.2.2.2.1 bt615.2.2.2.2.1) else (trivetlaw16_SpreadRefunds.j1 k x1 x2 x7 true bt615.1 bt615.2.1 bt615.2.2.1 bt615.2.2.2.1 bt615.2.2.2.2.1)) else (trivetlaw16_SpreadRefunds.j1 k x1 x2 x7 true bt615.1 bt615.2.1 bt615.2.2.1 bt615.2.2.2.1 bt615.2.2.2.2.1)))
def trivetlaw16_SpreadRefunds.j1 : Nat → Int → Bool → Bool → Bool → Int → Int → Int → Int → List Int → Option (Bool)
 | 0, _, _, _, _, _, _, _, _, _ => none
 | k + 1, x1, x2, x7, x63, x624000, x624001, x624002, x624003, x624004 => if x63 = true then (none) else (trivetlaw16_SpreadRefunds.l0 k x1 x2 x7 0 0 x624000 x624001 x624002 x624003 x624004)
def trivetlaw16_SpreadRefunds.l0 : Nat → Int → Bool → Bool → Int → Int → Int → Int → Int → Int → List Int → Option (Bool)
 | 0, _, _, _, _, _, _, _, _, _, _ => none
 | k + 1, x1, x2, x7, x10, x11, x624000, x624001, x624002, x624003, x624004 => if x11 < 12 then (if 0 ≤ x11 then (if x11 < (x624004.length : Int) then (trivetlaw16_SpreadRefunds.l0 k x1 x2 x7 (wrap64 (x10 + (rd x624004 x11))) (wrap64 (x11 + 1)) x624000 x624001 x624002 x624003 x624004) else (none)) else (none)) else (if x2 = true then (if x1 ≥ 5000 then (if x7 = true then (if x624003 = x1 then (some (x10 == 0)) else (none)) else (none)) else (if x7 = true then (if x624003 = 0 then (some (x10 == (wrap64 (-x1)))) else (none)) else (none))) else (if x7 = true then (if x624003 = 0 then (some (x10 == (wrap64 (-x1)))) else (none)) else (none)))
end
def trivetlaw16_SpreadRefunds.f (k : Nat) (a0_0 : Int) (a0_1 : Int) (a0_2 : Int) (a0_3 : Int) (a0_4 : Int) (l0_5 : List Int) (a1 : Int) (a2 : Bool) : Option (Bool) := (trivetlaw16_up.f k).bind fun t614 => (if a0_1 < 0 then (trivetlaw16_SpreadRefunds.j0 k a1 a2 t614 true a0_0 a0_1 a0_2 a0_3 a0_4 l0_5) else (if a0_1 > 10000000000000 then (trivetlaw16_SpreadRefunds.j0 k a1 a2 t614 true a0_0 a0_1 a0_2 a0_3 a0_4 l0_5) else (if a0_3 < 0 then (trivetlaw16_SpreadRefunds.j0 k a1 a2 t614 true a0_0 a0_1 a0_2 a0_3 a0_4 l0_5) else (if a0_3 > 1000000000000 then (trivetlaw16_SpreadRefunds.j0 k a1 a2 t614 true a0_0 a0_1 a0_2 a0_3 a0_4 l0_5) else (if a1 < 1 then (trivetlaw16_SpreadRefunds.j0 k a1 a2 t614 true a0_0 a0_1 a0_2 a0_3 a0_4 l0_5) else (trivetlaw16_SpreadRefunds.j0 k a1 a2 t614 (decide (a1 > 1000000000000)) a0_0 a0_1 a0_2 a0_3 a0_4 l0_5))))))
theorem trivetlaw16_SpreadRefunds.mono_l : ∀ k, (∀ y0 y1 y2 y3 y4 y5 y6 y7 y8 y9, LeO (trivetlaw16_SpreadRefunds.j0 k y0 y1 y2 y3 y4 y5 y6 y7 y8 y9) (trivetlaw16_SpreadRefunds.j0 (k + 1) y0 y1 y2 y3 y4 y5 y6 y7 y8 y9)) ∧ (∀ y0 y1 y2 y3 y4 y5 y6 y7 y8, LeO (trivetlaw16_SpreadRefunds.j1 k y0 y1 y2 y3 y4 y5 y6 y7 y8) (trivetlaw16_SpreadRefunds.j1 (k + 1) y0 y1 y2 y3 y4 y5 y6 y7 y8)) ∧ (∀ y0 y1 y2 y3 y4 y5 y6 y7 y8 y9, LeO (trivetlaw16_SpreadRefunds.l0 k y0 y1 y2 y3 y4 y5 y6 y7 y8 y9) (trivetlaw16_SpreadRefunds.l0 (k + 1) y0 y1 y2 y3 y4 y5 y6 y7 y8 y9))
 | 0 => ⟨fun _ _ _ _ _ _ _ _ _ _ r h => by simp [trivetlaw16_SpreadRefunds.j0] at h, fun _ _ _ _ _ _ _ _ _ r h => by simp [trivetlaw16_SpreadRefunds.j1] at h, fun _ _ _ _ _ _ _ _ _ _ r h => by simp [trivetlaw16_SpreadRefunds.l0] at h⟩
 | k + 1 => by
  obtain ⟨ih0, ih1, ih2⟩ := trivetlaw16_SpreadRefunds.mono_l k
  refine ⟨?_, ?_, ?_⟩
  ·intro y0 y1 y2 y3 y4 y5 y6 y7 y8 y9
   unfold trivetlaw16_SpreadRefunds.j0
   repeat' first
   | (with_reducible exact ih0 _ _ _ _ _ _ _ _ _ _)
   | (with_reducible exact ih1 _ _ _ _ _ _ _ _ _)
   | (with_reducible exact ih2 _ _ _ _ _ _ _ _ _ _)
   | (with_reducible exact spread_Of.mono _ _ _ _ _ _ _ _ _)
   | (with_reducible exact trivetlaw16_up.mono _)
   | (with_reducible exact LeO.refl _)
   | (with_reducible exact LeO.none _)
   | (with_reducible refine LeO.ite ?_ ?_)
   | (with_reducible refine LeO.bind ?_ (fun _ => ?_))
   | exact ih0 _ _ _ _ _ _ _ _ _ _
   | exact ih1 _ _ _ _ _ _ _ _ _
   | exact ih2 _ _ _ _ _ _ _ _ _ _
   | exact spread_Of.mono _ _ _ _ _ _ _ _ _
   | exact trivetlaw16_up.mono _
   | exact LeO.none _
   | refine LeO.ite ?_ ?_
   | refine LeO.bind ?_ (fun _ => ?_)
  ·intro y0 y1 y2 y3 y4 y5 y6 y7 y8
   unfold trivetlaw16_SpreadRefunds.j1
   repeat' first
   | (with_reducible exact ih0 _ _ _ _ _ _ _ _ _ _)
   | (with_reducible exact ih1 _ _ _ _ _ _ _ _ _)
   | (with_reducible exact ih2 _ _ _ _ _ _ _ _ _ _)
   | (with_reducible exact spread_Of.mono _ _ _ _ _ _ _ _ _)
   | (with_reducible exact trivetlaw16_up.mono _)
   | (with_reducible exact LeO.refl _)
   | (with_reducible exact LeO.none _)
   | (with_reducible refine LeO.ite ?_ ?_)
   | (with_reducible refine LeO.bind ?_ (fun _ => ?_))
   | exact ih0 _ _ _ _ _ _ _ _ _ _
   | exact ih1 _ _ _ _ _ _ _ _ _
   | exact ih2 _ _ _ _ _ _ _ _ _ _
   | exact spread_Of.mono _ _ _ _ _ _ _ _ _
   | exact trivetlaw16_up.mono _
   | exact LeO.none _
   | refine LeO.ite ?_ ?_
   | refine LeO.bind ?_ (fun _ => ?_)
  ·intro y0 y1 y2 y3 y4 y5 y6 y7 y8 y9
   unfold trivetlaw16_SpreadRefunds.l0
   repeat' first
   | (with_reducible exact ih0 _ _ _ _ _ _ _ _ _ _)
   | (with_reducible exact ih1 _ _ _ _ _ _ _ _ _)
   | (with_reducible exact ih2 _ _ _ _ _ _ _ _ _ _)
   | (with_reducible exact spread_Of.mono _ _ _ _ _ _ _ _ _)
   | (with_reducible exact trivetlaw16_up.mono _)
   | (with_reducible exact LeO.refl _)
   | (with_reducible exact LeO.none _)
   | (with_reducible refine LeO.ite ?_ ?_)
   | (with_reducible refine LeO.bind ?_ (fun _ => ?_))
   | exact ih0 _ _ _ _ _ _ _ _ _ _
   | exact ih1 _ _ _ _ _ _ _ _ _
   | exact ih2 _ _ _ _ _ _ _ _ _ _
   | exact spread_Of.mono _ _ _ _ _ _ _ _ _
   | exact trivetlaw16_up.mono _
   | exact LeO.none _
   | refine LeO.ite ?_ ?_
   | refine LeO.bind ?_ (fun _ => ?_)
theorem trivetlaw16_SpreadRefunds.mono : ∀ a0 a1 a2 a3 a4 a5 a6 a7 k, LeO (trivetlaw16_SpreadRefunds.f k a0 a1 a2 a3 a4 a5 a6 a7) (trivetlaw16_SpreadRefunds.f (k + 1) a0 a1 a2 a3 a4 a5 a6 a7) := by
 intro a0 a1 a2 a3 a4 a5 a6 a7 k
 obtain ⟨ih0, ih1, ih2⟩ := trivetlaw16_SpreadRefunds.mono_l k
 unfold trivetlaw16_SpreadRefunds.f
 repeat' first
   | (with_reducible exact ih0 _ _ _ _ _ _ _ _ _ _)
   | (with_reducible exact ih1 _ _ _ _ _ _ _ _ _)
   | (with_reducible exact ih2 _ _ _ _ _ _ _ _ _ _)
   | (with_reducible exact spread_Of.mono _ _ _ _ _ _ _ _ _)
   | (with_reducible exact trivetlaw16_up.mono _)
   | (with_reducible exact LeO.refl _)
   | (with_reducible exact LeO.none _)
   | (with_reducible refine LeO.ite ?_ ?_)
   | (with_reducible refine LeO.bind ?_ (fun _ => ?_))
   | exact ih0 _ _ _ _ _ _ _ _ _ _
   | exact ih1 _ _ _ _ _ _ _ _ _
   | exact ih2 _ _ _ _ _ _ _ _ _ _
   | exact spread_Of.mono _ _ _ _ _ _ _ _ _
   | exact trivetlaw16_up.mono _
   | exact LeO.none _
   | refine LeO.ite ?_ ?_
   | refine LeO.bind ?_ (fun _ => ?_)
set_option maxHeartbeats 8000000 in
set_option maxRecDepth 100000 in
theorem trivetlaw16_SpreadRefunds.calls (k : Nat) (a0_0 : Int) (a0_1 : Int) (a0_2 : Int) (a0_3 : Int) (a0_4 : Int) (A0_5 : Option Addr) (c0_5 : Nat) (l0_5 : List Int) (a1 : Int) (a2 : Bool) (r : Bool) (w : World) (hr0_5 : Kd.C (Kd.int .i64) w A0_5 l0_5.length l0_5) (hc0_5 : l0_5.length ≤ c0_5) (h : trivetlaw16_SpreadRefunds.f k a0_0 a0_1 a0_2 a0_3 a0_4 l0_5 a1 a2 = some r) :
  Calls Try.prog 7 #[.agg #[.int .i64 a0_0, .int .i64 a0_1, .int .i64 a0_2, .int .i64 a0_3, .int .i64 a0_4, .slice A0_5 l0_5.length c0_5], .int .i64 a1, .bool a2] w fun e w' => e = .returned (.bool r) ∧ Below w.heap.size w w' := by
 have hu24 := Try.underlying24
 have hu27 := Try.underlying27
 have hu29 := Try.underlying29
 have hu34 := Try.underlying34
 have HR0_5 := ka hr0_5
 have HC0_5 := ka hc0_5
 clear hr0_5 hc0_5
 have HB := ka (Below.refl w.heap.size w)
 have H : ((trivetlaw16_up.f k).bind fun t614 => (if a0_1 < 0 then (trivetlaw16_SpreadRefunds.j0 k a1 a2 t614 true a0_0 a0_1 a0_2 a0_3 a0_4 l0_5) else (if a0_1 > 10000000000000 then (trivetlaw16_SpreadRefunds.j0 k a1 a2 t614 true a0_0 a0_1 a0_2 a0_3 a0_4 l0_5) else (if a0_3 < 0 then (trivetlaw16_SpreadRefunds.j0 k a1 a2 t614 true a0_0 a0_1 a0_2 a0_3 a0_4 l0_5) else (if a0_3 > 1000000000000 then (trivetlaw16_SpreadRefunds.j0 k a1 a2 t614 true a0_0 a0_1 a0_2 a0_3 a0_4 l0_5) else (if a1 < 1 then (trivetlaw16_SpreadRefunds.j0 k a1 a2 t614 true a0_0 a0_1 a0_2 a0_3 a0_4 l0_5) else (trivetlaw16_SpreadRefunds.j0 k a1 a2 t614 (decide (a1 > 1000000000000)) a0_0 a0_1 a0_2 a0_3 a0_4 l0_5))))))) = some r := h
 clear h
 replace H := Option.bind_eq_some_iff.mp H
 obtain ⟨t614, A40, H⟩ := H
 replace H : (if a0_1 < 0 then (trivetlaw16_SpreadRefunds.j0 k a1 a2 t614 true a0_0 a0_1 a0_2 a0_3 a0_4 l0_5) else (if a0_1 > 10000000000000 then (trivetlaw16_SpreadRefunds.j0 k a1 a2 t614 true a0_0 a0_1 a0_2 a0_3 a0_4 l0_5) else (if a0_3 < 0 then (trivetlaw16_SpreadRefunds.j0 k a1 a2 t614 true a0_0 a0_1 a0_2 a0_3 a0_4 l0_5) else (if a0_3 > 1000000000000 then (trivetlaw16_SpreadRefunds.j0 k a1 a2 t614 true a0_0 a0_1 a0_2 a0_3 a0_4 l0_5) else (if a1 < 1 then (trivetlaw16_SpreadRefunds.j0 k a1 a2 t614 true a0_0 a0_1 a0_2 a0_3 a0_4 l0_5) else (trivetlaw16_SpreadRefunds.j0 k a1 a2 t614 (decide (a1 > 1000000000000)) a0_0 a0_1 a0_2 a0_3 a0_4 l0_5)))))) = some r := H
 have A4 := ka A40
 clear A40
 have HC5 := ka H
 clear H
 go_enter Try.func7, Try.ntmps7
 go_upto_region 2 with (first | ((with_reducible refine gate_dst (N := 3) rfl ?_); (try (refine gate_guard (by rfl) ?_; dsimp only)); refine kx (N := 3) (cs := #[.int .i64 a0_0, .int .i64 a0_1, .int .i64 a0_2, .int .i64 a0_3, .int .i64 a0_4, .slice A0_5 l0_5.length c0_5]) (t := 24) ?_; intro gb613 hg w6 hbox hb; have n0_ := ka (below_step (kw HB.out) hb); have n1_ := ka (hbox); have n2_ := ka ((by rw [hg]; exact (below_size (kw HB.out)) : w.heap.size ≤ gb613)); have n3_ := n2_; clear HB; have HB := n0_; have BK613 := n1_; have GW613 := n2_; have GE613 := n3_; clear n0_ n1_ n2_ n3_; clear hb hbox hg) | ((with_reducible refine gate_callee (f := 8) rfl ?_); refine kg (some 12) rfl rfl Try.func8 (by kernel_rfl) rfl #[] rfl ?_; (with_reducible refine (trivetlaw16_up.calls k  t614 _ A4.out).mono ?_); rintro e w7 ⟨rfl, hb⟩; refine ⟨_, rfl, ?_⟩; replace BK613 := kbb BK613 hb; replace HB := ka (below_step (kw HB.out) hb); (try clear hb); (try clear hb2); (try clear hk); (try clear hi)))
 (try simp only [Act.put, List.setIfInBounds_toArray, List.set_cons_zero, List.set_cons_succ])
 go_cut [38] (fun v38 wc => ∃ (kq : Nat) (x38_4 : Bool), v38 = .bool x38_4 ∧ Aside0 (trivetlaw16_SpreadRefunds.j0 kq a1 a2 t614 x38_4 a0_0 a0_1 a0_2 a0_3 a0_4 l0_5 = some r) ∧ Aside0 (kq ≤ k) ∧ Aside0 (wc.heap[gb613]? = some (.cells #[.int .i64 a0_0, .int .i64 a0_1, .int .i64 a0_2, .int .i64 a0_3, .int .i64 a0_4, (.slice A0_5 l0_5.length c0_5)] 24 (0, 0))) ∧ Aside0 (Below w.heap.size w wc))
 case first =>
  have H := HC5.out
  clear HC5
  by_cases c8 : a0_1 < 0
  ·rw [if_pos c8] at H
   have c8b0 : decide (a0_1 < 0) = true := decide_eq_true c8
   clear c8
   (first | rw [c8b0] | (simp only [i64_w, i32_w]; rw [c8b0]) | skip)
   have H' := ka H
   clear H
   have hcz9 := blkAll6 BK613.out
   go_wp2
   go_meet
   case rel => exact ⟨_, (true), (by first | rfl | (simp; done) | (simp [*]; done)), H', ⟨by first | omega | exact Nat.le_refl _⟩, ⟨by (with_reducible repeat (first | apply kb1 | apply kb2 | apply kb3)); exact BK613.out⟩, ⟨by repeat (first | (with_reducible first | exact HB.out | apply kc1 | apply kc2 | apply kc3 | refine kc4 ?_ GE613.out) | exact HB.out)⟩⟩
  ·rw [if_neg c8] at H
   have c8b0 : decide (a0_1 < 0) = false := decide_eq_false c8
   clear c8
   (first | rw [c8b0] | (simp only [i64_w, i32_w]; rw [c8b0]) | skip)
   by_cases c10 : a0_1 > 10000000000000
   ·rw [if_pos c10] at H
    have c10b0 : decide (10000000000000 < a0_1) = true := decide_eq_true c10
    clear c10
    have H' := ka H
    clear H
    have hcz11 := blkAll6 BK613.out
    go_wp2
    go_meet
    case rel => exact ⟨_, (true), (by first | rfl | (simp; done) | (simp [*]; done)), H', ⟨by first | omega | exact Nat.le_refl _⟩, ⟨by (with_reducible repeat (first | apply kb1 | apply kb2 | apply kb3)); exact BK613.out⟩, ⟨by repeat (first | (with_reducible first | exact HB.out | apply kc1 | apply kc2 | apply kc3 | refine kc4 ?_ GE613.out) | exact HB.out)⟩⟩
   ·rw [if_neg c10] at H
    have c10b0 : decide (10000000000000 < a0_1) = false := decide_eq_false c10
    clear c10
    by_cases c12 : a0_3 < 0
    ·rw [if_pos c12] at H
     have c12b0 : decide (a0_3 < 0) = true := decide_eq_true c12
     clear c12
     have H' := ka H
     clear H
     have hcz13 := blkAll6 BK613.out
     go_wp2
     go_meet
     case rel => exact ⟨_, (true), (by first | rfl | (simp; done) | (simp [*]; done)), H', ⟨by first | omega | exact Nat.le_refl _⟩, ⟨by (with_reducible repeat (first | apply kb1 | apply kb2 | apply kb3)); exact BK613.out⟩, ⟨by repeat (first | (with_reducible first | exact HB.out | apply kc1 | apply kc2 | apply kc3 | refine kc4 ?_ GE613.out) | exact HB.out)⟩⟩
    ·rw [if_neg c12] at H
     have c12b0 : decide (a0_3 < 0) = false := decide_eq_false c12
     clear c12
     by_cases c14 : a0_3 > 1000000000000
     ·rw [if_pos c14] at H
      have c14b0 : decide (1000000000000 < a0_3) = true := decide_eq_true c14
      clear c14
      have H' := ka H
      clear H
      have hcz15 := blkAll6 BK613.out
      go_wp2
      go_meet
      case rel => exact ⟨_, (true), (by first | rfl | (simp; done) | (simp [*]; done)), H', ⟨by first | omega | exact Nat.le_refl _⟩, ⟨by (with_reducible repeat (first | apply kb1 | apply kb2 | apply kb3)); exact BK613.out⟩, ⟨by repeat (first | (with_reducible first | exact HB.out | apply kc1 | apply kc2 | apply kc3 | refine kc4 ?_ GE613.out) | exact HB.out)⟩⟩
     ·rw [if_neg c14] at H
      have c14b0 : decide (1000000000000 < a0_3) = false := decide_eq_false c14
      clear c14
      by_cases c16 : a1 < 1
      ·rw [if_pos c16] at H
       have c16b0 : decide (a1 < 1) = true := decide_eq_true c16
       clear c16
       have H' := ka H
       clear H
       have hcz17 := blkAll6 BK613.out
       go_wp2
       go_meet
       case rel => exact ⟨_, (true), (by first | rfl | (simp; done) | (simp [*]; done)), H', ⟨by first | omega | exact Nat.le_refl _⟩, ⟨by (with_reducible repeat (first | apply kb1 | apply kb2 | apply kb3)); exact BK613.out⟩, ⟨by repeat (first | (with_reducible first | exact HB.out | apply kc1 | apply kc2 | apply kc3 | refine kc4 ?_ GE613.out) | exact HB.out)⟩⟩
      ·rw [if_neg c16] at H
       have c16b0 : decide (a1 < 1) = false := decide_eq_false c16
       clear c16
       have H' := ka H
       clear H
       have hcz18 := blkAll6 BK613.out
       go_wp2
       go_meet
       case rel => exact ⟨_, (decide (a1 > 1000000000000)), (by first | rfl | (simp; done) | (simp [*]; done)), H', ⟨by first | omega | exact Nat.le_refl _⟩, ⟨by (with_reducible repeat (first | apply kb1 | apply kb2 | apply kb3)); exact BK613.out⟩, ⟨by repeat (first | (with_reducible first | exact HB.out | apply kc1 | apply kc2 | apply kc3 | refine kc4 ?_ GE613.out) | exact HB.out)⟩⟩
 case rest =>
  clear HC5
  try clear c1
  try clear p2
  try clear c7
  try clear c8
  try clear c8b0
  try clear c10
  try clear c10b0
  try clear c12
  try clear c12b0
  try clear c14
  try clear c14b0
  try clear c16
  try clear c16b0
  try clear hcz11
  try clear hcz13
  try clear hcz15
  try clear hcz17
  try clear hcz18
  try clear hcz9
  obtain ⟨kq, x38_4, rfl, HA, HJ4, BK613, HB⟩ := hcut
  cases kq with
  | zero => exact absurd HA.out (by simp [trivetlaw16_SpreadRefunds.j0])
  | succ kj4 =>
   have H := HA.out
   clear HA
   simp only [trivetlaw16_SpreadRefunds.j0] at H
   by_cases c19 : x38_4 = true
   ·subst c19
    have H1 : (some t614) = some r := by rw [if_pos rfl] at H; exact H
    clear H
    have H := H1
    clear H1
    obtain rfl := Option.some.inj H
    go_wp2
    go_ret
    exact ⟨by first | rfl | (simp [errW_none, errW_some] <;> rfl) | (simp [*, errW_none, errW_some] <;> rfl), by repeat (first | (with_reducible first | exact HB.out | apply kc1 | apply kc2 | apply kc3 | refine kc4 ?_ GE613.out) | exact HB.out)⟩
   ·replace c19 := Bool.eq_false_iff.mpr c19
    subst c19
    have H1 : ((spread_Of.f kj4 a0_0 a0_1 a0_2 a0_3 a0_4 l0_5 (wrap64 (a0_3 + a1)) a2).bind fun bt615 => (if bt615.2.2.2.2.2.isNone = true then (if bt615.1 = a1 then (trivetlaw16_SpreadRefunds.j1 kj4 a1 a2 t614 ((bt615.2.2.2.2.1.length : Int) != 12) bt615.1 bt615.2.1 bt615.2.2.1 bt615.2.2.2.1 bt615.2.2.2.2.1) else (trivetlaw16_SpreadRefunds.j1 kj4 a1 a2 t614 true bt615.1 bt615.2.1 bt615.2.2.1 bt615.2.2.2.1 bt615.2.2.2.2.1)) else (trivetlaw16_SpreadRefunds.j1 kj4 a1 a2 t614 true bt615.1 bt615.2.1 bt615.2.2.1 bt615.2.2.2.1 bt615.2.2.2.2.1))) = some r := by rw [if_neg (show ¬ (false = true) by decide)] at H; exact H
    clear H
    have H := H1
    clear H1
    replace H := Option.bind_eq_some_iff.mp H
    obtain ⟨⟨t615, t616, t617, t618, t619, t622⟩, A200, H⟩ := H
    replace H : (if t622.isNone = true then (if t615 = a1 then (trivetlaw16_SpreadRefunds.j1 kj4 a1 a2 t614 ((t619.length : Int) != 12) t615 t616 t617 t618 t619) else (trivetlaw16_SpreadRefunds.j1 kj4 a1 a2 t614 true t615 t616 t617 t618 t619)) else (trivetlaw16_SpreadRefunds.j1 kj4 a1 a2 t614 true t615 t616 t617 t618 t619)) = some r := H
    have A20 := ka A200
    clear A200
    have HC21 := ka H
    clear H
    have hcz22 := blkAll6 BK613.out
    go_upto_region 5 with (first | ((with_reducible refine gate_callee (f := 9) rfl ?_); refine kg (some 47) rfl rfl Try.func9 (by kernel_rfl) rfl #[.agg #[.int .i64 a0_0, .int .i64 a0_1, .int .i64 a0_2, .int .i64 a0_3, .int .i64 a0_4, .slice A0_5 l0_5.length c0_5], .int .i64 (wrap64 (a0_3 + a1)), .bool a2] rfl ?_; (with_reducible refine (spread_Of.calls kj4 a0_0 a0_1 a0_2 a0_3 a0_4 _ _ l0_5 (wrap64 (a0_3 + a1)) a2 t615 t616 t617 t618 t619 t622 _ ?side1 ?side2 A20.out).mono ?_); (case side1 => repeat (first | exact (Kd.C_below HR0_5.out HB.out) | (with_reducible refine Kd.C_alloc ?_ _) | (with_reducible refine Kd.C_drewN ?_ _) | (with_reducible refine Kd.C_drew ?_))); (case side2 => exact HC0_5.out); rintro e w23 ⟨v620, rfl, ho0, hb⟩; refine ⟨_, rfl, ?_⟩; have HO621 := ka (Kd.R_lower ho0 (below_size (kw HB.out))); replace BK613 := kbb BK613 hb; replace HB := ka (below_step (kw HB.out) hb); (try clear hb); (try clear hb2); (try clear hk); (try clear hi); (try clear ho0); (try simp only [errW_none, errW_some])) | ((with_reducible refine gate_dst (N := 8) rfl ?_); (try (refine gate_guard (by rfl) ?_; dsimp only)); refine kx (N := 8) (cs := #[.int .i64 0, .int .i64 0, .int .i64 0, .int .i64 0, .slice none 0 0]) (t := 27) ?_; intro gb623 hg w24 hbox hb; have n0_ := ka (Kd.R_below (kr HO621.out) hb); have n1_ := ka (blk_below (g := gb613) (kz BK613.out) hb); have n2_ := ka (below_step (kw HB.out) hb); have n3_ := ka (hbox); have n4_ := ka ((by rw [hg]; exact (below_size (kw HB.out)) : w.heap.size ≤ gb623)); have n5_ := n4_; have n6_ := ka ((by rw [hg]; exact Nat.ne_of_lt (blk_lt (g := gb613) (kz BK613.out)) : gb613 ≠ gb623)); have n7_ := ka n6_.out.symm; clear HO621; clear BK613; clear HB; have HO621 := n0_; have BK613 := n1_; have HB := n2_; have BK623 := n3_; have GW623 := n4_; have GE623 := n5_; have NB613_623 := n6_; have NB623_613 := n7_; clear n0_ n1_ n2_ n3_ n4_ n5_ n6_ n7_; clear hb hbox hg; have hnb25 := NB623_613.out; have hnc25 := NB613_623.out; have hcz26 := blkAll5 BK623.out; obtain ⟨Ao27, co27, eo27⟩ := Kd.R_slice HO621.out; subst eo27))
    (try simp only [Act.put, List.setIfInBounds_toArray, List.set_cons_zero, List.set_cons_succ])
    go_cut [63] (fun v63 wc => ∃ (kq : Nat) (x63_20 : Bool), v63 = .bool x63_20 ∧ Aside0 (trivetlaw16_SpreadRefunds.j1 kq a1 a2 t614 x63_20 t615 t616 t617 t618 t619 = some r) ∧ Aside0 (kq ≤ kj4) ∧ Aside0 (Kd.R (Kd.int .i64) 2 wc w.heap.size (fun _ => True) (.slice Ao27 t619.length co27) t619) ∧ Aside0 (wc.heap[gb613]? = some (.cells #[.int .i64 a0_0, .int .i64 a0_1, .int .i64 a0_2, .int .i64 a0_3, .int .i64 a0_4, (.slice A0_5 l0_5.length c0_5)] 24 (0, 0))) ∧ Aside0 (wc.heap[gb623]? = some (.cells #[.int .i64 t615, .int .i64 t616, .int .i64 t617, .int .i64 t618, (.slice Ao27 t619.length co27)] 27 (0, 0))) ∧ Aside0 (Below w.heap.size w wc))
    case first =>
     have H := HC21.out
     clear HC21
     rcases t622 with _ | q624
     ·have H1 : (if t615 = a1 then (trivetlaw16_SpreadRefunds.j1 kj4 a1 a2 t614 ((t619.length : Int) != 12) t615 t616 t617 t618 t619) else (trivetlaw16_SpreadRefunds.j1 kj4 a1 a2 t614 true t615 t616 t617 t618 t619)) = some r := by rw [if_pos (show (none : Option Int).isNone = true by rfl)] at H; exact H
      clear H
      have H := H1
      clear H1
      try simp only [errW_none, errW_some]
      by_cases c28 : t615 = a1
      ·rw [if_pos c28] at H
       have c28b0 : (t615 == a1) = true := beq_iff_eq.mpr c28
       have c28b1 : (t615 != a1) = false := bne_eq_false_iff_eq.mpr c28
       clear c28
       (first | rw [c28b0] | (simp only [i64_w, i32_w]; rw [c28b0]) | skip)
       have H' := ka H
       clear H
       have hnb29 := NB623_613.out
       have hnc29 := NB613_623.out
       have hcz30 := blkAll5 BK623.out
       go_wp2
       go_meet
       case rel => exact ⟨_, (((t619.length : Int) != 12)), (by first | rfl | (simp; done) | (simp [*]; done)), H', ⟨by have := HJ4.out; first | omega | exact Nat.le_refl _⟩, ⟨kr (Kd.R_mono (Kd.R_far (p := ⟨gb623, 4, none⟩) (Kd.R_far (p := ⟨gb623, 3, none⟩) (Kd.R_far (p := ⟨gb623, 2, none⟩) (Kd.R_far (p := ⟨gb623, 1, none⟩) (Kd.R_far (p := ⟨gb623, 0, none⟩) (Kd.R_types HO621.out BK623.out (by decide)) (fun _ hk => hk.2) (.int .i64 t615)) (fun _ hk => hk.2) (.int .i64 t616)) (fun _ hk => hk.2) (.int .i64 t617)) (fun _ hk => hk.2) (.int .i64 t618)) (fun _ hk => hk.2) (.slice Ao27 t619.length co27)) (fun _ hk => trivial))⟩, ⟨by (with_reducible repeat (first | apply kb1 | apply kb2 | apply kb3 | refine kb4 ?_ NB613_623.out _)); exact BK613.out⟩, ⟨by (with_reducible repeat (first | apply kb1 | apply kb2 | apply kb3 | apply blkPut5_4 | apply blkPut5_3 | apply blkPut5_2 | apply blkPut5_1 | apply blkPut5_0)); exact BK623.out⟩, ⟨by repeat (first | (with_reducible first | exact HB.out | apply kc1 | apply kc2 | apply kc3 | refine kc4 ?_ GE613.out | refine kc4 ?_ GE623.out) | exact HB.out)⟩⟩
      ·rw [if_neg c28] at H
       have c28b0 : (t615 == a1) = false := beq_eq_false_iff_ne.mpr c28
       have c28b1 : (t615 != a1) = true := bne_iff_ne.mpr c28
       (first | rw [c28b0] | (simp only [i64_w, i32_w]; rw [c28b0]) | skip)
       have H' := ka H
       clear H
       have hnb31 := NB623_613.out
       have hnc31 := NB613_623.out
       have hcz32 := blkAll5 BK623.out
       go_wp2
       go_meet
       case rel => exact ⟨_, (true), (by first | rfl | (simp; done) | (simp [*]; done)), H', ⟨by have := HJ4.out; first | omega | exact Nat.le_refl _⟩, ⟨kr (Kd.R_mono (Kd.R_far (p := ⟨gb623, 4, none⟩) (Kd.R_far (p := ⟨gb623, 3, none⟩) (Kd.R_far (p := ⟨gb623, 2, none⟩) (Kd.R_far (p := ⟨gb623, 1, none⟩) (Kd.R_far (p := ⟨gb623, 0, none⟩) (Kd.R_types HO621.out BK623.out (by decide)) (fun _ hk => hk.2) (.int .i64 t615)) (fun _ hk => hk.2) (.int .i64 t616)) (fun _ hk => hk.2) (.int .i64 t617)) (fun _ hk => hk.2) (.int .i64 t618)) (fun _ hk => hk.2) (.slice Ao27 t619.length co27)) (fun _ hk => trivial))⟩, ⟨by (with_reducible repeat (first | apply kb1 | apply kb2 | apply kb3 | refine kb4 ?_ NB613_623.out _)); exact BK613.out⟩, ⟨by (with_reducible repeat (first | apply kb1 | apply kb2 | apply kb3 | apply blkPut5_4 | apply blkPut5_3 | apply blkPut5_2 | apply blkPut5_1 | apply blkPut5_0)); exact BK623.out⟩, ⟨by repeat (first | (with_reducible first | exact HB.out | apply kc1 | apply kc2 | apply kc3 | refine kc4 ?_ GE613.out | refine kc4 ?_ GE623.out) | exact HB.out)⟩⟩
     ·have H1 : (trivetlaw16_SpreadRefunds.j1 kj4 a1 a2 t614 true t615 t616 t617 t618 t619) = some r := by rw [if_neg (show ¬ (some q624).isNone = true by simp)] at H; exact H
      clear H
      have H := H1
      clear H1
      try simp only [errW_none, errW_some]
      have H' := ka H
      clear H
      go_wp2
      go_meet
      case rel => exact ⟨_, (true), (by first | rfl | (simp; done) | (simp [*]; done)), H', ⟨by have := HJ4.out; first | omega | exact Nat.le_refl _⟩, ⟨kr (Kd.R_mono (Kd.R_far (p := ⟨gb623, 4, none⟩) (Kd.R_far (p := ⟨gb623, 3, none⟩) (Kd.R_far (p := ⟨gb623, 2, none⟩) (Kd.R_far (p := ⟨gb623, 1, none⟩) (Kd.R_far (p := ⟨gb623, 0, none⟩) (Kd.R_types HO621.out BK623.out (by decide)) (fun _ hk => hk.2) (.int .i64 t615)) (fun _ hk => hk.2) (.int .i64 t616)) (fun _ hk => hk.2) (.int .i64 t617)) (fun _ hk => hk.2) (.int .i64 t618)) (fun _ hk => hk.2) (.slice Ao27 t619.length co27)) (fun _ hk => trivial))⟩, ⟨by (with_reducible repeat (first | apply kb1 | apply kb2 | apply kb3 | refine kb4 ?_ NB613_623.out _)); exact BK613.out⟩, ⟨by (with_reducible repeat (first | apply kb1 | apply kb2 | apply kb3 | apply blkPut5_4 | apply blkPut5_3 | apply blkPut5_2 | apply blkPut5_1 | apply blkPut5_0)); exact BK623.out⟩, ⟨by repeat (first | (with_reducible first | exact HB.out | apply kc1 | apply kc2 | apply kc3 | refine kc4 ?_ GE613.out | refine kc4 ?_ GE623.out) | exact HB.out)⟩⟩
    case rest =>
     clear HC21
     try clear c1
     try clear c2
     try clear p2
     try clear c3
     try clear p6
     try clear q6
     try clear c7
     try clear c8
     try clear c8b0
     try clear c9
     try clear c10
     try clear c10b0
     try clear c12
     try clear c12b0
     try clear c14
     try clear c14b0
     try clear c16
     try clear c16b0
     try clear c19
     try clear c25
     try clear c28
     try clear c28b0
     try clear c28b1
     try clear c29
     try clear c31
     try clear hcz11
     try clear hcz13
     try clear hcz15
     try clear hcz17
     try clear hcz18
     try clear hcz22
     try clear hcz26
     try clear hcz30
     try clear hcz32
     try clear hcz9
     try clear p2
     try clear q624
     obtain ⟨kq, x63_20, rfl, HA, HJ20, HO_624004, BK613, BK623, HB⟩ := hcut
     cases kq with
     | zero => exact absurd HA.out (by simp [trivetlaw16_SpreadRefunds.j1])
     | succ kj20 =>
      have H := HA.out
      clear HA
      simp only [trivetlaw16_SpreadRefunds.j1] at H
      by_cases c33 : x63_20 = true
      ·subst c33
       have H1 : (none) = some r := by rw [if_pos rfl] at H; exact H
       clear H
       have H := H1
       clear H1
       exact absurd H (by simp)
      ·replace c33 := Bool.eq_false_iff.mpr c33
       subst c33
       have H1 : (trivetlaw16_SpreadRefunds.l0 kj20 a1 a2 t614 0 0 t615 t616 t617 t618 t619) = some r := by rw [if_neg (show ¬ (false = true) by decide)] at H; exact H
       clear H
       have H := H1
       clear H1
       have H' := ka H
       clear H
       go_wp2
       (try simp only [Act.put, List.setIfInBounds_toArray, List.set_cons_zero, List.set_cons_succ])
       go_loopg [10, 11] kj20 (fun kq v10 v11 w' => ∃ (x10_3 : Int) (x11_3 : Int), v10 = .int .i64 x10_3 ∧ v11 = .int .i64 x11_3 ∧ Aside0 (trivetlaw16_SpreadRefunds.l0 kq a1 a2 t614 x10_3 x11_3 t615 t616 t617 t618 t619 = some r) ∧ Aside0 (kq ≤ kj20) ∧ Aside0 (Kd.R (Kd.int .i64) 2 w' w.heap.size (fun _ => True) (.slice Ao27 t619.length co27) t619) ∧ Aside0 (w'.heap[gb613]? = some (.cells #[.int .i64 a0_0, .int .i64 a0_1, .int .i64 a0_2, .int .i64 a0_3, .int .i64 a0_4, (.slice A0_5 l0_5.length c0_5)] 24 (0, 0))) ∧ Aside0 (w'.heap[gb623]? = some (.cells #[.int .i64 t615, .int .i64 t616, .int .i64 t617, .int .i64 t618, (.slice Ao27 t619.length co27)] 27 (0, 0))) ∧ Aside0 (Below w.heap.size w w'))
       case atStart => exact ⟨(0), (0), (by first | rfl | (simp; done) | (simp [*]; done)), (by first | rfl | (simp; done) | (simp [*]; done)), H', ⟨Nat.le_refl _⟩, ⟨kr HO_624004.out⟩, ⟨by (with_reducible repeat (first | apply kb1 | apply kb2 | apply kb3)); exact BK613.out⟩, ⟨by (with_reducible repeat (first | apply kb1 | apply kb2 | apply kb3)); exact BK623.out⟩, ⟨by repeat (first | (with_reducible first | exact HB.out | apply kc1 | apply kc2 | apply kc3 | refine kc4 ?_ GE613.out | refine kc4 ?_ GE623.out) | exact HB.out)⟩⟩
       case round =>
        clear H'
        try clear c1
        try clear c2
        try clear p2
        try clear c3
        try clear p6
        try clear q6
        try clear c7
        try clear c8
        try clear c8b0
        try clear c9
        try clear c10
        try clear c10b0
        try clear c12
        try clear c12b0
        try clear c14
        try clear c14b0
        try clear c16
        try clear c16b0
        try clear c19
        try clear c25
        try clear c28
        try clear c28b0
        try clear c28b1
        try clear c29
        try clear c31
        try clear c33
        try clear hcz11
        try clear hcz13
        try clear hcz15
        try clear hcz17
        try clear hcz18
        try clear hcz22
        try clear hcz26
        try clear hcz30
        try clear hcz32
        try clear hcz9
        try clear p2
        try clear p6
        try clear q6
        try clear q624
        obtain ⟨x10_3, x11_3, rfl, rfl, HA, HK3, HO_624004, BK613, BK623, HB⟩ := hrel
        cases gk with
        | zero => exact absurd HA.out (by simp [trivetlaw16_SpreadRefunds.l0])
        | succ k3 =>
         have H := HA.out
         clear HA
         simp only [trivetlaw16_SpreadRefunds.l0] at H
         by_cases c34 : x11_3 < 12
         ·rw [if_pos c34] at H
          have c34b0 : decide (x11_3 < 12) = true := decide_eq_true c34
          clear c34
          by_cases c35 : 0 ≤ x11_3
          ·rw [if_pos c35] at H
           have c35b0 : decide (0 ≤ x11_3) = true := decide_eq_true c35
           clear c35
           by_cases c36 : x11_3 < (t619.length : Int)
           ·rw [if_pos c36] at H
            have c36b0 : decide (x11_3 < (t619.length : Int)) = true := decide_eq_true c36
            clear c36
            have H' := ka H
            clear H
            have hnb37 := NB623_613.out
            have hnc37 := NB613_623.out
            have hcz38 := blkAll5 BK623.out
            have p625 : 0 ≤ (x11_3 : Int) := of_decide_eq_true (by first | (with_reducible assumption) | assumption)
            have q625 : x11_3 < (t619.length : Int) := of_decide_eq_true (by first | (with_reducible assumption) | assumption)
            obtain ⟨ad625, e625, hx625_0⟩ := Kd.at_int (Kd.R_reads' HO_624004.out).2.2 x11_3 p625 q625
            cases e625
            replace p625 := eq_true p625
            replace q625 := eq_true q625
            go_wp2
            go_roundg k3
            case measure => have := HJ4.out; have := HJ20.out; have := HK3.out; omega
            case rel => exact ⟨(wrap64 (x10_3 + (rd t619 x11_3))), (wrap64 (x11_3 + 1)), (by first | rfl | (simp; done) | (simp [*]; done)), (by first | rfl | (simp; done) | (simp [*]; done)), H', ⟨by have := HJ4.out; have := HJ20.out; have := HK3.out; omega⟩, ⟨kr HO_624004.out⟩, ⟨by (with_reducible repeat (first | apply kb1 | apply kb2 | apply kb3)); exact BK613.out⟩, ⟨by (with_reducible repeat (first | apply kb1 | apply kb2 | apply kb3)); exact BK623.out⟩, ⟨by repeat (first | (with_reducible first | exact HB.out | apply kc1 | apply kc2 | apply kc3 | refine kc4 ?_ GE613.out | refine kc4 ?_ GE623.out) | exact HB.out)⟩⟩
           ·rw [if_neg c36] at H
            exact absurd H (by simp)
          ·rw [if_neg c35] at H
           exact absurd H (by simp)
         ·rw [if_neg c34] at H
          have c34b0 : decide (x11_3 < 12) = false := decide_eq_false c34
          clear c34
          by_cases c39 : a2 = true
          ·subst c39
           have H1 : (if a1 ≥ 5000 then (if t614 = true then (if t618 = a1 then (some (x10_3 == 0)) else (none)) else (none)) else (if t614 = true then (if t618 = 0 then (some (x10_3 == (wrap64 (-a1)))) else (none)) else (none))) = some r := by rw [if_pos rfl] at H; exact H
           clear H
           have H := H1
           clear H1
           by_cases c40 : a1 ≥ 5000
           ·rw [if_pos c40] at H
            have c40b0 : decide (5000 ≤ a1) = true := decide_eq_true c40
            clear c40
            by_cases c41 : t614 = true
            ·subst c41
             have H1 : (if t618 = a1 then (some (x10_3 == 0)) else (none)) = some r := by rw [if_pos rfl] at H; exact H
             clear H
             have H := H1
             clear H1
             by_cases c42 : t618 = a1
             ·rw [if_pos c42] at H
              have c42b0 : (t618 == a1) = true := beq_iff_eq.mpr c42
              have c42b1 : (t618 != a1) = false := bne_eq_false_iff_eq.mpr c42
              clear c42
              obtain rfl := Option.some.inj H
              have hnb43 := NB623_613.out
              have hnc43 := NB613_623.out
              have hcz44 := blkAll5 BK623.out
              go_wp2
              go_ret
              exact ⟨by first | rfl | (simp [errW_none, errW_some] <;> rfl) | (simp [*, errW_none, errW_some] <;> rfl), by repeat (first | (with_reducible first | exact HB.out | apply kc1 | apply kc2 | apply kc3 | refine kc4 ?_ GE613.out | refine kc4 ?_ GE623.out) | exact HB.out)⟩
             ·rw [if_neg c42] at H
              exact absurd H (by simp)
            ·replace c41 := Bool.eq_false_iff.mpr c41
             subst c41
             have H1 : (none) = some r := by rw [if_neg (show ¬ (false = true) by decide)] at H; exact H
             clear H
             have H := H1
             clear H1
             exact absurd H (by simp)
           ·rw [if_neg c40] at H
            have c40b0 : decide (5000 ≤ a1) = false := decide_eq_false c40
            clear c40
            by_cases c45 : t614 = true
            ·subst c45
             have H1 : (if t618 = 0 then (some (x10_3 == (wrap64 (-a1)))) else (none)) = some r := by rw [if_pos rfl] at H; exact H
             clear H
             have H := H1
             clear H1
             by_cases c46 : t618 = 0
             ·rw [if_pos c46] at H
              have c46b0 : (t618 == 0) = true := beq_iff_eq.mpr c46
              have c46b1 : (t618 != 0) = false := bne_eq_false_iff_eq.mpr c46
              clear c46
              obtain rfl := Option.some.inj H
              have hnb47 := NB623_613.out
              have hnc47 := NB613_623.out
              have hcz48 := blkAll5 BK623.out
              go_wp2
              go_ret
              exact ⟨by first | rfl | (simp [errW_none, errW_some] <;> rfl) | (simp [*, errW_none, errW_some] <;> rfl), by repeat (first | (with_reducible first | exact HB.out | apply kc1 | apply kc2 | apply kc3 | refine kc4 ?_ GE613.out | refine kc4 ?_ GE623.out) | exact HB.out)⟩
             ·rw [if_neg c46] at H
              exact absurd H (by simp)
            ·replace c45 := Bool.eq_false_iff.mpr c45
             subst c45
             have H1 : (none) = some r := by rw [if_neg (show ¬ (false = true) by decide)] at H; exact H
             clear H
             have H := H1
             clear H1
             exact absurd H (by simp)
          ·replace c39 := Bool.eq_false_iff.mpr c39
           subst c39
           have H1 : (if t614 = true then (if t618 = 0 then (some (x10_3 == (wrap64 (-a1)))) else (none)) else (none)) = some r := by rw [if_neg (show ¬ (false = true) by decide)] at H; exact H
           clear H
           have H := H1
           clear H1
           by_cases c49 : t614 = true
           ·subst c49
            have H1 : (if t618 = 0 then (some (x10_3 == (wrap64 (-a1)))) else (none)) = some r := by rw [if_pos rfl] at H; exact H
            clear H
            have H := H1
            clear H1
            by_cases c50 : t618 = 0
            ·rw [if_pos c50] at H
             have c50b0 : (t618 == 0) = true := beq_iff_eq.mpr c50
             have c50b1 : (t618 != 0) = false := bne_eq_false_iff_eq.mpr c50
             clear c50
             obtain rfl := Option.some.inj H
             have hnb51 := NB623_613.out
             have hnc51 := NB613_623.out
             have hcz52 := blkAll5 BK623.out
             go_wp2
             go_ret
             exact ⟨by first | rfl | (simp [errW_none, errW_some] <;> rfl) | (simp [*, errW_none, errW_some] <;> rfl), by repeat (first | (with_reducible first | exact HB.out | apply kc1 | apply kc2 | apply kc3 | refine kc4 ?_ GE613.out | refine kc4 ?_ GE623.out) | exact HB.out)⟩
            ·rw [if_neg c50] at H
             exact absurd H (by simp)
           ·replace c49 := Bool.eq_false_iff.mpr c49
            subst c49
            have H1 : (none) = some r := by rw [if_neg (show ¬ (false = true) by decide)] at H; exact H
            clear H
            have H := H1
            clear H1
            exact absurd H (by simp)

/-- THE ONE PURE STATEMENT of trivetlaw16_SpreadRefunds: yours. -/
def trivetlaw16_SpreadRefunds.Pure : Prop := ∀ (a0_0 : Int) (a0_1 : Int) (a0_2 : Int) (a0_3 : Int) (a0_4 : Int) (l0_5 : List Int) (a1 : Int) (a2 : Bool), (Lit.int .i64 a0_0).wf = true → (Lit.int .i64 a0_1).wf = true → (Lit.int .i64 a0_2).wf = true → (Lit.int .i64 a0_3).wf = true → (Lit.int .i64 a0_4).wf = true → l0_5.length ≤ maxLen → l0_5.length * 8 ≤ 140737488351232 → (∀ x ∈ l0_5, (Lit.int .i64 x).wf = true) → (Lit.int .i64 a1).wf = true → ∃ k, trivetlaw16_SpreadRefunds.f k a0_0 a0_1 a0_2 a0_3 a0_4 l0_5 a1 a2 = some true
theorem trivetlaw16_SpreadRefunds.walk (P : trivetlaw16_SpreadRefunds.Pure) (a0_0 : Int) (a0_1 : Int) (a0_2 : Int) (a0_3 : Int) (a0_4 : Int) (a0_5 : Option Addr) (len0_5 cap0_5 : Nat) (z0_5 : List Int) (a1 : Int) (a2 : Bool) (w : World) (w0_0 : (Lit.int .i64 a0_0).wf = true) (w0_1 : (Lit.int .i64 a0_1).wf = true) (w0_2 : (Lit.int .i64 a0_2).wf = true) (w0_3 : (Lit.int .i64 a0_3).wf = true) (w0_4 : (Lit.int .i64 a0_4).wf = true) (w0_5 : (a0_5 = none ∧ len0_5 = 0 ∧ cap0_5 = 0 ∧ z0_5 = []) ∨ ∃ x, a0_5 = some x ∧ len0_5 ≤ cap0_5 ∧ cap0_5 ≤ maxLen ∧ z0_5.length = cap0_5 ∧ (∀ i, i < z0_5.length → w.cell? (x.add i) = some (.int .i64 (z0_5.getD i 0))) ∧ ∀ n ∈ z0_5, (Lit.int .i64 n).wf = true) (y0_5 : len0_5 * 8 ≤ 140737488351232) (w1 : (Lit.int .i64 a1).wf = true) :
  Calls Try.prog 7 #[.agg #[.int .i64 a0_0, .int .i64 a0_1, .int .i64 a0_2, .int .i64 a0_3, .int .i64 a0_4, .slice a0_5 len0_5 cap0_5], .int .i64 a1, .bool a2] w fun e w' => e = .returned (.bool true) ∧ Below w.heap.size w w' := by
 obtain ⟨l0_5, rfl, hr0_5, hm0_5, hw0_5, hc0_5⟩ := ReadsInt.ofRowC w0_5
 obtain ⟨k, h⟩ := P a0_0 a0_1 a0_2 a0_3 a0_4 l0_5 a1 a2 w0_0 w0_1 w0_2 w0_3 w0_4 hm0_5 y0_5 hw0_5 w1
 refine (trivetlaw16_SpreadRefunds.calls k a0_0 a0_1 a0_2 a0_3 a0_4 _ _ l0_5 a1 a2 true w (Kd.C_of_reads (d := (0 : Int)) (h1 := fun _ => rfl) hr0_5) hc0_5 h).mono ?_
 rintro e w' ⟨rfl, hd⟩
 exact ⟨rfl, hd⟩

end Go.Proofs.Ytjeghhheenenbaa.P
