-- Written by a program of this session out of the translation of the seat: Lean functions and the proofs that the Go functions come to them.
import Derived.Test.YtmkfbaoglmmhjaaPx0
import Derived.Test.YtmkfbaoglmmhjaaPx1
namespace Go.Proofs.Ytmkfbaoglmmhjaa.P
open Go.RowKit Go.Proofs.YtmkfbaoglmmhjaaW.PrintWords Go.Proofs.YtmkfbaoglmmhjaaW.PrintLast Go.Proofs.YtmkfbaoglmmhjaaW.PrintMore
attribute [local go_sem] max2_int min2_int max_two min_two max_three min_three max_four min_four   -- for this text's walks alone
set_option linter.unusedVariables false
set_option linter.unusedSimpArgs false

/-! ### date_Months: function 22 -/
def date_Months.j0 : Nat → Int → Bool → Int → Int → Int → Option (Int × Int × Int × Option Int)
 | 0, _, _, _, _, _ => none
 | k + 1, x1, x23, x404000, x404001, x404002 => if x23 = true then (some (0, 0, 0, some 1)) else ((date_Days.f (wrap64 (Int.tdiv (wrap64 ((wrap64 ((wrap64 ((wrap64 (x404000 * 12)) + x404001)) - 1)) + x1)) 12)) (wrap64 ((Int.tmod (wrap64 ((wrap64 ((wrap64 ((wrap64 (x404000 * 12)) + x404001)) - 1)) + x1)) 12) + 1))).bind fun t407 => (if t407 = 0 then (some (0, 0, 0, some 1)) else (some (wrap64 (Int.tdiv (wrap64 ((wrap64 ((wrap64 ((wrap64 (x404000 * 12)) + x404001)) - 1)) + x1)) 12), wrap64 ((Int.tmod (wrap64 ((wrap64 ((wrap64 ((wrap64 (x404000 * 12)) + x404001)) - 1)) + x1)) 12) + 1), mn x404002 t407, none))))
def date_Months.f (k : Nat) (a0_0 : Int) (a0_1 : Int) (a0_2 : Int) (a1 : Int) : Option (Int × Int × Int × Option Int) := (date_May_s.f a0_0 a0_1 a0_2).bind fun t405 => (if t405 = true then (if a1 < (-3600) then (date_Months.j0 k a1 true a0_0 a0_1 a0_2) else (date_Months.j0 k a1 (decide (a1 > 3600)) a0_0 a0_1 a0_2)) else (some (0, 0, 0, some 2)))
theorem date_Months.mono_l : ∀ k, (∀ y0 y1 y2 y3 y4, LeO (date_Months.j0 k y0 y1 y2 y3 y4) (date_Months.j0 (k + 1) y0 y1 y2 y3 y4))
 | 0 => fun _ _ _ _ _ r h => by simp [date_Months.j0] at h
 | k + 1 => by
  have ih0 := date_Months.mono_l k
  ·intro y0 y1 y2 y3 y4
   unfold date_Months.j0
   repeat' first
   | (with_reducible exact ih0 _ _ _ _ _)
   | (with_reducible exact LeO.refl _)
   | (with_reducible exact LeO.none _)
   | (with_reducible refine LeO.ite ?_ ?_)
   | (with_reducible refine LeO.bind ?_ (fun _ => ?_))
   | exact ih0 _ _ _ _ _
   | exact LeO.none _
   | refine LeO.ite ?_ ?_
   | refine LeO.bind ?_ (fun _ => ?_)
theorem date_Months.mono : ∀ a0 a1 a2 a3 k, LeO (date_Months.f k a0 a1 a2 a3) (date_Months.f (k + 1) a0 a1 a2 a3) := by
 intro a0 a1 a2 a3 k
 have ih0 := date_Months.mono_l k
 unfold date_Months.f
 repeat' first
   | (with_reducible exact ih0 _ _ _ _ _)
   | (with_reducible exact LeO.refl _)
   | (with_reducible exact LeO.none _)
   | (with_reducible refine LeO.ite ?_ ?_)
   | (with_reducible refine LeO.bind ?_ (fun _ => ?_))
   | exact ih0 _ _ _ _ _
   | exact LeO.none _
   | refine LeO.ite ?_ ?_
   | refine LeO.bind ?_ (fun _ => ?_)
set_option maxHeartbeats 8000000 in
set_option maxRecDepth 100000 in
theorem date_Months.calls (k : Nat) (a0_0 : Int) (a0_1 : Int) (a0_2 : Int) (a1 : Int) (r1 : Int) (r2 : Int) (r3 : Int) (r4 : Option Int) (w : World) (h : date_Months.f k a0_0 a0_1 a0_2 a1 = some (r1, r2, r3, r4)) :
  Calls Try.prog 22 #[.agg #[.int .i64 a0_0, .int .i64 a0_1, .int .i64 a0_2], .int .i64 a1] w fun e w' => e = .returned (.tuple #[.agg #[.int .i64 r1, .int .i64 r2, .int .i64 r3], errW r4]) ∧ Below w.heap.size w w' := by
 have hu30 := Try.underlying30
 have hu26 := Try.underlying26
 have hu35 := Try.underlying35
 have HB := ka (Below.refl w.heap.size w)
 have H : ((date_May_s.f a0_0 a0_1 a0_2).bind fun t405 => (if t405 = true then (if a1 < (-3600) then (date_Months.j0 k a1 true a0_0 a0_1 a0_2) else (date_Months.j0 k a1 (decide (a1 > 3600)) a0_0 a0_1 a0_2)) else (some (0, 0, 0, some 2)))) = some (r1, r2, r3, r4) := h
 clear h
 replace H := Option.bind_eq_some_iff.mp H
 obtain ⟨t405, A30, H⟩ := H
 replace H : (if t405 = true then (if a1 < (-3600) then (date_Months.j0 k a1 true a0_0 a0_1 a0_2) else (date_Months.j0 k a1 (decide (a1 > 3600)) a0_0 a0_1 a0_2)) else (some (0, 0, 0, some 2))) = some (r1, r2, r3, r4) := H
 have A3 := ka A30
 clear A30
 by_cases c4 : t405 = true
 ·subst c4
  have H1 : (if a1 < (-3600) then (date_Months.j0 k a1 true a0_0 a0_1 a0_2) else (date_Months.j0 k a1 (decide (a1 > 3600)) a0_0 a0_1 a0_2)) = some (r1, r2, r3, r4) := by rw [if_pos rfl] at H; exact H
  clear H
  have H := H1
  clear H1
  have HC5 := ka H
  clear H
  go_enter Try.func22, Try.ntmps22
  go_upto_region 4 with (first | ((with_reducible refine gate_dst (N := 2) rfl ?_); refine kx (N := 2) (cs := #[.int .i64 a0_0, .int .i64 a0_1, .int .i64 a0_2]) (t := 30) ?_; intro gb403 hg w6 hbox hb; have n0_ := ka (below_step (kw HB.out) hb); have n1_ := ka (hbox); have n2_ := ka ((by rw [hg]; exact (below_size (kw HB.out)) : w.heap.size ≤ gb403)); have n3_ := n2_; clear HB; have HB := n0_; have BK403 := n1_; have GW403 := n2_; have GE403 := n3_; clear n0_ n1_ n2_ n3_; clear hb hbox hg) | ((with_reducible refine gate_dst (N := 4) rfl ?_); refine kx (N := 4) (cs := #[.int .i64 0, .int .i64 0, .int .i64 0]) (t := 30) ?_; intro gb404 hg w7 hbox hb; have n0_ := ka (blk_below (g := gb403) (kz BK403.out) hb); have n1_ := ka (below_step (kw HB.out) hb); have n2_ := ka (hbox); have n3_ := ka ((by rw [hg]; exact (below_size (kw HB.out)) : w.heap.size ≤ gb404)); have n4_ := n3_; have n5_ := ka ((by rw [hg]; exact Nat.ne_of_lt (blk_lt (g := gb403) (kz BK403.out)) : gb403 ≠ gb404)); have n6_ := ka n5_.out.symm; clear BK403; clear HB; have BK403 := n0_; have HB := n1_; have BK404 := n2_; have GW404 := n3_; have GE404 := n4_; have NB403_404 := n5_; have NB404_403 := n6_; clear n0_ n1_ n2_ n3_ n4_ n5_ n6_; clear hb hbox hg; have hnb8 := NB403_404.out; have hnc8 := NB404_403.out; have hcz9 := blkAll3 BK403.out) | ((with_reducible refine gate_callee (f := 33) rfl ?_); refine kg (some 12) rfl rfl Try.func33 (by kernel_rfl) rfl #[.agg #[.int .i64 a0_0, .int .i64 a0_1, .int .i64 a0_2]] rfl ?_; (with_reducible refine (date_May_s.calls a0_0 a0_1 a0_2 true _ A3.out).mono ?_); rintro e w10 ⟨rfl, hb⟩; refine ⟨_, rfl, ?_⟩; replace BK403 := kbb BK403 hb; replace BK404 := kbb BK404 hb; replace HB := ka (below_step (kw HB.out) hb); (try clear hb); (try clear hb2); (try clear hk); (try clear hi)))
  (try simp only [Act.put, List.setIfInBounds_toArray, List.set_cons_zero, List.set_cons_succ])
  go_cut [23] (fun v23 wc => ∃ (kq : Nat) (x23_4 : Bool), v23 = .bool x23_4 ∧ Aside0 (date_Months.j0 kq a1 x23_4 a0_0 a0_1 a0_2 = some (r1, r2, r3, r4)) ∧ Aside0 (kq ≤ k) ∧ Aside0 (wc.heap[gb403]? = some (.cells #[.int .i64 a0_0, .int .i64 a0_1, .int .i64 a0_2] 30 (0, 0))) ∧ Aside0 (wc.heap[gb404]? = some (.cells #[.int .i64 0, .int .i64 0, .int .i64 0] 30 (0, 0))) ∧ Aside0 (Below w.heap.size w wc))
  case first =>
   have H := HC5.out
   clear HC5
   by_cases c11 : a1 < (-3600)
   ·rw [if_pos c11] at H
    have c11b0 : decide (a1 < (-3600)) = true := decide_eq_true c11
    clear c11
    (first | rw [c11b0] | (simp only [i64_w, i32_w]; rw [c11b0]) | skip)
    have H' := ka H
    clear H
    go_wp2
    go_meet
    case rel => exact ⟨_, (true), (by first | rfl | (simp; done) | (simp [*]; done)), H', ⟨by first | omega | exact Nat.le_refl _⟩, ⟨by (with_reducible repeat (first | apply kb1 | apply kb2 | apply kb3)); exact BK403.out⟩, ⟨by (with_reducible repeat (first | apply kb1 | apply kb2 | apply kb3)); exact BK404.out⟩, ⟨by repeat (first | (with_reducible first | exact HB.out | apply kc1 | apply kc2 | apply kc3 | refine kc4 ?_ GE403.out | refine kc4 ?_ GE404.out) | exact HB.out)⟩⟩
   ·rw [if_neg c11] at H
    have c11b0 : decide (a1 < (-3600)) = false := decide_eq_false c11
    clear c11
    (first | rw [c11b0] | (simp only [i64_w, i32_w]; rw [c11b0]) | skip)
    have H' := ka H
    clear H
    go_wp2
    go_meet
    case rel => exact ⟨_, (decide (a1 > 3600)), (by first | rfl | (simp; done) | (simp [*]; done)), H', ⟨by first | omega | exact Nat.le_refl _⟩, ⟨by (with_reducible repeat (first | apply kb1 | apply kb2 | apply kb3)); exact BK403.out⟩, ⟨by (with_reducible repeat (first | apply kb1 | apply kb2 | apply kb3)); exact BK404.out⟩, ⟨by repeat (first | (with_reducible first | exact HB.out | apply kc1 | apply kc2 | apply kc3 | refine kc4 ?_ GE403.out | refine kc4 ?_ GE404.out) | exact HB.out)⟩⟩
  case rest =>
   clear HC5
   try clear c1
   try clear c2
   try clear p2
   try clear c3
   try clear c4
   try clear c8
   try clear c11
   try clear c11b0
   try clear hcz9
   obtain ⟨kq, x23_4, rfl, HA, HJ4, BK403, BK404, HB⟩ := hcut
   cases kq with
   | zero => exact absurd HA.out (by simp [date_Months.j0])
   | succ kj4 =>
    have H := HA.out
    clear HA
    simp only [date_Months.j0] at H
    by_cases c12 : x23_4 = true
    ·subst c12
     have H1 : (some (0, 0, 0, some 1)) = some (r1, r2, r3, r4) := by rw [if_pos rfl] at H; exact H
     clear H
     have H := H1
     clear H1
     simp only [Option.some.injEq, Prod.mk.injEq] at H
     obtain ⟨rfl, rfl, rfl, rfl⟩ := H
     have hnb13 := NB404_403.out
     have hnc13 := NB403_404.out
     have hcz14 := blkAll3 BK404.out
     go_wp2
     refine bodyPost_ret (results_ct rfl _ _ gb404 30 #[.int .i64 0, .int .i64 0, .int .i64 0] (0, 0) _ rfl (by (with_reducible repeat (first | apply kb1 | apply kb2 | apply kb3 | apply blkPut3_2 | apply blkPut3_1 | apply blkPut3_0)); exact BK404.out) Try.underlying30 rfl (by kernel_rfl)) rfl ?_
     exact ⟨by first | rfl | (simp [errW_none, errW_some] <;> rfl) | (simp [*, errW_none, errW_some] <;> rfl), by repeat (first | (with_reducible first | exact HB.out | apply kc1 | apply kc2 | apply kc3 | refine kc4 ?_ GE403.out | refine kc4 ?_ GE404.out) | exact HB.out)⟩
    ·replace c12 := Bool.eq_false_iff.mpr c12
     subst c12
     have H1 : ((date_Days.f (wrap64 (Int.tdiv (wrap64 ((wrap64 ((wrap64 ((wrap64 (a0_0 * 12)) + a0_1)) - 1)) + a1)) 12)) (wrap64 ((Int.tmod (wrap64 ((wrap64 ((wrap64 ((wrap64 (a0_0 * 12)) + a0_1)) - 1)) + a1)) 12) + 1))).bind fun t407 => (if t407 = 0 then (some (0, 0, 0, some 1)) else (some (wrap64 (Int.tdiv (wrap64 ((wrap64 ((wrap64 ((wrap64 (a0_0 * 12)) + a0_1)) - 1)) + a1)) 12), wrap64 ((Int.tmod (wrap64 ((wrap64 ((wrap64 ((wrap64 (a0_0 * 12)) + a0_1)) - 1)) + a1)) 12) + 1), mn a0_2 t407, none)))) = some (r1, r2, r3, r4) := by rw [if_neg (show ¬ (false = true) by decide)] at H; exact H
     clear H
     have H := H1
     clear H1
     replace H := Option.bind_eq_some_iff.mp H
     obtain ⟨t407, A150, H⟩ := H
     replace H : (if t407 = 0 then (some (0, 0, 0, some 1)) else (some (wrap64 (Int.tdiv (wrap64 ((wrap64 ((wrap64 ((wrap64 (a0_0 * 12)) + a0_1)) - 1)) + a1)) 12), wrap64 ((Int.tmod (wrap64 ((wrap64 ((wrap64 ((wrap64 (a0_0 * 12)) + a0_1)) - 1)) + a1)) 12) + 1), mn a0_2 t407, none))) = some (r1, r2, r3, r4) := H
     have A15 := ka A150
     clear A150
     by_cases c16 : t407 = 0
     ·rw [if_pos c16] at H
      have c16b0 : (t407 == 0) = true := beq_iff_eq.mpr c16
      have c16b1 : (t407 != 0) = false := bne_eq_false_iff_eq.mpr c16
      clear c16
      simp only [Option.some.injEq, Prod.mk.injEq] at H
      obtain ⟨rfl, rfl, rfl, rfl⟩ := H
      have hnb17 := NB403_404.out
      have hnc17 := NB404_403.out
      have hcz18 := blkAll3 BK403.out
      go_wp2_with (first | ((with_reducible refine gate_dst (N := 9) rfl ?_); refine kx (N := 9) (cs := #[.int .i64 0, .int .i64 0, .int .i64 0]) (t := 30) ?_; intro gb406 hg w19 hbox hb; have n0_ := ka (blk_below (g := gb403) (kz BK403.out) hb); have n1_ := ka (blk_below (g := gb404) (kz BK404.out) hb); have n2_ := ka (below_step (kw HB.out) hb); have n3_ := ka (hbox); have n4_ := ka ((by rw [hg]; exact (below_size (kw HB.out)) : w.heap.size ≤ gb406)); have n5_ := n4_; have n6_ := ka ((by rw [hg]; exact Nat.ne_of_lt (blk_lt (g := gb403) (kz BK403.out)) : gb403 ≠ gb406)); have n7_ := ka n6_.out.symm; have n8_ := ka ((by rw [hg]; exact Nat.ne_of_lt (blk_lt (g := gb404) (kz BK404.out)) : gb404 ≠ gb406)); have n9_ := ka n8_.out.symm; clear BK403; clear BK404; clear HB; have BK403 := n0_; have BK404 := n1_; have HB := n2_; have BK406 := n3_; have GW406 := n4_; have GE406 := n5_; have NB403_406 := n6_; have NB406_403 := n7_; have NB404_406 := n8_; have NB406_404 := n9_; clear n0_ n1_ n2_ n3_ n4_ n5_ n6_ n7_ n8_ n9_; clear hb hbox hg; have hnb20 := NB406_403.out; have hnc20 := NB403_406.out; have hnb21 := NB406_404.out; have hnc21 := NB404_406.out; have hcz22 := blkAll3 BK406.out) | ((with_reducible refine gate_callee (f := 34) rfl ?_); refine kg (some 45) rfl rfl Try.func34 (by kernel_rfl) rfl #[.int .i64 (wrap64 (Int.tdiv (wrap64 ((wrap64 ((wrap64 ((wrap64 (a0_0 * 12)) + a0_1)) - 1)) + a1)) 12)), .int .i64 (wrap64 ((Int.tmod (wrap64 ((wrap64 ((wrap64 ((wrap64 (a0_0 * 12)) + a0_1)) - 1)) + a1)) 12) + 1))] rfl ?_; (with_reducible refine (date_Days.calls (wrap64 (Int.tdiv (wrap64 ((wrap64 ((wrap64 ((wrap64 (a0_0 * 12)) + a0_1)) - 1)) + a1)) 12)) (wrap64 ((Int.tmod (wrap64 ((wrap64 ((wrap64 ((wrap64 (a0_0 * 12)) + a0_1)) - 1)) + a1)) 12) + 1)) t407 _ A15.out).mono ?_); rintro e w23 ⟨rfl, hb⟩; refine ⟨_, rfl, ?_⟩; replace BK403 := ka (blk_below (g := gb403) (o := .cells #[.int .i64 a0_0, .int .i64 a0_1, .int .i64 a0_2] 30 (0, 0)) (by (with_reducible repeat (first | apply kb1 | apply kb2 | apply kb3 | refine kb4 ?_ NB403_406.out _)); exact BK403.out) hb); replace BK404 := ka (blk_below (g := gb404) (o := .cells #[.int .i64 0, .int .i64 0, .int .i64 0] 30 (0, 0)) (by (with_reducible repeat (first | apply kb1 | apply kb2 | apply kb3 | refine kb4 ?_ NB404_406.out _)); exact BK404.out) hb); replace BK406 := ka (blk_below (g := gb406) (o := .cells #[.int .i64 (wrap64 (Int.tdiv (wrap64 ((wrap64 ((wrap64 ((wrap64 (a0_0 * 12)) + a0_1)) - 1)) + a1)) 12)), .int .i64 (wrap64 ((Int.tmod (wrap64 ((wrap64 ((wrap64 ((wrap64 (a0_0 * 12)) + a0_1)) - 1)) + a1)) 12) + 1)), .int .i64 0] 30 (0, 0)) (by (with_reducible repeat (first | apply kb1 | apply kb2 | apply kb3 | apply blkPut3_2 | apply blkPut3_1 | apply blkPut3_0)); exact BK406.out) hb); replace HB := ka (below_step (kw HB.out) hb); (try clear hb); (try clear hb2); (try clear hk); (try clear hi); have hcz24 := blkAll3 BK404.out))
      refine bodyPost_ret (results_ct rfl _ _ gb404 30 #[.int .i64 0, .int .i64 0, .int .i64 0] (0, 0) _ rfl (by (with_reducible repeat (first | apply kb1 | apply kb2 | apply kb3 | apply blkPut3_2 | apply blkPut3_1 | apply blkPut3_0)); exact BK404.out) Try.underlying30 rfl (by kernel_rfl)) rfl ?_
      exact ⟨by first | rfl | (simp [errW_none, errW_some] <;> rfl) | (simp [*, errW_none, errW_some] <;> rfl), by repeat (first | (with_reducible first | exact HB.out | apply kc1 | apply kc2 | apply kc3 | refine kc4 ?_ GE403.out | refine kc4 ?_ GE404.out | refine kc4 ?_ GE406.out) | exact HB.out)⟩
     ·rw [if_neg c16] at H
      have c16b0 : (t407 == 0) = false := beq_eq_false_iff_ne.mpr c16
      have c16b1 : (t407 != 0) = true := bne_iff_ne.mpr c16
      obtain ⟨ji25, hji25⟩ : ∃ j_ : Int, (mn a0_2 t407) = j_ := ⟨_, rfl⟩
      replace H : (some (wrap64 (Int.tdiv (wrap64 ((wrap64 ((wrap64 ((wrap64 (a0_0 * 12)) + a0_1)) - 1)) + a1)) 12), wrap64 ((Int.tmod (wrap64 ((wrap64 ((wrap64 ((wrap64 (a0_0 * 12)) + a0_1)) - 1)) + a1)) 12) + 1), ji25, none)) = some (r1, r2, r3, r4) := by first | (rw [hji25] at H; exact H) | (simp only [hji25] at H ⊢; exact H)
      (try rw [hji25] at A15)
      have hji25_ : (if t407 < a0_2 then t407 else a0_2) = ji25 := hji25
      simp only [Option.some.injEq, Prod.mk.injEq] at H
      obtain ⟨rfl, rfl, rfl, rfl⟩ := H
      have hnb26 := NB403_404.out
      have hnc26 := NB404_403.out
      have hcz27 := blkAll3 BK403.out
      go_wp2_with (first | ((with_reducible refine gate_dst (N := 9) rfl ?_); refine kx (N := 9) (cs := #[.int .i64 0, .int .i64 0, .int .i64 0]) (t := 30) ?_; intro gb406 hg w28 hbox hb; have n0_ := ka (blk_below (g := gb403) (kz BK403.out) hb); have n1_ := ka (blk_below (g := gb404) (kz BK404.out) hb); have n2_ := ka (below_step (kw HB.out) hb); have n3_ := ka (hbox); have n4_ := ka ((by rw [hg]; exact (below_size (kw HB.out)) : w.heap.size ≤ gb406)); have n5_ := n4_; have n6_ := ka ((by rw [hg]; exact Nat.ne_of_lt (blk_lt (g := gb403) (kz BK403.out)) : gb403 ≠ gb406)); have n7_ := ka n6_.out.symm; have n8_ := ka ((by rw [hg]; exact Nat.ne_of_lt (blk_lt (g := gb404) (kz BK404.out)) : gb404 ≠ gb406)); have n9_ := ka n8_.out.symm; clear BK403; clear BK404; clear HB; have BK403 := n0_; have BK404 := n1_; have HB := n2_; have BK406 := n3_; have GW406 := n4_; have GE406 := n5_; have NB403_406 := n6_; have NB406_403 := n7_; have NB404_406 := n8_; have NB406_404 := n9_; clear n0_ n1_ n2_ n3_ n4_ n5_ n6_ n7_ n8_ n9_; clear hb hbox hg; have hnb29 := NB406_403.out; have hnc29 := NB403_406.out; have hnb30 := NB406_404.out; have hnc30 := NB404_406.out; have hcz31 := blkAll3 BK406.out) | ((with_reducible refine gate_callee (f := 34) rfl ?_); refine kg (some 45) rfl rfl Try.func34 (by kernel_rfl) rfl #[.int .i64 (wrap64 (Int.tdiv (wrap64 ((wrap64 ((wrap64 ((wrap64 (a0_0 * 12)) + a0_1)) - 1)) + a1)) 12)), .int .i64 (wrap64 ((Int.tmod (wrap64 ((wrap64 ((wrap64 ((wrap64 (a0_0 * 12)) + a0_1)) - 1)) + a1)) 12) + 1))] rfl ?_; (with_reducible refine (date_Days.calls (wrap64 (Int.tdiv (wrap64 ((wrap64 ((wrap64 ((wrap64 (a0_0 * 12)) + a0_1)) - 1)) + a1)) 12)) (wrap64 ((Int.tmod (wrap64 ((wrap64 ((wrap64 ((wrap64 (a0_0 * 12)) + a0_1)) - 1)) + a1)) 12) + 1)) t407 _ A15.out).mono ?_); rintro e w32 ⟨rfl, hb⟩; refine ⟨_, rfl, ?_⟩; replace BK403 := ka (blk_below (g := gb403) (o := .cells #[.int .i64 a0_0, .int .i64 a0_1, .int .i64 a0_2] 30 (0, 0)) (by (with_reducible repeat (first | apply kb1 | apply kb2 | apply kb3 | refine kb4 ?_ NB403_406.out _)); exact BK403.out) hb); replace BK404 := ka (blk_below (g := gb404) (o := .cells #[.int .i64 0, .int .i64 0, .int .i64 0] 30 (0, 0)) (by (with_reducible repeat (first | apply kb1 | apply kb2 | apply kb3 | refine kb4 ?_ NB404_406.out _)); exact BK404.out) hb); replace BK406 := ka (blk_below (g := gb406) (o := .cells #[.int .i64 (wrap64 (Int.tdiv (wrap64 ((wrap64 ((wrap64 ((wrap64 (a0_0 * 12)) + a0_1)) - 1)) + a1)) 12)), .int .i64 (wrap64 ((Int.tmod (wrap64 ((wrap64 ((wrap64 ((wrap64 (a0_0 * 12)) + a0_1)) - 1)) + a1)) 12) + 1)), .int .i64 0] 30 (0, 0)) (by (with_reducible repeat (first | apply kb1 | apply kb2 | apply kb3 | apply blkPut3_2 | apply blkPut3_1 | apply blkPut3_0)); exact BK406.out) hb); replace HB := ka (below_step (kw HB.out) hb); (try clear hb); (try clear hb2); (try clear hk); (try clear hi); have hcz33 := blkAll3 BK403.out; have hcz34 := blkAll3 BK406.out; have hcz35 := blkAll3 BK404.out))
      refine bodyPost_ret (results_ct rfl _ _ gb404 30 #[.int .i64 (wrap64 (Int.tdiv (wrap64 ((wrap64 ((wrap64 ((wrap64 (a0_0 * 12)) + a0_1)) - 1)) + a1)) 12)), .int .i64 (wrap64 ((Int.tmod (wrap64 ((wrap64 ((wrap64 ((wrap64 (a0_0 * 12)) + a0_1)) - 1)) + a1)) 12) + 1)), .int .i64 ji25] (0, 0) _ rfl (by (with_reducible repeat (first | apply kb1 | apply kb2 | apply kb3 | apply blkPut3_2 | apply blkPut3_1 | apply blkPut3_0 | refine kb4 ?_ NB404_406.out _)); exact BK404.out) Try.underlying30 rfl (by kernel_rfl)) rfl ?_
      exact ⟨by first | rfl | (simp [errW_none, errW_some] <;> rfl) | (simp only [← hji25]; first | rfl | (simp [errW_none, errW_some] <;> rfl)) | (simp [*, errW_none, errW_some] <;> rfl), by repeat (first | (with_reducible first | exact HB.out | apply kc1 | apply kc2 | apply kc3 | refine kc4 ?_ GE403.out | refine kc4 ?_ GE404.out | refine kc4 ?_ GE406.out) | exact HB.out)⟩
 ·replace c4 := Bool.eq_false_iff.mpr c4
  subst c4
  have H1 : (some (0, 0, 0, some 2)) = some (r1, r2, r3, r4) := by rw [if_neg (show ¬ (false = true) by decide)] at H; exact H
  clear H
  have H := H1
  clear H1
  simp only [Option.some.injEq, Prod.mk.injEq] at H
  obtain ⟨rfl, rfl, rfl, rfl⟩ := H
  go_enter Try.func22, Try.ntmps22
  go_wp2_with (first | ((with_reducible refine gate_dst (N := 2) rfl ?_); refine kx (N := 2) (cs := #[.int .i64 a0_0, .int .i64 a0_1, .int .i64 a0_2]) (t := 30) ?_; intro gb403 hg w36 hbox hb; have n0_ := ka (below_step (kw HB.out) hb); have n1_ := ka (hbox); have n2_ := ka ((by rw [hg]; exact (below_size (kw HB.out)) : w.heap.size ≤ gb403)); have n3_ := n2_; clear HB; have HB := n0_; have BK403 := n1_; have GW403 := n2_; have GE403 := n3_; clear n0_ n1_ n2_ n3_; clear hb hbox hg) | ((with_reducible refine gate_dst (N := 4) rfl ?_); refine kx (N := 4) (cs := #[.int .i64 0, .int .i64 0, .int .i64 0]) (t := 30) ?_; intro gb404 hg w37 hbox hb; have n0_ := ka (blk_below (g := gb403) (kz BK403.out) hb); have n1_ := ka (below_step (kw HB.out) hb); have n2_ := ka (hbox); have n3_ := ka ((by rw [hg]; exact (below_size (kw HB.out)) : w.heap.size ≤ gb404)); have n4_ := n3_; have n5_ := ka ((by rw [hg]; exact Nat.ne_of_lt (blk_lt (g := gb403) (kz BK403.out)) : gb403 ≠ gb404)); have n6_ := ka n5_.out.symm; clear BK403; clear HB; have BK403 := n0_; have HB := n1_; have BK404 := n2_; have GW404 := n3_; have GE404 := n4_; have NB403_404 := n5_; have NB404_403 := n6_; clear n0_ n1_ n2_ n3_ n4_ n5_ n6_; clear hb hbox hg; have hnb38 := NB403_404.out; have hnc38 := NB404_403.out; have hcz39 := blkAll3 BK403.out) | ((with_reducible refine gate_callee (f := 33) rfl ?_); refine kg (some 12) rfl rfl Try.func33 (by kernel_rfl) rfl #[.agg #[.int .i64 a0_0, .int .i64 a0_1, .int .i64 a0_2]] rfl ?_; (with_reducible refine (date_May_s.calls a0_0 a0_1 a0_2 false _ A3.out).mono ?_); rintro e w40 ⟨rfl, hb⟩; refine ⟨_, rfl, ?_⟩; replace BK403 := kbb BK403 hb; replace BK404 := kbb BK404 hb; replace HB := ka (below_step (kw HB.out) hb); (try clear hb); (try clear hb2); (try clear hk); (try clear hi); have hcz41 := blkAll3 BK404.out))
  refine bodyPost_ret (results_ct rfl _ _ gb404 30 #[.int .i64 0, .int .i64 0, .int .i64 0] (0, 0) _ rfl (by (with_reducible repeat (first | apply kb1 | apply kb2 | apply kb3 | apply blkPut3_2 | apply blkPut3_1 | apply blkPut3_0)); exact BK404.out) Try.underlying30 rfl (by kernel_rfl)) rfl ?_
  exact ⟨by first | rfl | (simp [errW_none, errW_some] <;> rfl) | (simp [*, errW_none, errW_some] <;> rfl), by repeat (first | (with_reducible first | exact HB.out | apply kc1 | apply kc2 | apply kc3 | refine kc4 ?_ GE403.out | refine kc4 ?_ GE404.out) | exact HB.out)⟩

/-! ### date_Months_s: function 22, told plainly -/
theorem date_Months.tells (y m d n : Int) (k : Nat) (hk : 1 ≤ k) : date_Months.f k y m d n =
  some (if M.date y m d then (if -3600 ≤ n ∧ n ≤ 3600 ∧ M.inYears (M.mt y m + n) then ((M.mt y m + n) / 12, (M.mt y m + n) % 12 + 1, M.cut d (M.len (M.mt y m + n)), none) else (0, 0, 0, some 1)) else (0, 0, 0, some 2)) := by
 obtain ⟨k, rfl⟩ : ∃ m, k = m + 1 := ⟨k - 1, by omega⟩
 unfold date_Months.f date_May_s.f
 rw [Option.bind_some]
 by_cases h : M.date y m d
 ·have a := M.date_in h
  rw [if_pos (decide_eq_true h), if_pos h]
  by_cases h1 : n < -3600
  ·rw [if_pos h1, if_neg (fun hh => by have := hh.1; omega)]
   simp [date_Months.j0]
  rw [if_neg h1]
  by_cases h2 : n > 3600
  ·rw [decide_eq_true h2, if_neg (fun hh => by have := hh.2.1; omega)]
   simp [date_Months.j0]
  rw [decide_eq_false h2]
  simp only [date_Months.j0]
  rw [if_neg (by decide)]
  have e : wrap64 (wrap64 (wrap64 (wrap64 (y * 12) + m) - 1) + n) = M.mt y m + n := by
   rw [M.w64_id (n := y * 12) (by omega) (by omega), M.w64_id (n := y * 12 + m) (by omega) (by omega), M.w64_id (n := y * 12 + m - 1) (by omega) (by omega), M.w64_id (n := y * 12 + m - 1 + n) (by omega) (by omega)]
   unfold M.mt
   omega
  have hb : 0 ≤ M.mt y m + n ∧ M.mt y m + n ≤ 100000 := by unfold M.mt; omega
  rw [e]
  generalize M.mt y m + n = t at *
  rw [M.tdivu hb.1, M.tmodu hb.1, M.w64_id (n := t / 12) (by omega) (by omega), M.w64_id (n := t % 12 + 1) (by omega) (by omega)]
  unfold date_Days.f
  rw [Option.bind_some]
  have hi := M.inYears_iff t
  by_cases hz : M.days (t / 12) (t % 12 + 1) = 0
  ·rw [if_pos hz, if_neg (fun hh => hi.mp hh.2.2 hz)]
  ·rw [if_neg hz, if_pos ⟨by omega, by omega, hi.mpr hz⟩]
   have : mn d (M.days (t / 12) (t % 12 + 1)) = M.cut d (M.len t) := by unfold mn M.cut M.len; split <;> split <;> omega
   rw [this]
 ·rw [if_neg (by simpa using h), if_neg h]
def date_Months_s.f (y m d n : Int) : Option (Int × Int × Int × Option Int) :=
 some (if M.date y m d then (if -3600 ≤ n ∧ n ≤ 3600 ∧ M.inYears (M.mt y m + n) then ((M.mt y m + n) / 12, (M.mt y m + n) % 12 + 1, M.cut d (M.len (M.mt y m + n)), none) else (0, 0, 0, some 1)) else (0, 0, 0, some 2))
theorem date_Months_s.calls (a0_0 : Int) (a0_1 : Int) (a0_2 : Int) (a1 : Int) (r1 : Int) (r2 : Int) (r3 : Int) (r4 : Option Int) (w : World) (h : date_Months_s.f a0_0 a0_1 a0_2 a1 = some (r1, r2, r3, r4)) :
  Calls Try.prog 22 #[.agg #[.int .i64 a0_0, .int .i64 a0_1, .int .i64 a0_2], .int .i64 a1] w fun e w' => e = .returned (.tuple #[.agg #[.int .i64 r1, .int .i64 r2, .int .i64 r3], errW r4]) ∧ Below w.heap.size w w' := by
 exact date_Months.calls (1) a0_0 a0_1 a0_2 a1 r1 r2 r3 r4 w ((date_Months.tells a0_0 a0_1 a0_2 a1 (1) (Nat.le_refl _)).trans h)
theorem date_Months_s.yes {y m d n : Int} (h : M.date y m d) (hn : -3600 ≤ n ∧ n ≤ 3600 ∧ M.inYears (M.mt y m + n)) : date_Months_s.f y m d n = some ((M.mt y m + n) / 12, (M.mt y m + n) % 12 + 1, M.cut d (M.len (M.mt y m + n)), none) := by unfold date_Months_s.f; rw [if_pos h, if_pos hn]
theorem date_Months_s.out {y m d n : Int} (h : M.date y m d) (hn : ¬ (-3600 ≤ n ∧ n ≤ 3600 ∧ M.inYears (M.mt y m + n))) : date_Months_s.f y m d n = some (0, 0, 0, some 1) := by unfold date_Months_s.f; rw [if_pos h, if_neg hn]
theorem date_Months_s.no {y m d n : Int} (h : ¬ M.date y m d) : date_Months_s.f y m d n = some (0, 0, 0, some 2) := by unfold date_Months_s.f; rw [if_neg h]

/-! ### calendar_Months: function 10 -/
mutual
def calendar_Months.j0 : Nat → List (S48) → Bool → Int → Int → Int → Option (List Int × Option Int)
 | 0, _, _, _, _, _ => none
 | k + 1, x0, x29, x413000, x413001, x413002 => if x29 = true then (some (([] : List Int), some 1)) else ((date_Months_s.f x413000 x413001 x413002 12).bind fun bt416 => (if bt416.2.2.2.isNone = true then (if 12 ≤ 35184372088832 then (calendar_Months.l0 k (List.replicate 12 0) x0 (x0.length : Int) 0 x413000 x413001 x413002) else (none)) else (some (([] : List Int), some 1))))
def calendar_Months.l0 : Nat → List Int → List (S48) → Int → Int → Int → Int → Int → Option (List Int × Option Int)
 | 0, _, _, _, _, _, _, _ => none
 | k + 1, x10, x40, x41, x42, x413000, x413001, x413002 => if x42 < x41 then (if 0 ≤ x42 then (if x42 < (x40.length : Int) then (if 0 ≤ (Int.tmod (wrap64 ((wrap64 (((rd_T48 x40 x42).f0) - x413001)) + 12)) 12) then (if (Int.tmod (wrap64 ((wrap64 (((rd_T48 x40 x42).f0) - x413001)) + 12)) 12) < (x10.length : Int) then (calendar_Months.l0 k (x10.set ((Int.tmod (wrap64 ((wrap64 (((rd_T48 x40 x42).f0) - x413001)) + 12)) 12) : Int).toNat (wrap64 ((rd x10 (Int.tmod (wrap64 ((wrap64 (((rd_T48 x40 x42).f0) - x413001)) + 12)) 12)) + ((rd_T48 x40 x42).f2)))) x40 x41 (wrap64 (x42 + 1)) x413000 x413001 x413002) else (none)) else (none)) else (none)) else (none)) else (some (x10, none))
end
def calendar_Months.f (k : Nat) (l0 : List (S48)) (a1 : Int) : Option (List Int × Option Int) := (date_Of_s.f a1).bind fun bt408 => (if bt408.2.2.2.isNone = true then (if bt408.2.2.1 = 1 then ((calendar_Check.f l0).bind fun t414 => (if t414.isNone = true then (calendar_Months.j0 k l0 false bt408.1 bt408.2.1 bt408.2.2.1) else (calendar_Months.j0 k l0 true bt408.1 bt408.2.1 bt408.2.2.1))) else (calendar_Months.j0 k l0 true bt408.1 bt408.2.1 bt408.2.2.1)) else (calendar_Months.j0 k l0 true bt408.1 bt408.2.1 bt408.2.2.1))
theorem calendar_Months.mono_l : ∀ k, (∀ y0 y1 y2 y3 y4, LeO (calendar_Months.j0 k y0 y1 y2 y3 y4) (calendar_Months.j0 (k + 1) y0 y1 y2 y3 y4)) ∧ (∀ y0 y1 y2 y3 y4 y5 y6, LeO (calendar_Months.l0 k y0 y1 y2 y3 y4 y5 y6) (calendar_Months.l0 (k + 1) y0 y1 y2 y3 y4 y5 y6))
 | 0 => ⟨fun _ _ _ _ _ r h => by simp [calendar_Months.j0] at h, fun _ _ _ _ _ _ _ r h => by simp [calendar_Months.l0] at h⟩
 | k + 1 => by
  obtain ⟨ih0, ih1⟩ := calendar_Months.mono_l k
  refine ⟨?_, ?_⟩
  ·intro y0 y1 y2 y3 y4
   unfold calendar_Months.j0
   repeat' first
   | (with_reducible exact ih0 _ _ _ _ _)
   | (with_reducible exact ih1 _ _ _ _ _ _ _)
   | (with_reducible exact LeO.refl _)
   | (with_reducible exact LeO.none _)
   | (with_reducible refine LeO.ite ?_ ?_)
   | (with_reducible refine LeO.bind ?_ (fun _ => ?_))
   | exact ih0 _ _ _ _ _
   | exact ih1 _ _ _ _ _ _ _
   | exact LeO.none _
   | refine LeO.ite ?_ ?_
   | refine LeO.bind ?_ (fun _ => ?_)
  ·intro y0 y1 y2 y3 y4 y5 y6
   unfold calendar_Months.l0
   repeat' first
   | (with_reducible exact ih0 _ _ _ _ _)
   | (with_reducible exact ih1 _ _ _ _ _ _ _)
   | (with_reducible exact LeO.refl _)
   | (with_reducible exact LeO.none _)
   | (with_reducible refine LeO.ite ?_ ?_)
   | (with_reducible refine LeO.bind ?_ (fun _ => ?_))
   | exact ih0 _ _ _ _ _
   | exact ih1 _ _ _ _ _ _ _
   | exact LeO.none _
   | refine LeO.ite ?_ ?_
   | refine LeO.bind ?_ (fun _ => ?_)
theorem calendar_Months.mono : ∀ a0 a1 k, LeO (calendar_Months.f k a0 a1) (calendar_Months.f (k + 1) a0 a1) := by
 intro a0 a1 k
 obtain ⟨ih0, ih1⟩ := calendar_Months.mono_l k
 unfold calendar_Months.f
 repeat' first
   | (with_reducible exact ih0 _ _ _ _ _)
   | (with_reducible exact ih1 _ _ _ _ _ _ _)
   | (with_reducible exact LeO.refl _)
   | (with_reducible exact LeO.none _)
   | (with_reducible refine LeO.ite ?_ ?_)
   | (with_reducible refine LeO.bind ?_ (fun _ => ?_))
   | exact ih0 _ _ _ _ _
   | exact ih1 _ _ _ _ _ _ _
   | exact LeO.none _
   | refine LeO.ite ?_ ?_
   | refine LeO.bind ?_ (fun _ => ?_)
def calendar_Months.T11 : Bool × List (List Nat × List Nat) := (true, [([], []), ([], []), ([1], [1]), ([], []), ([3], [3]), ([2, 4], [2, 4]), ([5], [5]), ([6], [6]), ([0, 7], [0, 7]), ([8], [8]), ([], []), ([10], [10]), ([9, 11], [9, 11]), ([0, 7, 0, 1, 2, 3, 4, 5, 6, 7, 8, 9, 10, 11, 12], [0, 7]), ([13, 12, 0, 1, 2, 3, 4, 5, 6, 7, 8, 9, 10, 11, 12], [12, 13])])
def calendar_Months.B11 : List Nat := [0, 0, 2, 0, 8, 30, 62, 126, 255, 511, 0, 1024, 4095, 8191, 16383]
theorem calendar_Months.tab11 : rtab .any (opsOf Try.f10 11) = calendar_Months.T11 := by kernel_rfl
theorem calendar_Months.bits11 : waitsOk calendar_Months.T11.2 calendar_Months.B11 = true := by kernel_rfl
set_option maxHeartbeats 8000000 in
set_option maxRecDepth 100000 in
theorem calendar_Months.calls (k : Nat) (A0 : Option Addr) (c0 : Nat) (l0 : List (S48)) (a1 : Int) (r1 : List Int) (r2 : Option Int) (w : World) (hr0 : Kd.C k48 w A0 l0.length l0) (hc0 : l0.length ≤ c0) (h : calendar_Months.f k l0 a1 = some (r1, r2)) :
  Calls Try.prog 10 #[.slice A0 l0.length c0, .int .i64 a1] w fun e w' => ∃ v0_ : Value, e = .returned (.tuple #[v0_, errW r2]) ∧ Kd.R (Kd.int .i64) 2 w' w.heap.size (fun _ => True) v0_ r1 ∧ Below w.heap.size w w' := by
 have hu30 := Try.underlying30
 have hu48 := Try.underlying48
 have hu26 := Try.underlying26
 have hu35 := Try.underlying35
 have HR0 := ka hr0
 have HC0 := ka hc0
 clear hr0 hc0
 have HB := ka (Below.refl w.heap.size w)
 have H : ((date_Of_s.f a1).bind fun bt408 => (if bt408.2.2.2.isNone = true then (if bt408.2.2.1 = 1 then ((calendar_Check.f l0).bind fun t414 => (if t414.isNone = true then (calendar_Months.j0 k l0 false bt408.1 bt408.2.1 bt408.2.2.1) else (calendar_Months.j0 k l0 true bt408.1 bt408.2.1 bt408.2.2.1))) else (calendar_Months.j0 k l0 true bt408.1 bt408.2.1 bt408.2.2.1)) else (calendar_Months.j0 k l0 true bt408.1 bt408.2.1 bt408.2.2.1))) = some (r1, r2) := h
 clear h
 replace H := Option.bind_eq_some_iff.mp H
 obtain ⟨⟨t408, t409, t410, t411⟩, A30, H⟩ := H
 replace H : (if t411.isNone = true then (if t410 = 1 then ((calendar_Check.f l0).bind fun t414 => (if t414.isNone = true then (calendar_Months.j0 k l0 false t408 t409 t410) else (calendar_Months.j0 k l0 true t408 t409 t410))) else (calendar_Months.j0 k l0 true t408 t409 t410)) else (calendar_Months.j0 k l0 true t408 t409 t410)) = some (r1, r2) := H
 have A3 := ka A30
 clear A30
 have HC4 := ka H
 clear H
 go_enter Try.func10, Try.ntmps10
 go_upto_region 2 with (first | ((with_reducible refine gate_callee (f := 21) rfl ?_); refine kg (some 15) rfl rfl Try.func21 (by kernel_rfl) rfl #[.int .i64 a1] rfl ?_; (with_reducible refine (date_Of_s.calls a1 t408 t409 t410 t411 _ A3.out).mono ?_); rintro e w5 ⟨rfl, hb⟩; refine ⟨_, rfl, ?_⟩; replace HB := ka (below_step (kw HB.out) hb); (try clear hb); (try clear hb2); (try clear hk); (try clear hi); (try simp only [errW_none, errW_some])) | ((with_reducible refine gate_dst (N := 6) rfl ?_); refine kx (N := 6) (cs := #[.int .i64 0, .int .i64 0, .int .i64 0]) (t := 30) ?_; intro gb412 hg w6 hbox hb; have n0_ := ka (below_step (kw HB.out) hb); have n1_ := ka (hbox); have n2_ := ka ((by rw [hg]; exact (below_size (kw HB.out)) : w.heap.size ≤ gb412)); have n3_ := n2_; clear HB; have HB := n0_; have BK412 := n1_; have GW412 := n2_; have GE412 := n3_; clear n0_ n1_ n2_ n3_; clear hb hbox hg; have hcz7 := blkAll3 BK412.out))
 (try simp only [Act.put, List.setIfInBounds_toArray, List.set_cons_zero, List.set_cons_succ])
 go_cut [29] (fun v29 wc => ∃ (kq : Nat) (x29_3 : Bool), v29 = .bool x29_3 ∧ Aside0 (calendar_Months.j0 kq l0 x29_3 t408 t409 t410 = some (r1, r2)) ∧ Aside0 (kq ≤ k) ∧ Aside0 (wc.heap[gb412]? = some (.cells #[.int .i64 t408, .int .i64 t409, .int .i64 t410] 30 (0, 0))) ∧ Aside0 (Below w.heap.size w wc))
 case first =>
  have H := HC4.out
  clear HC4
  rcases t411 with _ | q413
  ·have H1 : (if t410 = 1 then ((calendar_Check.f l0).bind fun t414 => (if t414.isNone = true then (calendar_Months.j0 k l0 false t408 t409 t410) else (calendar_Months.j0 k l0 true t408 t409 t410))) else (calendar_Months.j0 k l0 true t408 t409 t410)) = some (r1, r2) := by rw [if_pos (show (none : Option Int).isNone = true by rfl)] at H; exact H
   clear H
   have H := H1
   clear H1
   try simp only [errW_none, errW_some]
   by_cases c8 : t410 = 1
   ·rw [if_pos c8] at H
    have c8b0 : (t410 == 1) = true := beq_iff_eq.mpr c8
    have c8b1 : (t410 != 1) = false := bne_eq_false_iff_eq.mpr c8
    clear c8
    (first | rw [c8b0] | (simp only [i64_w, i32_w]; rw [c8b0]) | skip)
    replace H := Option.bind_eq_some_iff.mp H
    obtain ⟨t414, A90, H⟩ := H
    replace H : (if t414.isNone = true then (calendar_Months.j0 k l0 false t408 t409 t410) else (calendar_Months.j0 k l0 true t408 t409 t410)) = some (r1, r2) := H
    have A9 := ka A90
    clear A90
    rcases t414 with _ | q415
    ·have H1 : (calendar_Months.j0 k l0 false t408 t409 t410) = some (r1, r2) := by rw [if_pos (show (none : Option Int).isNone = true by rfl)] at H; exact H
     clear H
     have H := H1
     clear H1
     try simp only [errW_none, errW_some]
     have H' := ka H
     clear H
     have hcz10 := blkAll3 BK412.out
     go_wp2_with (first | (go_at_call 16; (with_reducible refine (calendar_Check.calls _ _ l0 none _ ?side1 ?side2 A9.out).mono ?_); (case side1 => exact Kd.C_below HR0.out (kw HB.out)); (case side2 => exact HC0.out); rintro e w11 ⟨rfl, hb⟩; replace BK412 := ka (blk_below (g := gb412) (o := .cells #[.int .i64 t408, .int .i64 t409, .int .i64 t410] 30 (0, 0)) (by (with_reducible repeat (first | apply kb1 | apply kb2 | apply kb3 | apply blkPut3_2 | apply blkPut3_1 | apply blkPut3_0)); exact BK412.out) hb); replace HB := ka (below_step (kw HB.out) hb); (try clear hb); (try clear hb2); (try clear hk); (try clear hi); (try simp only [errW_none, errW_some])))
     go_meet
     case rel => exact ⟨_, (false), (by first | rfl | (simp; done) | (simp [*]; done)), H', ⟨by first | omega | exact Nat.le_refl _⟩, ⟨by (with_reducible repeat (first | apply kb1 | apply kb2 | apply kb3)); exact BK412.out⟩, ⟨by repeat (first | (with_reducible first | exact HB.out | apply kc1 | apply kc2 | apply kc3 | refine kc4 ?_ GE412.out) | exact HB.out)⟩⟩
    ·have H1 : (calendar_Months.j0 k l0 true t408 t409 t410) = some (r1, r2) := by rw [if_neg (show ¬ (some q415).isNone = true by simp)] at H; exact H
     clear H
     have H := H1
     clear H1
     try simp only [errW_none, errW_some]
     have H' := ka H
     clear H
     have hcz12 := blkAll3 BK412.out
     go_wp2_with (first | (go_at_call 16; (with_reducible refine (calendar_Check.calls _ _ l0 (some q415) _ ?side1 ?side2 A9.out).mono ?_); (case side1 => exact Kd.C_below HR0.out (kw HB.out)); (case side2 => exact HC0.out); rintro e w13 ⟨rfl, hb⟩; replace BK412 := ka (blk_below (g := gb412) (o := .cells #[.int .i64 t408, .int .i64 t409, .int .i64 t410] 30 (0, 0)) (by (with_reducible repeat (first | apply kb1 | apply kb2 | apply kb3 | apply blkPut3_2 | apply blkPut3_1 | apply blkPut3_0)); exact BK412.out) hb); replace HB := ka (below_step (kw HB.out) hb); (try clear hb); (try clear hb2); (try clear hk); (try clear hi); (try simp only [errW_none, errW_some])))
     go_meet
     case rel => exact ⟨_, (true), (by first | rfl | (simp; done) | (simp [*]; done)), H', ⟨by first | omega | exact Nat.le_refl _⟩, ⟨by (with_reducible repeat (first | apply kb1 | apply kb2 | apply kb3)); exact BK412.out⟩, ⟨by repeat (first | (with_reducible first | exact HB.out | apply kc1 | apply kc2 | apply kc3 | refine kc4 ?_ GE412.out) | exact HB.out)⟩⟩
   ·rw [if_neg c8] at H
    have c8b0 : (t410 == 1) = false := beq_eq_false_iff_ne.mpr c8
    have c8b1 : (t410 != 1) = true := bne_iff_ne.mpr c8
    (first | rw [c8b0] | (simp only [i64_w, i32_w]; rw [c8b0]) | skip)
    have H' := ka H
    clear H
    have hcz14 := blkAll3 BK412.out
    go_wp2
    go_meet
    case rel => exact ⟨_, (true), (by first | rfl | (simp; done) | (simp [*]; done)), H', ⟨by first | omega | exact Nat.le_refl _⟩, ⟨by (with_reducible repeat (first | apply kb1 | apply kb2 | apply kb3 | apply blkPut3_2 | apply blkPut3_1 | apply blkPut3_0)); exact BK412.out⟩, ⟨by repeat (first | (with_reducible first | exact HB.out | apply kc1 | apply kc2 | apply kc3 | refine kc4 ?_ GE412.out) | exact HB.out)⟩⟩
  ·have H1 : (calendar_Months.j0 k l0 true t408 t409 t410) = some (r1, r2) := by rw [if_neg (show ¬ (some q413).isNone = true by simp)] at H; exact H
   clear H
   have H := H1
   clear H1
   try simp only [errW_none, errW_some]
   have H' := ka H
   clear H
   go_wp2
   go_meet
   case rel => exact ⟨_, (true), (by first | rfl | (simp; done) | (simp [*]; done)), H', ⟨by first | omega | exact Nat.le_refl _⟩, ⟨by (with_reducible repeat (first | apply kb1 | apply kb2 | apply kb3 | apply blkPut3_2 | apply blkPut3_1 | apply blkPut3_0)); exact BK412.out⟩, ⟨by repeat (first | (with_reducible first | exact HB.out | apply kc1 | apply kc2 | apply kc3 | refine kc4 ?_ GE412.out) | exact HB.out)⟩⟩
 case rest =>
  clear HC4
  try clear c1
  try clear c2
  try clear p2
  try clear q4
  try clear c8
  try clear c8b0
  try clear c8b1
  try clear c10
  try clear hcz10
  try clear hcz12
  try clear hcz14
  try clear hcz7
  try clear q413
  try clear q415
  obtain ⟨kq, x29_3, rfl, HA, HJ3, BK412, HB⟩ := hcut
  cases kq with
  | zero => exact absurd HA.out (by simp [calendar_Months.j0])
  | succ kj3 =>
   have H := HA.out
   clear HA
   simp only [calendar_Months.j0] at H
   by_cases c15 : x29_3 = true
   ·subst c15
    have H1 : (some (([] : List Int), some 1)) = some (r1, r2) := by rw [if_pos rfl] at H; exact H
    clear H
    have H := H1
    clear H1
    simp only [Option.some.injEq, Prod.mk.injEq] at H
    obtain ⟨rfl, rfl⟩ := H
    go_wp2
    go_ret2
    exact ⟨_, by first | rfl | (simp [errW_none, errW_some] <;> rfl) | (simp [*, errW_none, errW_some] <;> rfl), by first | exact Kd.R_nil _ _ _ _ _ | exact Kd.N_nil _ _ _ _ _ | exact Kd.V_nil _ _ _ _ _ | exact Kd.Q_nil _ _ _ _ _ | exact Kd.S_nil _ _ _ _ _, by repeat (first | (with_reducible first | exact HB.out | apply kc1 | apply kc2 | apply kc3 | refine kc4 ?_ GE412.out) | exact HB.out)⟩
   ·replace c15 := Bool.eq_false_iff.mpr c15
    subst c15
    have H1 : ((date_Months_s.f t408 t409 t410 12).bind fun bt416 => (if bt416.2.2.2.isNone = true then (if 12 ≤ 35184372088832 then (calendar_Months.l0 kj3 (List.replicate 12 0) l0 (l0.length : Int) 0 t408 t409 t410) else (none)) else (some (([] : List Int), some 1)))) = some (r1, r2) := by rw [if_neg (show ¬ (false = true) by decide)] at H; exact H
    clear H
    have H := H1
    clear H1
    replace H := Option.bind_eq_some_iff.mp H
    obtain ⟨⟨t416, t417, t418, t419⟩, A160, H⟩ := H
    replace H : (if t419.isNone = true then (if 12 ≤ 35184372088832 then (calendar_Months.l0 kj3 (List.replicate 12 0) l0 (l0.length : Int) 0 t408 t409 t410) else (none)) else (some (([] : List Int), some 1))) = some (r1, r2) := H
    have A16 := ka A160
    clear A160
    rcases t419 with _ | q421
    ·have H1 : (if 12 ≤ 35184372088832 then (calendar_Months.l0 kj3 (List.replicate 12 0) l0 (l0.length : Int) 0 t408 t409 t410) else (none)) = some (r1, r2) := by rw [if_pos (show (none : Option Int).isNone = true by rfl)] at H; exact H
     clear H
     have H := H1
     clear H1
     try simp only [errW_none, errW_some]
     by_cases c17 : 12 ≤ 35184372088832
     ·rw [if_pos c17] at H
      have c17b0 := eq_true c17
      have c17b1 : decide (12 ≤ 35184372088832) = true := decide_eq_true c17
      clear c17
      obtain ⟨y422, hy422⟩ : ∃ y_ : List Int, y_ = (List.replicate 12 0) := ⟨_, rfl⟩
      replace H : (calendar_Months.l0 kj3 y422 l0 (l0.length : Int) 0 t408 t409 t410) = some (r1, r2) := by first | (rw [hy422]; with_reducible exact H) | (have H2_ := (Option.bind_some _ _).symm.trans H; rw [hy422]; with_reducible exact H2_) | (have H2_ := (Option.bind_some _ _).symm.trans H; with_reducible exact H2_) | with_reducible exact H | (rw [hy422]; exact H) | exact H
      have Ny422 := ka hy422
      clear hy422
      have H' := ka H
      clear H
      have hcz18 := blkAll3 BK412.out
      go_wp2_with (first | ((with_reducible refine gate_callee (f := 22) rfl ?_); refine kg (some 33) rfl rfl Try.func22 (by kernel_rfl) rfl #[.agg #[.int .i64 t408, .int .i64 t409, .int .i64 t410], .int .i64 12] rfl ?_; (with_reducible refine (date_Months_s.calls t408 t409 t410 12 t416 t417 t418 none _ A16.out).mono ?_); rintro e w19 ⟨rfl, hb⟩; refine ⟨_, rfl, ?_⟩; replace BK412 := kbb BK412 hb; replace HB := ka (below_step (kw HB.out) hb); (try clear hb); (try clear hb2); (try clear hk); (try clear hi); (try simp only [errW_none, errW_some])) | ((with_reducible refine gate_dst (N := 8) rfl ?_); refine kx (N := 8) (cs := #[.int .i64 0, .int .i64 0, .int .i64 0]) (t := 30) ?_; intro gb420 hg w20 hbox hb; have n0_ := ka (blk_below (g := gb412) (kz BK412.out) hb); have n1_ := ka (below_step (kw HB.out) hb); have n2_ := ka (hbox); have n3_ := ka ((by rw [hg]; exact (below_size (kw HB.out)) : w.heap.size ≤ gb420)); have n4_ := n3_; have n5_ := ka ((by rw [hg]; exact Nat.ne_of_lt (blk_lt (g := gb412) (kz BK412.out)) : gb412 ≠ gb420)); have n6_ := ka n5_.out.symm; clear BK412; clear HB; have BK412 := n0_; have HB := n1_; have BK420 := n2_; have GW420 := n3_; have GE420 := n4_; have NB412_420 := n5_; have NB420_412 := n6_; clear n0_ n1_ n2_ n3_ n4_ n5_ n6_; clear hb hbox hg; have hnb21 := NB420_412.out; have hnc21 := NB412_420.out; have hcz22 := blkAll3 BK420.out) | ((with_reducible refine gate_dst (N := 39) rfl ?_); refine Kd.R_make (Kd.int .i64) _ 2 rfl (N := 39) rfl 24 _ _ rfl 12 rfl rfl Try.underlying24 (.int .i64 0) 8 info2 rfl (by decide) (by omega) 0 (ok := fun _ => True) (okp := fun _ => True) rfl (fun _ hk => hk) trivial (by omega) (by omega) (Below.refl _ _) (Nat.le_refl _) ?_; intro v423 w23 ho24 hb hg_ hnew_; clear hg_ hnew_; (first | rw [← Ny422.out] at ho24 | (simp only [Int.reduceToNat] at ho24; rw [← Ny422.out] at ho24)); have HO424 := ka (Kd.R_lower ho24 (below_size (kw HB.out))); replace BK412 := ka (blk_below (g := gb412) (o := .cells #[.int .i64 t408, .int .i64 t409, .int .i64 t410] 30 (0, 0)) (by (with_reducible repeat (first | apply kb1 | apply kb2 | apply kb3 | refine kb4 ?_ NB412_420.out _)); exact BK412.out) hb); replace BK420 := ka (blk_below (g := gb420) (o := .cells #[.int .i64 t416, .int .i64 t417, .int .i64 t418] 30 (0, 0)) (by (with_reducible repeat (first | apply kb1 | apply kb2 | apply kb3 | apply blkPut3_2 | apply blkPut3_1 | apply blkPut3_0)); exact BK420.out) hb); replace HB := ka (below_step (kw HB.out) hb); clear hb ho24))
      (try simp only [Act.put, List.setIfInBounds_toArray, List.set_cons_zero, List.set_cons_succ])
      go_loopg [42] kj3 (fun kq v42 w' => ∃ (x10_2 : List Int) (x42_2 : Int), v42 = .int .i64 x42_2 ∧ Aside0 (calendar_Months.l0 kq x10_2 l0 (l0.length : Int) x42_2 t408 t409 t410 = some (r1, r2)) ∧ Aside0 (kq ≤ kj3) ∧ Aside0 (Kd.R (Kd.int .i64) 2 w' w.heap.size (fun _ => True) v423 x10_2) ∧ Aside0 (w'.heap[gb412]? = some (.cells #[.int .i64 t408, .int .i64 t409, .int .i64 t410] 30 (0, 0))) ∧ Aside0 (w'.heap[gb420]? = some (.cells #[.int .i64 t416, .int .i64 t417, .int .i64 t418] 30 (0, 0))) ∧ Aside0 (Below w.heap.size w w'))
      case atStart => exact ⟨(y422), (0), (by first | rfl | (simp; done) | (simp [*]; done)), H', ⟨Nat.le_refl _⟩, ⟨kr HO424.out⟩, ⟨by (with_reducible repeat (first | apply kb1 | apply kb2 | apply kb3)); exact BK412.out⟩, ⟨by (with_reducible repeat (first | apply kb1 | apply kb2 | apply kb3)); exact BK420.out⟩, ⟨by repeat (first | (with_reducible first | exact HB.out | apply kc1 | apply kc2 | apply kc3 | refine kc4 ?_ GE412.out | refine kc4 ?_ GE420.out) | exact HB.out)⟩⟩
      case round =>
       clear H'
       try clear c1
       try clear c2
       try clear p2
       try clear q4
       try clear c8
       try clear c8b0
       try clear c8b1
       try clear c10
       try clear c15
       try clear c17
       try clear c17b0
       try clear c17b1
       try clear c21
       try clear c22
       try clear hcz10
       try clear hcz12
       try clear hcz14
       try clear hcz18
       try clear hcz22
       try clear hcz7
       try clear p2
       try clear q4
       try clear q413
       try clear q415
       try clear q421
       obtain ⟨x10_2, x42_2, rfl, HA, HK2, HO_10, BK412, BK420, HB⟩ := hrel
       cases gk with
       | zero => exact absurd HA.out (by simp [calendar_Months.l0])
       | succ k2 =>
        have H := HA.out
        clear HA
        simp only [calendar_Months.l0] at H
        by_cases c25 : x42_2 < (l0.length : Int)
        ·rw [if_pos c25] at H
         have c25b0 : decide (x42_2 < (l0.length : Int)) = true := decide_eq_true c25
         clear c25
         by_cases c26 : 0 ≤ x42_2
         ·rw [if_pos c26] at H
          have c26b0 : decide (0 ≤ x42_2) = true := decide_eq_true c26
          clear c26
          by_cases c27 : x42_2 < (l0.length : Int)
          ·rw [if_pos c27] at H
           have c27b0 : decide (x42_2 < (l0.length : Int)) = true := decide_eq_true c27
           clear c27
           obtain ⟨ji28, hji28⟩ : ∃ j_ : Int, (Int.tmod (wrap64 ((wrap64 (((rd_T48 l0 x42_2).f0) - t409)) + 12)) 12) = j_ := ⟨_, rfl⟩
           replace H : (if 0 ≤ (ji28) then (if (ji28) < (x10_2.length : Int) then (calendar_Months.l0 k2 (x10_2.set ((ji28) : Int).toNat (wrap64 ((rd x10_2 (ji28)) + ((rd_T48 l0 x42_2).f2)))) l0 (l0.length : Int) (wrap64 (x42_2 + 1)) t408 t409 t410) else (none)) else (none)) = some (r1, r2) := by first | (rw [hji28] at H; exact H) | (simp only [hji28] at H ⊢; exact H)
           by_cases c29 : 0 ≤ (ji28)
           ·rw [if_pos c29] at H
            have c29b0 : decide (0 ≤ (ji28)) = true := decide_eq_true c29
            clear c29
            by_cases c30 : (ji28) < (x10_2.length : Int)
            ·rw [if_pos c30] at H
             have c30b0 : decide ((ji28) < (x10_2.length : Int)) = true := decide_eq_true c30
             clear c30
             obtain ⟨y428, hy428⟩ : ∃ y_ : List Int, y_ = (x10_2.set ((ji28) : Int).toNat (wrap64 ((rd x10_2 (ji28)) + ((rd_T48 l0 x42_2).f2)))) := ⟨_, rfl⟩
             replace H : (calendar_Months.l0 k2 y428 l0 (l0.length : Int) (wrap64 (x42_2 + 1)) t408 t409 t410) = some (r1, r2) := by first | (rw [hy428]; with_reducible exact H) | (have H2_ := (Option.bind_some _ _).symm.trans H; rw [hy428]; with_reducible exact H2_) | (have H2_ := (Option.bind_some _ _).symm.trans H; with_reducible exact H2_) | with_reducible exact H | (rw [hy428]; exact H) | exact H
             have Ny428 := ka hy428
             clear hy428
             have H' := ka H
             clear H
             have p425 : 0 ≤ (x42_2 : Int) := of_decide_eq_true (by first | (with_reducible assumption) | assumption)
             have q425 : x42_2 < (l0.length : Int) := of_decide_eq_true (by first | (with_reducible assumption) | assumption)
             obtain ⟨ad425, e425, hx425_0, hx425_1, hx425_2⟩ := at_T48 HR0.out x42_2 p425 q425
             cases e425
             replace hx425_0 := (HB.out.cell (World.block_lt_of_cell? w _ hx425_0)).trans hx425_0
             replace hx425_1 := (HB.out.cell (World.block_lt_of_cell? w _ hx425_1)).trans hx425_1
             replace hx425_2 := (HB.out.cell (World.block_lt_of_cell? w _ hx425_2)).trans hx425_2
             replace p425 := eq_true p425
             replace q425 := eq_true q425
             try go_wp2_with (first | ((with_reducible refine gate_dst (N := 12) rfl ?_); refine kx (N := 12) (cs := #[.int .i64 0, .int .i64 0, .int .i64 0]) (t := 48) ?_; intro gb426 hg w32 hbox hb; have n0_ := ka (Kd.R_below (kr HO_10.out) hb); have n1_ := ka (blk_below (g := gb412) (kz BK412.out) hb); have n2_ := ka (blk_below (g := gb420) (kz BK420.out) hb); have n3_ := ka (below_step (kw HB.out) hb); have n4_ := ka (hbox); have n5_ := ka ((by rw [hg]; exact (below_size (kw HB.out)) : w.heap.size ≤ gb426)); have n6_ := n5_; have n7_ := ka ((by rw [hg]; exact Nat.ne_of_lt (blk_lt (g := gb412) (kz BK412.out)) : gb412 ≠ gb426)); have n8_ := ka n7_.out.symm; have n9_ := ka ((by rw [hg]; exact Nat.ne_of_lt (blk_lt (g := gb420) (kz BK420.out)) : gb420 ≠ gb426)); have n10_ := ka n9_.out.symm; clear HO_10; clear BK412; clear BK420; clear HB; have HO_10 := n0_; have BK412 := n1_; have BK420 := n2_; have HB := n3_; have BK426 := n4_; have GW426 := n5_; have GE426 := n6_; have NB412_426 := n7_; have NB426_412 := n8_; have NB420_426 := n9_; have NB426_420 := n10_; clear n0_ n1_ n2_ n3_ n4_ n5_ n6_ n7_ n8_ n9_ n10_; clear hb hbox hg; have hnb33 := NB426_412.out; have hnc33 := NB412_426.out; have hnb34 := NB426_420.out; have hnc34 := NB420_426.out; have hcz35 := blkAll3 BK426.out))
             have n0_ : Aside0 (Kd.R (Kd.int .i64) 2 (((w32.setCell ⟨gb426, 0, none⟩ (.int .i64 ((rd_T48 l0 x42_2).f0))).setCell ⟨gb426, 1, none⟩ (.int .i64 ((rd_T48 l0 x42_2).f1))).setCell ⟨gb426, 2, none⟩ (.int .i64 ((rd_T48 l0 x42_2).f2))) w.heap.size (fun _ => True) v423 x10_2) := ⟨kr (Kd.R_mono (Kd.R_far (p := ⟨gb426, 2, none⟩) (Kd.R_far (p := ⟨gb426, 1, none⟩) (Kd.R_far (p := ⟨gb426, 0, none⟩) (Kd.R_types HO_10.out BK426.out (by decide)) (fun _ hk => hk.2) (.int .i64 ((rd_T48 l0 x42_2).f0))) (fun _ hk => hk.2) (.int .i64 ((rd_T48 l0 x42_2).f1))) (fun _ hk => hk.2) (.int .i64 ((rd_T48 l0 x42_2).f2))) (fun _ hk => trivial))⟩
             have n1_ : Aside0 ((((w32.setCell ⟨gb426, 0, none⟩ (.int .i64 ((rd_T48 l0 x42_2).f0))).setCell ⟨gb426, 1, none⟩ (.int .i64 ((rd_T48 l0 x42_2).f1))).setCell ⟨gb426, 2, none⟩ (.int .i64 ((rd_T48 l0 x42_2).f2))).heap[gb412]? = some (.cells #[.int .i64 t408, .int .i64 t409, .int .i64 t410] 30 (0, 0))) := ⟨by (with_reducible repeat (first | apply kb1 | apply kb2 | apply kb3 | refine kb4 ?_ NB412_426.out _)); exact BK412.out⟩
             have n2_ : Aside0 ((((w32.setCell ⟨gb426, 0, none⟩ (.int .i64 ((rd_T48 l0 x42_2).f0))).setCell ⟨gb426, 1, none⟩ (.int .i64 ((rd_T48 l0 x42_2).f1))).setCell ⟨gb426, 2, none⟩ (.int .i64 ((rd_T48 l0 x42_2).f2))).heap[gb420]? = some (.cells #[.int .i64 t416, .int .i64 t417, .int .i64 t418] 30 (0, 0))) := ⟨by (with_reducible repeat (first | apply kb1 | apply kb2 | apply kb3 | refine kb4 ?_ NB420_426.out _)); exact BK420.out⟩
             have n3_ : Aside0 ((((w32.setCell ⟨gb426, 0, none⟩ (.int .i64 ((rd_T48 l0 x42_2).f0))).setCell ⟨gb426, 1, none⟩ (.int .i64 ((rd_T48 l0 x42_2).f1))).setCell ⟨gb426, 2, none⟩ (.int .i64 ((rd_T48 l0 x42_2).f2))).heap[gb426]? = some (.cells #[.int .i64 ((rd_T48 l0 x42_2).f0), .int .i64 ((rd_T48 l0 x42_2).f1), .int .i64 ((rd_T48 l0 x42_2).f2)] 48 (0, 0))) := ⟨by (with_reducible repeat (first | apply kb1 | apply kb2 | apply kb3 | apply blkPut3_2 | apply blkPut3_1 | apply blkPut3_0)); exact BK426.out⟩
             have n4_ : Aside0 (Below w.heap.size w (((w32.setCell ⟨gb426, 0, none⟩ (.int .i64 ((rd_T48 l0 x42_2).f0))).setCell ⟨gb426, 1, none⟩ (.int .i64 ((rd_T48 l0 x42_2).f1))).setCell ⟨gb426, 2, none⟩ (.int .i64 ((rd_T48 l0 x42_2).f2)))) := ⟨by repeat (first | (with_reducible first | exact HB.out | apply kc1 | apply kc2 | apply kc3 | refine kc4 ?_ GE412.out | refine kc4 ?_ GE420.out | refine kc4 ?_ GE426.out) | exact HB.out)⟩
             (try clear HO_10)
             (try clear BK412)
             (try clear BK420)
             (try clear BK426)
             (try clear HB)
             generalize (((w32.setCell ⟨gb426, 0, none⟩ (.int .i64 ((rd_T48 l0 x42_2).f0))).setCell ⟨gb426, 1, none⟩ (.int .i64 ((rd_T48 l0 x42_2).f1))).setCell ⟨gb426, 2, none⟩ (.int .i64 ((rd_T48 l0 x42_2).f2))) = w36 at n0_ n1_ n2_ n3_ n4_ ⊢
             have HO_10 := n0_
             have BK412 := n1_
             have BK420 := n2_
             have BK426 := n3_
             have HB := n4_
             clear n0_ n1_ n2_ n3_ n4_
             replace HO_10 := ka (Kd.R_drew HO_10.out)
             replace BK412 := ka (blk_drew BK412.out)
             replace BK420 := ka (blk_drew BK420.out)
             replace BK426 := ka (blk_drew BK426.out)
             replace HB := ka (below_drew1 HB.out)
             obtain ⟨Ao38, co38, eo38⟩ := Kd.R_slice HO_10.out
             (first | subst eo38 | (injection eo38 with f1_ f2_ f3_; have f4_ := f1_.symm; have f5_ := f3_.symm; clear f1_ f2_ f3_; subst f4_; subst f5_))
             have p427 : 0 ≤ ((ji28) : Int) := of_decide_eq_true (by first | (with_reducible assumption) | assumption)
             have q427 : (ji28) < (x10_2.length : Int) := of_decide_eq_true (by first | (with_reducible assumption) | assumption)
             obtain ⟨ad427, e427, hx427_0⟩ := Kd.at_int (Kd.R_reads' HO_10.out).2.2 (ji28) p427 q427
             cases e427
             replace p427 := eq_true p427
             replace q427 := eq_true q427
             have p31 : 0 ≤ ((ji28) : Int) := of_decide_eq_true (by first | (with_reducible assumption) | assumption)
             have q31 : ((ji28) : Int) < ((x10_2.length : Int) : Int) := of_decide_eq_true (by first | (with_reducible assumption) | assumption)
             obtain ⟨go31, co31, eo31, gb31, gl31, cl31, HG31⟩ := Kd.R_form HO_10.out (by omega)
             (first | cases eo31 | (injection eo31 with ea_ en_ ec_; (first | subst ea_ | (injection ea_ with ea_; subst ea_)); subst ec_; clear en_))
             have GB31 := ka gb31
             have GG31 := ka HG31
             clear gb31 gl31 HG31
             (first | simp only [add_plain] at hx427_0 | skip)
             obtain ⟨hx31_0, hf31_0⟩ := Kd.R_celln 0 HO_10.out ((ji28) : Int) p31 q31
             replace p31 := eq_true p31
             replace q31 := eq_true q31
             have HP39 := Kd.R_putn HO_10.out ((ji28) : Int) (wrap64 ((rd x10_2 (ji28)) + ((rd_T48 l0 x42_2).f2)))
             rw [← Ny428.out] at HP39
             have HQ39 := ka HP39
             clear HP39
             refine start_ (n := 15) (S := fun w' => w'.cell? ⟨gb426, 0, none⟩ = some (.int .i64 ((rd_T48 l0 x42_2).f0)) ∧ w'.cell? ⟨gb426, 1, none⟩ = some (.int .i64 ((rd_T48 l0 x42_2).f1)) ∧ w'.cell? ⟨gb426, 2, none⟩ = some (.int .i64 ((rd_T48 l0 x42_2).f2)) ∧ w'.cell? ⟨gb412, 0, none⟩ = some (.int .i64 t408) ∧ w'.cell? ⟨gb412, 1, none⟩ = some (.int .i64 t409) ∧ w'.cell? ⟨gb412, 2, none⟩ = some (.int .i64 t410) ∧ w'.cell? ⟨go31, ((ji28)).toNat, none⟩ = some (.int .i64 (rd x10_2 (ji28)))) (ds := [14]) #[false, false, false, false, false, false, false, false, false, false, false, false, false, false, false] (by kernel_rfl) rfl rfl ⟨(blk_cell BK426.out 0).trans rfl, (blk_cell BK426.out 1).trans rfl, (blk_cell BK426.out 2).trans rfl, (blk_cell BK412.out 0).trans rfl, (blk_cell BK412.out 1).trans rfl, (blk_cell BK412.out 2).trans rfl, hx427_0⟩ (fun hHeld => ?_); refine with_tabW calendar_Months.tab11 calendar_Months.bits11 (fun HT_ HW_ => ?_)
             generalize w36.drew = w37 at HO_10 BK412 BK420 BK426 HB GG31 HQ39 hf31_0 hx31_0 hx427_0 hHeld ⊢
             refine pure_ (i := 0) (N := some 46) (v := ?_) (a' := ?_) #[true, false, false, false, false, false, false, false, false, false, false, false, false, false, false] rfl rfl (any_of HT_.out (by kernel_rfl)) (fun _ _ _ h => h) (Or.inl ⟨by rfl, ?_⟩) ?_ ?_
             rotate_left
             ·intro w'
              go_simp
              with_reducible rfl
             rotate_left
             ·simp only [Act.put, List.setIfInBounds_toArray, List.set_cons_zero, List.set_cons_succ, i64_w, i32_w]
              rfl
             refine pure_ (i := 1) (N := some 47) (v := ?_) (a' := ?_) #[true, true, false, false, false, false, false, false, false, false, false, false, false, false, false] rfl rfl (any_of HT_.out (by kernel_rfl)) (fun _ _ _ h => h) (Or.inl ⟨by rfl, ?_⟩) ?_ ?_
             rotate_left
             ·intro w'
              go_simp
              with_reducible rfl
             rotate_left
             ·simp only [Act.put, List.setIfInBounds_toArray, List.set_cons_zero, List.set_cons_succ, i64_w, i32_w]
              rfl
             refine pure_ (i := 3) (N := some 49) (v := ?_) (a' := ?_) #[true, true, false, true, false, false, false, false, false, false, false, false, false, false, false] rfl rfl (any_of HT_.out (by kernel_rfl)) (fun _ _ _ h => h) (Or.inl ⟨by rfl, ?_⟩) ?_ ?_
             rotate_left
             ·intro w'
              go_simp
              with_reducible rfl
             rotate_left
             ·simp only [Act.put, List.setIfInBounds_toArray, List.set_cons_zero, List.set_cons_succ, i64_w, i32_w]
              rfl
             refine pure_ (i := 10) (N := some 56) (v := ?_) (a' := ?_) #[true, true, false, true, false, false, false, false, false, false, true, false, false, false, false] rfl rfl (any_of HT_.out (by kernel_rfl)) (fun _ _ _ h => h) (Or.inl ⟨by rfl, ?_⟩) ?_ ?_
             rotate_left
             ·intro w'
              go_simp
              with_reducible rfl
             rotate_left
             ·simp only [Act.put, List.setIfInBounds_toArray, List.set_cons_zero, List.set_cons_succ, i64_w, i32_w]
              rfl
             refine take_ (i := 2) (N := some 48) (v := ?_) (a' := ?_) #[true, true, true, true, false, false, false, false, false, false, true, false, false, false, false] rfl rfl (take_ofW HT_.out HW_.out (by kernel_rfl)) (fun _ _ _ h => h) (Or.inl ⟨by rfl, ?_⟩) hHeld ?_ ?_
             rotate_left
             ·rintro w' ⟨s0, s1, s2, s3, s4, s5, s6⟩
              go_simp
              with_reducible rfl
             rotate_left
             ·simp only [Act.put, List.setIfInBounds_toArray, List.set_cons_zero, List.set_cons_succ, i64_w, i32_w]
              rfl
             refine take_ (i := 4) (N := some 50) (v := ?_) (a' := ?_) #[true, true, true, true, true, false, false, false, false, false, true, false, false, false, false] rfl rfl (take_ofW HT_.out HW_.out (by kernel_rfl)) (fun _ _ _ h => h) (Or.inl ⟨by rfl, ?_⟩) hHeld ?_ ?_
             rotate_left
             ·rintro w' ⟨s0, s1, s2, s3, s4, s5, s6⟩
              go_simp
              with_reducible rfl
             rotate_left
             ·simp only [Act.put, List.setIfInBounds_toArray, List.set_cons_zero, List.set_cons_succ, i64_w, i32_w]
              rfl
             refine pure_ (i := 5) (N := some 51) (v := ?_) (a' := ?_) #[true, true, true, true, true, true, false, false, false, false, true, false, false, false, false] rfl rfl (any_of HT_.out (by kernel_rfl)) (fun _ _ _ h => h) (Or.inl ⟨by rfl, ?_⟩) ?_ ?_
             rotate_left
             ·intro w'
              go_simp
              with_reducible rfl
             rotate_left
             ·simp only [Act.put, List.setIfInBounds_toArray, List.set_cons_zero, List.set_cons_succ, i64_w, i32_w]
              rfl
             refine pure_ (i := 6) (N := some 52) (v := ?_) (a' := ?_) #[true, true, true, true, true, true, true, false, false, false, true, false, false, false, false] rfl rfl (any_of HT_.out (by kernel_rfl)) (fun _ _ _ h => h) (Or.inl ⟨by rfl, ?_⟩) ?_ ?_
             rotate_left
             ·intro w'
              go_simp
              with_reducible rfl
             rotate_left
             ·simp only [Act.put, List.setIfInBounds_toArray, List.set_cons_zero, List.set_cons_succ, i64_w, i32_w]
              rfl
             refine pure_ (i := 7) (N := some 53) (v := ?_) (a' := ?_) #[true, true, true, true, true, true, true, true, false, false, true, false, false, false, false] rfl rfl (any_of HT_.out (by kernel_rfl)) (fun _ _ _ h => h) (Or.inl ⟨by rfl, ?_⟩) ?_ ?_
             rotate_left
             ·intro w'
              go_simp
              with_reducible rfl
             rotate_left
             ·simp only [Act.put, List.setIfInBounds_toArray, List.set_cons_zero, List.set_cons_succ, i64_w, i32_w]
              rfl
             refine pure_ (i := 8) (N := some 54) (v := ?_) (a' := ?_) #[true, true, true, true, true, true, true, true, true, false, true, false, false, false, false] rfl rfl (any_of HT_.out (by kernel_rfl)) (fun _ _ _ h => h) (Or.inl ⟨by rfl, ?_⟩) ?_ ?_
             rotate_left
             ·intro w'
              go_simp
              with_reducible rfl
             rotate_left
             ·simp only [Act.put, List.setIfInBounds_toArray, List.set_cons_zero, List.set_cons_succ, i64_w, i32_w]
              rfl
             refine take_ (i := 9) (N := some 55) (v := ?_) (a' := ?_) #[true, true, true, true, true, true, true, true, true, true, true, false, false, false, false] rfl rfl (take_ofW HT_.out HW_.out (by kernel_rfl)) (fun _ _ _ h => h) (Or.inl ⟨by rfl, ?_⟩) hHeld ?_ ?_
             rotate_left
             ·rintro w' ⟨s0, s1, s2, s3, s4, s5, s6⟩
              go_simp
              with_reducible rfl
             rotate_left
             ·simp only [Act.put, List.setIfInBounds_toArray, List.set_cons_zero, List.set_cons_succ, i64_w, i32_w]
              rfl
             refine take_ (i := 11) (N := some 57) (v := ?_) (a' := ?_) #[true, true, true, true, true, true, true, true, true, true, true, true, false, false, false] rfl rfl (take_ofW HT_.out HW_.out (by kernel_rfl)) (fun _ _ _ h => h) (Or.inl ⟨by rfl, ?_⟩) hHeld ?_ ?_
             rotate_left
             ·rintro w' ⟨s0, s1, s2, s3, s4, s5, s6⟩
              go_simp
              with_reducible rfl
             rotate_left
             ·simp only [Act.put, List.setIfInBounds_toArray, List.set_cons_zero, List.set_cons_succ, i64_w, i32_w]
              rfl
             refine pure_ (i := 12) (N := some 58) (v := ?_) (a' := ?_) #[true, true, true, true, true, true, true, true, true, true, true, true, true, false, false] rfl rfl (any_of HT_.out (by kernel_rfl)) (fun _ _ _ h => h) (Or.inl ⟨by rfl, ?_⟩) ?_ ?_
             rotate_left
             ·intro w'
              go_simp
              with_reducible rfl
             rotate_left
             ·simp only [Act.put, List.setIfInBounds_toArray, List.set_cons_zero, List.set_cons_succ, i64_w, i32_w]
              rfl
             refine pure_ (i := 13) (N := some 59) (v := ?_) (a' := ?_) #[true, true, true, true, true, true, true, true, true, true, true, true, true, true, false] rfl rfl (any_of HT_.out (by kernel_rfl)) (fun _ _ _ h => h) (Or.inl ⟨by rfl, ?_⟩) ?_ ?_
             rotate_left
             ·intro w'
              go_simp
              with_reducible rfl
             rotate_left
             ·simp only [Act.put, List.setIfInBounds_toArray, List.set_cons_zero, List.set_cons_succ, i64_w, i32_w]
              rfl
             refine last_ (i := 14) (N := none) #[true, true, true, true, true, true, true, true, true, true, true, true, true, true, true] rfl rfl (one_of HT_.out (by kernel_rfl)) (by decide) (fun K hK => ?_)
             refine skip_ (w1 := ?_) (by rfl) rfl ?_ ?_
             rotate_left
             ·go_simp
              rfl
             refine hK.out _ _ ?_
             clear hK K
             refine done_ (done_of HT_.out (by kernel_rfl)) ?_
             try go_wp2
             go_roundg k2
             case measure => have := HJ3.out; have := HK2.out; omega
             case rel => exact ⟨(y428), (wrap64 (x42_2 + 1)), (by first | rfl | (simp; done) | (simp [*]; done)), H', ⟨by have := HJ3.out; have := HK2.out; omega⟩, ⟨kr HQ39.out⟩, ⟨by (with_reducible repeat (first | apply kb1 | apply kb2 | apply kb3)); refine kb4 ?_ (by have h_ := Kd.R_ne HO_10.out BK412.out (by decide); intro e_; exact h_ (by rw [e_]; rfl)) _; (with_reducible repeat (first | apply kb1 | apply kb2 | apply kb3)); exact BK412.out⟩, ⟨by (with_reducible repeat (first | apply kb1 | apply kb2 | apply kb3)); refine kb4 ?_ (by have h_ := Kd.R_ne HO_10.out BK420.out (by decide); intro e_; exact h_ (by rw [e_]; rfl)) _; (with_reducible repeat (first | apply kb1 | apply kb2 | apply kb3)); exact BK420.out⟩, ⟨by repeat (first | (with_reducible first | exact HB.out | apply kc1 | apply kc2 | apply kc3 | refine kc4 ?_ GB31.out | refine kc4 ?_ GE412.out | refine kc4 ?_ GE420.out | refine kc4 ?_ GE426.out) | exact HB.out)⟩⟩
            ·rw [if_neg c30] at H
             exact absurd H (by simp)
           ·rw [if_neg c29] at H
            exact absurd H (by simp)
          ·rw [if_neg c27] at H
           exact absurd H (by simp)
         ·rw [if_neg c26] at H
          exact absurd H (by simp)
        ·rw [if_neg c25] at H
         have c25b0 : decide (x42_2 < (l0.length : Int)) = false := decide_eq_false c25
         clear c25
         simp only [Option.some.injEq, Prod.mk.injEq] at H
         obtain ⟨rfl, rfl⟩ := H
         go_wp2
         go_ret2
         exact ⟨_, by first | rfl | (simp [errW_none, errW_some] <;> rfl) | (simp [*, errW_none, errW_some] <;> rfl), by (with_reducible repeat (first | apply Kd.R_alloc | apply Kd.R_drewN | apply Kd.R_drew)); exact HO_10.out, by repeat (first | (with_reducible first | exact HB.out | apply kc1 | apply kc2 | apply kc3 | refine kc4 ?_ GE412.out | refine kc4 ?_ GE420.out) | exact HB.out)⟩
     ·rw [if_neg c17] at H
      exact absurd H (by simp)
    ·have H1 : (some (([] : List Int), some 1)) = some (r1, r2) := by rw [if_neg (show ¬ (some q421).isNone = true by simp)] at H; exact H
     clear H
     have H := H1
     clear H1
     try simp only [errW_none, errW_some]
     simp only [Option.some.injEq, Prod.mk.injEq] at H
     obtain ⟨rfl, rfl⟩ := H
     have hcz40 := blkAll3 BK412.out
     go_wp2_with (first | ((with_reducible refine gate_callee (f := 22) rfl ?_); refine kg (some 33) rfl rfl Try.func22 (by kernel_rfl) rfl #[.agg #[.int .i64 t408, .int .i64 t409, .int .i64 t410], .int .i64 12] rfl ?_; (with_reducible refine (date_Months_s.calls t408 t409 t410 12 t416 t417 t418 (some q421) _ A16.out).mono ?_); rintro e w41 ⟨rfl, hb⟩; refine ⟨_, rfl, ?_⟩; replace BK412 := kbb BK412 hb; replace HB := ka (below_step (kw HB.out) hb); (try clear hb); (try clear hb2); (try clear hk); (try clear hi); (try simp only [errW_none, errW_some])) | ((with_reducible refine gate_dst (N := 8) rfl ?_); refine kx (N := 8) (cs := #[.int .i64 0, .int .i64 0, .int .i64 0]) (t := 30) ?_; intro gb420 hg w42 hbox hb; have n0_ := ka (blk_below (g := gb412) (kz BK412.out) hb); have n1_ := ka (below_step (kw HB.out) hb); have n2_ := ka (hbox); have n3_ := ka ((by rw [hg]; exact (below_size (kw HB.out)) : w.heap.size ≤ gb420)); have n4_ := n3_; have n5_ := ka ((by rw [hg]; exact Nat.ne_of_lt (blk_lt (g := gb412) (kz BK412.out)) : gb412 ≠ gb420)); have n6_ := ka n5_.out.symm; clear BK412; clear HB; have BK412 := n0_; have HB := n1_; have BK420 := n2_; have GW420 := n3_; have GE420 := n4_; have NB412_420 := n5_; have NB420_412 := n6_; clear n0_ n1_ n2_ n3_ n4_ n5_ n6_; clear hb hbox hg; have hnb43 := NB420_412.out; have hnc43 := NB412_420.out; have hcz44 := blkAll3 BK420.out))
     go_ret2
     exact ⟨_, by first | rfl | (simp [errW_none, errW_some] <;> rfl) | (simp [*, errW_none, errW_some] <;> rfl), by first | exact Kd.R_nil _ _ _ _ _ | exact Kd.N_nil _ _ _ _ _ | exact Kd.V_nil _ _ _ _ _ | exact Kd.Q_nil _ _ _ _ _ | exact Kd.S_nil _ _ _ _ _, by repeat (first | (with_reducible first | exact HB.out | apply kc1 | apply kc2 | apply kc3 | refine kc4 ?_ GE412.out | refine kc4 ?_ GE420.out) | exact HB.out)⟩

end Go.Proofs.Ytmkfbaoglmmhjaa.P
