-- Written by a program of this session out of the translation of the seat: Lean functions and the proofs that the Go functions come to them.
import Derived.Test.YtmkfbaoglmmhjaaPx0
import Derived.Test.YtmkfbaoglmmhjaaPx3
namespace Go.Proofs.Ytmkfbaoglmmhjaa.P
open Go.RowKit Go.Proofs.YtmkfbaoglmmhjaaW.PrintWords Go.Proofs.YtmkfbaoglmmhjaaW.PrintLast Go.Proofs.YtmkfbaoglmmhjaaW.PrintMore
attribute [local go_sem] max2_int min2_int max_two min_two max_three min_three max_four min_four   -- for this text's walks alone
set_option linter.unusedVariables false
set_option linter.unusedSimpArgs false

/-! ### date_Months: function 22 -/
def date_Months.j0 : Nat → Int → Bool → Int → Int → Int → Option (Int × Int × Int × Option Int)
 | 0, _, _, _, _, _ => none
 | k + 1, x1, x23, x406000, x406001, x406002 => if x23 = true then (some (0, 0, 0, some 1)) else ((date_Days.f (wrap64 (Int.tdiv (wrap64 ((wrap64 ((wrap64 ((wrap64 (x406000 * 12)) + x406001)) - 1)) + x1)) 12)) (wrap64 ((Int.tmod (wrap64 ((wrap64 ((wrap64 ((wrap64 (x406000 * 12)) + x406001)) - 1)) + x1)) 12) + 1))).bind fun t409 => (if t409 = 0 then (some (0, 0, 0, some 1)) else (some (wrap64 (Int.tdiv (wrap64 ((wrap64 ((wrap64 ((wrap64 (x406000 * 12)) + x406001)) - 1)) + x1)) 12), wrap64 ((Int.tmod (wrap64 ((wrap64 ((wrap64 ((wrap64 (x406000 * 12)) + x406001)) - 1)) + x1)) 12) + 1), mn x406002 t409, none))))
def date_Months.f (k : Nat) (a0_0 : Int) (a0_1 : Int) (a0_2 : Int) (a1 : Int) : Option (Int × Int × Int × Option Int) := (date_May_s.f a0_0 a0_1 a0_2).bind fun t407 => (if t407 = true then (if a1 < (-3600) then (date_Months.j0 k a1 true a0_0 a0_1 a0_2) else (date_Months.j0 k a1 (decide (a1 > 3600)) a0_0 a0_1 a0_2)) else (some (0, 0, 0, some 2)))
theorem date_Months.mono_l : ∀ k, (∀ y0 y1 y2 y3 y4, LeO (date_Months.j0 k y0 y1 y2 y3 y4) (date_Months.j0 (k + 1) y0 y1 y2 y3 y4))
 | 0 => fun _ _ _ _ _ r h => by simp [date_Months.j0] at h
 | k + 1 => by
  have ih0 := date_Months.mono_l k
  ·intro y0 y1 y2 y3 y4
   unfold date_Months.j0
   repeat' first
   | (with_reducible exact ih0 _ _ _ _ _)
   | (with_reducible exact LeO.refl _)
   | (with_reducible exact LeO.none _)
   | (with_reducible refine LeO.ite ?_ ?_)
   | (with_reducible refine LeO.bind ?_ (fun _ => ?_))
   | exact ih0 _ _ _ _ _
   | exact LeO.none _
   | refine LeO.ite ?_ ?_
   | refine LeO.bind ?_ (fun _ => ?_)
theorem date_Months.mono : ∀ a0 a1 a2 a3 k, LeO (date_Months.f k a0 a1 a2 a3) (date_Months.f (k + 1) a0 a1 a2 a3) := by
 intro a0 a1 a2 a3 k
 have ih0 := date_Months.mono_l k
 unfold date_Months.f
 repeat' first
   | (with_reducible exact ih0 _ _ _ _ _)
   | (with_reducible exact LeO.refl _)
   | (with_reducible exact LeO.none _)
   | (with_reducible refine LeO.ite ?_ ?_)
   | (with_reducible refine LeO.bind ?_ (fun _ => ?_))
   | exact ih0 _ _ _ _ _
   | exact LeO.none _
   | refine LeO.ite ?_ ?_
   | refine LeO.bind ?_ (fun _ => ?_)
set_option maxHeartbeats 8000000 in
set_option maxRecDepth 100000 in
theorem date_Months.calls (k : Nat) (a0_0 : Int) (a0_1 : Int) (a0_2 : Int) (a1 : Int) (r1 : Int) (r2 : Int) (r3 : Int) (r4 : Option Int) (w : World) (h : date_Months.f k a0_0 a0_1 a0_2 a1 = some (r1, r2, r3, r4)) :
  Calls Try.prog 22 #[.agg #[.int .i64 a0_0, .int .i64 a0_1, .int .i64 a0_2], .int .i64 a1] w fun e w' => e = .returned (.tuple #[.agg #[.int .i64 r1, .int .i64 r2, .int .i64 r3], errW r4]) ∧ Below w.heap.size w w' := by
 have hu30 := Try.underlying30
 have hu26 := Try.underlying26
 have hu35 := Try.underlying35
 have HB := ka (Below.refl w.heap.size w)
 have H : ((date_May_s.f a0_0 a0_1 a0_2).bind fun t407 => (if t407 = true then (if a1 < (-3600) then (date_Months.j0 k a1 true a0_0 a0_1 a0_2) else (date_Months.j0 k a1 (decide (a1 > 3600)) a0_0 a0_1 a0_2)) else (some (0, 0, 0, some 2)))) = some (r1, r2, r3, r4) := h
 clear h
 replace H := Option.bind_eq_some_iff.mp H
 obtain ⟨t407, A30, H⟩ := H
 replace H : (if t407 = true then (if a1 < (-3600) then (date_Months.j0 k a1 true a0_0 a0_1 a0_2) else (date_Months.j0 k a1 (decide (a1 > 3600)) a0_0 a0_1 a0_2)) else (some (0, 0, 0, some 2))) = some (r1, r2, r3, r4) := H
 have A3 := ka A30
 clear A30
 by_cases c4 : t407 = true
 ·subst c4
  have H1 : (if a1 < (-3600) then (date_Months.j0 k a1 true a0_0 a0_1 a0_2) else (date_Months.j0 k a1 (decide (a1 > 3600)) a0_0 a0_1 a0_2)) = some (r1, r2, r3, r4) := by rw [if_pos rfl] at H; exact H
  clear H
  have H := H1
  clear H1
  have HC5 := ka H
  clear H
  go_enter Try.func22, Try.ntmps22
  go_upto_region 4 with (first | ((with_reducible refine gate_dst (N := 2) rfl ?_); refine kx (N := 2) (cs := #[.int .i64 a0_0, .int .i64 a0_1, .int .i64 a0_2]) (t := 30) ?_; intro gb405 hg w6 hbox hb; have n0_ := ka (below_step (kw HB.out) hb); have n1_ := ka (hbox); have n2_ := ka ((by rw [hg]; exact (below_size (kw HB.out)) : w.heap.size ≤ gb405)); have n3_ := n2_; clear HB; have HB := n0_; have BK405 := n1_; have GW405 := n2_; have GE405 := n3_; clear n0_ n1_ n2_ n3_; clear hb hbox hg) | ((with_reducible refine gate_dst (N := 4) rfl ?_); refine kx (N := 4) (cs := #[.int .i64 0, .int .i64 0, .int .i64 0]) (t := 30) ?_; intro gb406 hg w7 hbox hb; have n0_ := ka (blk_below (g := gb405) (kz BK405.out) hb); have n1_ := ka (below_step (kw HB.out) hb); have n2_ := ka (hbox); have n3_ := ka ((by rw [hg]; exact (below_size (kw HB.out)) : w.heap.size ≤ gb406)); have n4_ := n3_; have n5_ := ka ((by rw [hg]; exact Nat.ne_of_lt (blk_lt (g := gb405) (kz BK405.out)) : gb405 ≠ gb406)); have n6_ := ka n5_.out.symm; clear BK405; clear HB; have BK405 := n0_; have HB := n1_; have BK406 := n2_; have GW406 := n3_; have GE406 := n4_; have NB405_406 := n5_; have NB406_405 := n6_; clear n0_ n1_ n2_ n3_ n4_ n5_ n6_; clear hb hbox hg; have hnb8 := NB405_406.out; have hnc8 := NB406_405.out; have hcz9 := blkAll3 BK405.out) | ((with_reducible refine gate_callee (f := 33) rfl ?_); refine kg (some 12) rfl rfl Try.func33 (by kernel_rfl) rfl #[.agg #[.int .i64 a0_0, .int .i64 a0_1, .int .i64 a0_2]] rfl ?_; (with_reducible refine (date_May_s.calls a0_0 a0_1 a0_2 true _ A3.out).mono ?_); rintro e w10 ⟨rfl, hb⟩; refine ⟨_, rfl, ?_⟩; replace BK405 := kbb BK405 hb; replace BK406 := kbb BK406 hb; replace HB := ka (below_step (kw HB.out) hb); (try clear hb); (try clear hb2); (try clear hk); (try clear hi)))
  (try simp only [Act.put, List.setIfInBounds_toArray, List.set_cons_zero, List.set_cons_succ])
  go_cut [23] (fun v23 wc => ∃ (kq : Nat) (x23_4 : Bool), v23 = .bool x23_4 ∧ Aside0 (date_Months.j0 kq a1 x23_4 a0_0 a0_1 a0_2 = some (r1, r2, r3, r4)) ∧ Aside0 (kq ≤ k) ∧ Aside0 (wc.heap[gb405]? = some (.cells #[.int .i64 a0_0, .int .i64 a0_1, .int .i64 a0_2] 30 (0, 0))) ∧ Aside0 (wc.heap[gb406]? = some (.cells #[.int .i64 0, .int .i64 0, .int .i64 0] 30 (0, 0))) ∧ Aside0 (Below w.heap.size w wc))
  case first =>
   have H := HC5.out
   clear HC5
   by_cases c11 : a1 < (-3600)
   ·rw [if_pos c11] at H
    have c11b0 : decide (a1 < (-3600)) = true := decide_eq_true c11
    clear c11
    (first | rw [c11b0] | (simp only [i64_w, i32_w]; rw [c11b0]) | skip)
    have H' := ka H
    clear H
    go_wp2
    go_meet
    case rel => exact ⟨_, (true), (by first | rfl | (simp; done) | (simp [*]; done)), H', ⟨by first | omega | exact Nat.le_refl _⟩, ⟨by (with_reducible repeat (first | apply kb1 | apply kb2 | apply kb3)); exact BK405.out⟩, ⟨by (with_reducible repeat (first | apply kb1 | apply kb2 | apply kb3)); exact BK406.out⟩, ⟨by repeat (first | (with_reducible first | exact HB.out | apply kc1 | apply kc2 | apply kc3 | refine kc4 ?_ GE405.out | refine kc4 ?_ GE406.out) | exact HB.out)⟩⟩
   ·rw [if_neg c11] at H
    have c11b0 : decide (a1 < (-3600)) = false := decide_eq_false c11
    clear c11
    (first | rw [c11b0] | (simp only [i64_w, i32_w]; rw [c11b0]) | skip)
    have H' := ka H
    clear H
    go_wp2
    go_meet
    case rel => exact ⟨_, (decide (a1 > 3600)), (by first | rfl | (simp; done) | (simp [*]; done)), H', ⟨by first | omega | exact Nat.le_refl _⟩, ⟨by (with_reducible repeat (first | apply kb1 | apply kb2 | apply kb3)); exact BK405.out⟩, ⟨by (with_reducible repeat (first | apply kb1 | apply kb2 | apply kb3)); exact BK406.out⟩, ⟨by repeat (first | (with_reducible first | exact HB.out | apply kc1 | apply kc2 | apply kc3 | refine kc4 ?_ GE405.out | refine kc4 ?_ GE406.out) | exact HB.out)⟩⟩
  case rest =>
   clear HC5
   try clear c1
   try clear c2
   try clear p2
   try clear c3
   try clear c4
   try clear c8
   try clear c11
   try clear c11b0
   try clear hcz9
   obtain ⟨kq, x23_4, rfl, HA, HJ4, BK405, BK406, HB⟩ := hcut
   cases kq with
   | zero => exact absurd HA.out (by simp [date_Months.j0])
   | succ kj4 =>
    have H := HA.out
    clear HA
    simp only [date_Months.j0] at H
    by_cases c12 : x23_4 = true
    ·subst c12
     have H1 : (some (0, 0, 0, some 1)) = some (r1, r2, r3, r4) := by rw [if_pos rfl] at H; exact H
     clear H
     have H := H1
     clear H1
     simp only [Option.some.injEq, Prod.mk.injEq] at H
     obtain ⟨rfl, rfl, rfl, rfl⟩ := H
     have hnb13 := NB406_405.out
     have hnc13 := NB405_406.out
     have hcz14 := blkAll3 BK406.out
     go_wp2
     refine bodyPost_ret (results_ct rfl _ _ gb406 30 #[.int .i64 0, .int .i64 0, .int .i64 0] (0, 0) _ rfl (by (with_reducible repeat (first | apply kb1 | apply kb2 | apply kb3 | apply blkPut3_2 | apply blkPut3_1 | apply blkPut3_0)); exact BK406.out) Try.underlying30 rfl (by kernel_rfl)) rfl ?_
     exact ⟨by first | rfl | (simp [errW_none, errW_some] <;> rfl) | (simp [*, errW_none, errW_some] <;> rfl), by repeat (first | (with_reducible first | exact HB.out | apply kc1 | apply kc2 | apply kc3 | refine kc4 ?_ GE405.out | refine kc4 ?_ GE406.out) | exact HB.out)⟩
    ·replace c12 := Bool.eq_false_iff.mpr c12
     subst c12
     have H1 : ((date_Days.f (wrap64 (Int.tdiv (wrap64 ((wrap64 ((wrap64 ((wrap64 (a0_0 * 12)) + a0_1)) - 1)) + a1)) 12)) (wrap64 ((Int.tmod (wrap64 ((wrap64 ((wrap64 ((wrap64 (a0_0 * 12)) + a0_1)) - 1)) + a1)) 12) + 1))).bind fun t409 => (if t409 = 0 then (some (0, 0, 0, some 1)) else (some (wrap64 (Int.tdiv (wrap64 ((wrap64 ((wrap64 ((wrap64 (a0_0 * 12)) + a0_1)) - 1)) + a1)) 12), wrap64 ((Int.tmod (wrap64 ((wrap64 ((wrap64 ((wrap64 (a0_0 * 12)) + a0_1)) - 1)) + a1)) 12) + 1), mn a0_2 t409, none)))) = some (r1, r2, r3, r4) := by rw [if_neg (show ¬ (false = true) by decide)] at H; exact H
     clear H
     have H := H1
     clear H1
     replace H := Option.bind_eq_some_iff.mp H
     obtain ⟨t409, A150, H⟩ := H
     replace H : (if t409 = 0 then (some (0, 0, 0, some 1)) else (some (wrap64 (Int.tdiv (wrap64 ((wrap64 ((wrap64 ((wrap64 (a0_0 * 12)) + a0_1)) - 1)) + a1)) 12), wrap64 ((Int.tmod (wrap64 ((wrap64 ((wrap64 ((wrap64 (a0_0 * 12)) + a0_1)) - 1)) + a1)) 12) + 1), mn a0_2 t409, none))) = some (r1, r2, r3, r4) := H
     have A15 := ka A150
     clear A150
     by_cases c16 : t409 = 0
     ·rw [if_pos c16] at H
      have c16b0 : (t409 == 0) = true := beq_iff_eq.mpr c16
      have c16b1 : (t409 != 0) = false := bne_eq_false_iff_eq.mpr c16
      clear c16
      simp only [Option.some.injEq, Prod.mk.injEq] at H
      obtain ⟨rfl, rfl, rfl, rfl⟩ := H
      have hnb17 := NB405_406.out
      have hnc17 := NB406_405.out
      have hcz18 := blkAll3 BK405.out
      go_wp2_with (first | ((with_reducible refine gate_dst (N := 9) rfl ?_); refine kx (N := 9) (cs := #[.int .i64 0, .int .i64 0, .int .i64 0]) (t := 30) ?_; intro gb408 hg w19 hbox hb; have n0_ := ka (blk_below (g := gb405) (kz BK405.out) hb); have n1_ := ka (blk_below (g := gb406) (kz BK406.out) hb); have n2_ := ka (below_step (kw HB.out) hb); have n3_ := ka (hbox); have n4_ := ka ((by rw [hg]; exact (below_size (kw HB.out)) : w.heap.size ≤ gb408)); have n5_ := n4_; have n6_ := ka ((by rw [hg]; exact Nat.ne_of_lt (blk_lt (g := gb405) (kz BK405.out)) : gb405 ≠ gb408)); have n7_ := ka n6_.out.symm; have n8_ := ka ((by rw [hg]; exact Nat.ne_of_lt (blk_lt (g := gb406) (kz BK406.out)) : gb406 ≠ gb408)); have n9_ := ka n8_.out.symm; clear BK405; clear BK406; clear HB; have BK405 := n0_; have BK406 := n1_; have HB := n2_; have BK408 := n3_; have GW408 := n4_; have GE408 := n5_; have NB405_408 := n6_; have NB408_405 := n7_; have NB406_408 := n8_; have NB408_406 := n9_; clear n0_ n1_ n2_ n3_ n4_ n5_ n6_ n7_ n8_ n9_; clear hb hbox hg; have hnb20 := NB408_405.out; have hnc20 := NB405_408.out; have hnb21 := NB408_406.out; have hnc21 := NB406_408.out; have hcz22 := blkAll3 BK408.out) | ((with_reducible refine gate_callee (f := 34) rfl ?_); refine kg (some 45) rfl rfl Try.func34 (by kernel_rfl) rfl #[.int .i64 (wrap64 (Int.tdiv (wrap64 ((wrap64 ((wrap64 ((wrap64 (a0_0 * 12)) + a0_1)) - 1)) + a1)) 12)), .int .i64 (wrap64 ((Int.tmod (wrap64 ((wrap64 ((wrap64 ((wrap64 (a0_0 * 12)) + a0_1)) - 1)) + a1)) 12) + 1))] rfl ?_; (with_reducible refine (date_Days.calls (wrap64 (Int.tdiv (wrap64 ((wrap64 ((wrap64 ((wrap64 (a0_0 * 12)) + a0_1)) - 1)) + a1)) 12)) (wrap64 ((Int.tmod (wrap64 ((wrap64 ((wrap64 ((wrap64 (a0_0 * 12)) + a0_1)) - 1)) + a1)) 12) + 1)) t409 _ A15.out).mono ?_); rintro e w23 ⟨rfl, hb⟩; refine ⟨_, rfl, ?_⟩; replace BK405 := ka (blk_below (g := gb405) (o := .cells #[.int .i64 a0_0, .int .i64 a0_1, .int .i64 a0_2] 30 (0, 0)) (by (with_reducible repeat (first | apply kb1 | apply kb2 | apply kb3 | refine kb4 ?_ NB405_408.out _)); exact BK405.out) hb); replace BK406 := ka (blk_below (g := gb406) (o := .cells #[.int .i64 0, .int .i64 0, .int .i64 0] 30 (0, 0)) (by (with_reducible repeat (first | apply kb1 | apply kb2 | apply kb3 | refine kb4 ?_ NB406_408.out _)); exact BK406.out) hb); replace BK408 := ka (blk_below (g := gb408) (o := .cells #[.int .i64 (wrap64 (Int.tdiv (wrap64 ((wrap64 ((wrap64 ((wrap64 (a0_0 * 12)) + a0_1)) - 1)) + a1)) 12)), .int .i64 (wrap64 ((Int.tmod (wrap64 ((wrap64 ((wrap64 ((wrap64 (a0_0 * 12)) + a0_1)) - 1)) + a1)) 12) + 1)), .int .i64 0] 30 (0, 0)) (by (with_reducible repeat (first | apply kb1 | apply kb2 | apply kb3 | apply blkPut3_2 | apply blkPut3_1 | apply blkPut3_0)); exact BK408.out) hb); replace HB := ka (below_step (kw HB.out) hb); (try clear hb); (try clear hb2); (try clear hk); (try clear hi); have hcz24 := blkAll3 BK406.out))
      refine bodyPost_ret (results_ct rfl _ _ gb406 30 #[.int .i64 0, .int .i64 0, .int .i64 0] (0, 0) _ rfl (by (with_reducible repeat (first | apply kb1 | apply kb2 | apply kb3 | apply blkPut3_2 | apply blkPut3_1 | apply blkPut3_0)); exact BK406.out) Try.underlying30 rfl (by kernel_rfl)) rfl ?_
      exact ⟨by first | rfl | (simp [errW_none, errW_some] <;> rfl) | (simp [*, errW_none, errW_some] <;> rfl), by repeat (first | (with_reducible first | exact HB.out | apply kc1 | apply kc2 | apply kc3 | refine kc4 ?_ GE405.out | refine kc4 ?_ GE406.out | refine kc4 ?_ GE408.out) | exact HB.out)⟩
     ·rw [if_neg c16] at H
      have c16b0 : (t409 == 0) = false := beq_eq_false_iff_ne.mpr c16
      have c16b1 : (t409 != 0) = true := bne_iff_ne.mpr c16
      obtain ⟨ji25, hji25⟩ : ∃ j_ : Int, (mn a0_2 t409) = j_ := ⟨_, rfl⟩
      replace H : (some (wrap64 (Int.tdiv (wrap64 ((wrap64 ((wrap64 ((wrap64 (a0_0 * 12)) + a0_1)) - 1)) + a1)) 12), wrap64 ((Int.tmod (wrap64 ((wrap64 ((wrap64 ((wrap64 (a0_0 * 12)) + a0_1)) - 1)) + a1)) 12) + 1), ji25, none)) = some (r1, r2, r3, r4) := by first | (rw [hji25] at H; exact H) | (simp only [hji25] at H ⊢; exact H)
      (try rw [hji25] at A15)
      have hji25_ : (if t409 < a0_2 then t409 else a0_2) = ji25 := hji25
      simp only [Option.some.injEq, Prod.mk.injEq] at H
      obtain ⟨rfl, rfl, rfl, rfl⟩ := H
      have hnb26 := NB405_406.out
      have hnc26 := NB406_405.out
      have hcz27 := blkAll3 BK405.out
      go_wp2_with (first | ((with_reducible refine gate_dst (N := 9) rfl ?_); refine kx (N := 9) (cs := #[.int .i64 0, .int .i64 0, .int .i64 0]) (t := 30) ?_; intro gb408 hg w28 hbox hb; have n0_ := ka (blk_below (g := gb405) (kz BK405.out) hb); have n1_ := ka (blk_below (g := gb406) (kz BK406.out) hb); have n2_ := ka (below_step (kw HB.out) hb); have n3_ := ka (hbox); have n4_ := ka ((by rw [hg]; exact (below_size (kw HB.out)) : w.heap.size ≤ gb408)); have n5_ := n4_; have n6_ := ka ((by rw [hg]; exact Nat.ne_of_lt (blk_lt (g := gb405) (kz BK405.out)) : gb405 ≠ gb408)); have n7_ := ka n6_.out.symm; have n8_ := ka ((by rw [hg]; exact Nat.ne_of_lt (blk_lt (g := gb406) (kz BK406.out)) : gb406 ≠ gb408)); have n9_ := ka n8_.out.symm; clear BK405; clear BK406; clear HB; have BK405 := n0_; have BK406 := n1_; have HB := n2_; have BK408 := n3_; have GW408 := n4_; have GE408 := n5_; have NB405_408 := n6_; have NB408_405 := n7_; have NB406_408 := n8_; have NB408_406 := n9_; clear n0_ n1_ n2_ n3_ n4_ n5_ n6_ n7_ n8_ n9_; clear hb hbox hg; have hnb29 := NB408_405.out; have hnc29 := NB405_408.out; have hnb30 := NB408_406.out; have hnc30 := NB406_408.out; have hcz31 := blkAll3 BK408.out) | ((with_reducible refine gate_callee (f := 34) rfl ?_); refine kg (some 45) rfl rfl Try.func34 (by kernel_rfl) rfl #[.int .i64 (wrap64 (Int.tdiv (wrap64 ((wrap64 ((wrap64 ((wrap64 (a0_0 * 12)) + a0_1)) - 1)) + a1)) 12)), .int .i64 (wrap64 ((Int.tmod (wrap64 ((wrap64 ((wrap64 ((wrap64 (a0_0 * 12)) + a0_1)) - 1)) + a1)) 12) + 1))] rfl ?_; (with_reducible refine (date_Days.calls (wrap64 (Int.tdiv (wrap64 ((wrap64 ((wrap64 ((wrap64 (a0_0 * 12)) + a0_1)) - 1)) + a1)) 12)) (wrap64 ((Int.tmod (wrap64 ((wrap64 ((wrap64 ((wrap64 (a0_0 * 12)) + a0_1)) - 1)) + a1)) 12) + 1)) t409 _ A15.out).mono ?_); rintro e w32 ⟨rfl, hb⟩; refine ⟨_, rfl, ?_⟩; replace BK405 := ka (blk_below (g := gb405) (o := .cells #[.int .i64 a0_0, .int .i64 a0_1, .int .i64 a0_2] 30 (0, 0)) (by (with_reducible repeat (first | apply kb1 | apply kb2 | apply kb3 | refine kb4 ?_ NB405_408.out _)); exact BK405.out) hb); replace BK406 := ka (blk_below (g := gb406) (o := .cells #[.int .i64 0, .int .i64 0, .int .i64 0] 30 (0, 0)) (by (with_reducible repeat (first | apply kb1 | apply kb2 | apply kb3 | refine kb4 ?_ NB406_408.out _)); exact BK406.out) hb); replace BK408 := ka (blk_below (g := gb408) (o := .cells #[.int .i64 (wrap64 (Int.tdiv (wrap64 ((wrap64 ((wrap64 ((wrap64 (a0_0 * 12)) + a0_1)) - 1)) + a1)) 12)), .int .i64 (wrap64 ((Int.tmod (wrap64 ((wrap64 ((wrap64 ((wrap64 (a0_0 * 12)) + a0_1)) - 1)) + a1)) 12) + 1)), .int .i64 0] 30 (0, 0)) (by (with_reducible repeat (first | apply kb1 | apply kb2 | apply kb3 | apply blkPut3_2 | apply blkPut3_1 | apply blkPut3_0)); exact BK408.out) hb); replace HB := ka (below_step (kw HB.out) hb); (try clear hb); (try clear hb2); (try clear hk); (try clear hi); have hcz33 := blkAll3 BK405.out; have hcz34 := blkAll3 BK408.out; have hcz35 := blkAll3 BK406.out))
      refine bodyPost_ret (results_ct rfl _ _ gb406 30 #[.int .i64 (wrap64 (Int.tdiv (wrap64 ((wrap64 ((wrap64 ((wrap64 (a0_0 * 12)) + a0_1)) - 1)) + a1)) 12)), .int .i64 (wrap64 ((Int.tmod (wrap64 ((wrap64 ((wrap64 ((wrap64 (a0_0 * 12)) + a0_1)) - 1)) + a1)) 12) + 1)), .int .i64 ji25] (0, 0) _ rfl (by (with_reducible repeat (first | apply kb1 | apply kb2 | apply kb3 | apply blkPut3_2 | apply blkPut3_1 | apply blkPut3_0 | refine kb4 ?_ NB406_408.out _)); exact BK406.out) Try.underlying30 rfl (by kernel_rfl)) rfl ?_
      exact ⟨by first | rfl | (simp [errW_none, errW_some] <;> rfl) | (simp only [← hji25]; first | rfl | (simp [errW_none, errW_some] <;> rfl)) | (simp [*, errW_none, errW_some] <;> rfl), by repeat (first | (with_reducible first | exact HB.out | apply kc1 | apply kc2 | apply kc3 | refine kc4 ?_ GE405.out | refine kc4 ?_ GE406.out | refine kc4 ?_ GE408.out) | exact HB.out)⟩
 ·replace c4 := Bool.eq_false_iff.mpr c4
  subst c4
  have H1 : (some (0, 0, 0, some 2)) = some (r1, r2, r3, r4) := by rw [if_neg (show ¬ (false = true) by decide)] at H; exact H
  clear H
  have H := H1
  clear H1
  simp only [Option.some.injEq, Prod.mk.injEq] at H
  obtain ⟨rfl, rfl, rfl, rfl⟩ := H
  go_enter Try.func22, Try.ntmps22
  go_wp2_with (first | ((with_reducible refine gate_dst (N := 2) rfl ?_); refine kx (N := 2) (cs := #[.int .i64 a0_0, .int .i64 a0_1, .int .i64 a0_2]) (t := 30) ?_; intro gb405 hg w36 hbox hb; have n0_ := ka (below_step (kw HB.out) hb); have n1_ := ka (hbox); have n2_ := ka ((by rw [hg]; exact (below_size (kw HB.out)) : w.heap.size ≤ gb405)); have n3_ := n2_; clear HB; have HB := n0_; have BK405 := n1_; have GW405 := n2_; have GE405 := n3_; clear n0_ n1_ n2_ n3_; clear hb hbox hg) | ((with_reducible refine gate_dst (N := 4) rfl ?_); refine kx (N := 4) (cs := #[.int .i64 0, .int .i64 0, .int .i64 0]) (t := 30) ?_; intro gb406 hg w37 hbox hb; have n0_ := ka (blk_below (g := gb405) (kz BK405.out) hb); have n1_ := ka (below_step (kw HB.out) hb); have n2_ := ka (hbox); have n3_ := ka ((by rw [hg]; exact (below_size (kw HB.out)) : w.heap.size ≤ gb406)); have n4_ := n3_; have n5_ := ka ((by rw [hg]; exact Nat.ne_of_lt (blk_lt (g := gb405) (kz BK405.out)) : gb405 ≠ gb406)); have n6_ := ka n5_.out.symm; clear BK405; clear HB; have BK405 := n0_; have HB := n1_; have BK406 := n2_; have GW406 := n3_; have GE406 := n4_; have NB405_406 := n5_; have NB406_405 := n6_; clear n0_ n1_ n2_ n3_ n4_ n5_ n6_; clear hb hbox hg; have hnb38 := NB405_406.out; have hnc38 := NB406_405.out; have hcz39 := blkAll3 BK405.out) | ((with_reducible refine gate_callee (f := 33) rfl ?_); refine kg (some 12) rfl rfl Try.func33 (by kernel_rfl) rfl #[.agg #[.int .i64 a0_0, .int .i64 a0_1, .int .i64 a0_2]] rfl ?_; (with_reducible refine (date_May_s.calls a0_0 a0_1 a0_2 false _ A3.out).mono ?_); rintro e w40 ⟨rfl, hb⟩; refine ⟨_, rfl, ?_⟩; replace BK405 := kbb BK405 hb; replace BK406 := kbb BK406 hb; replace HB := ka (below_step (kw HB.out) hb); (try clear hb); (try clear hb2); (try clear hk); (try clear hi); have hcz41 := blkAll3 BK406.out))
  refine bodyPost_ret (results_ct rfl _ _ gb406 30 #[.int .i64 0, .int .i64 0, .int .i64 0] (0, 0) _ rfl (by (with_reducible repeat (first | apply kb1 | apply kb2 | apply kb3 | apply blkPut3_2 | apply blkPut3_1 | apply blkPut3_0)); exact BK406.out) Try.underlying30 rfl (by kernel_rfl)) rfl ?_
  exact ⟨by first | rfl | (simp [errW_none, errW_some] <;> rfl) | (simp [*, errW_none, errW_some] <;> rfl), by repeat (first | (with_reducible first | exact HB.out | apply kc1 | apply kc2 | apply kc3 | refine kc4 ?_ GE405.out | refine kc4 ?_ GE406.out) | exact HB.out)⟩

/-! ### date_Months_s: function 22, told plainly -/
theorem date_Months.tells (y m d n : Int) (k : Nat) (hk : 1 ≤ k) : date_Months.f k y m d n =
  some (if M.date y m d then (if -3600 ≤ n ∧ n ≤ 3600 ∧ M.inYears (M.mt y m + n) then ((M.mt y m + n) / 12, (M.mt y m + n) % 12 + 1, M.cut d (M.len (M.mt y m + n)), none) else (0, 0, 0, some 1)) else (0, 0, 0, some 2)) := by
 obtain ⟨k, rfl⟩ : ∃ m, k = m + 1 := ⟨k - 1, by omega⟩
 unfold date_Months.f date_May_s.f
 rw [Option.bind_some]
 by_cases h : M.date y m d
 ·have a := M.date_in h
  rw [if_pos (decide_eq_true h), if_pos h]
  by_cases h1 : n < -3600
  ·rw [if_pos h1, if_neg (fun hh => by have := hh.1; omega)]
   simp [date_Months.j0]
  rw [if_neg h1]
  by_cases h2 : n > 3600
  ·rw [decide_eq_true h2, if_neg (fun hh => by have := hh.2.1; omega)]
   simp [date_Months.j0]
  rw [decide_eq_false h2]
  simp only [date_Months.j0]
  rw [if_neg (by decide)]
  have e : wrap64 (wrap64 (wrap64 (wrap64 (y * 12) + m) - 1) + n) = M.mt y m + n := by
   rw [M.w64_id (n := y * 12) (by omega) (by omega), M.w64_id (n := y * 12 + m) (by omega) (by omega), M.w64_id (n := y * 12 + m - 1) (by omega) (by omega), M.w64_id (n := y * 12 + m - 1 + n) (by omega) (by omega)]
   unfold M.mt
   omega
  have hb : 0 ≤ M.mt y m + n ∧ M.mt y m + n ≤ 100000 := by unfold M.mt; omega
  rw [e]
  generalize M.mt y m + n = t at *
  rw [M.tdivu hb.1, M.tmodu hb.1, M.w64_id (n := t / 12) (by omega) (by omega), M.w64_id (n := t % 12 + 1) (by omega) (by omega)]
  unfold date_Days.f
  rw [Option.bind_some]
  have hi := M.inYears_iff t
  by_cases hz : M.days (t / 12) (t % 12 + 1) = 0
  ·rw [if_pos hz, if_neg (fun hh => hi.mp hh.2.2 hz)]
  ·rw [if_neg hz, if_pos ⟨by omega, by omega, hi.mpr hz⟩]
   have : mn d (M.days (t / 12) (t % 12 + 1)) = M.cut d (M.len t) := by unfold mn M.cut M.len; split <;> split <;> omega
   rw [this]
 ·rw [if_neg (by simpa using h), if_neg h]
def date_Months_s.f (y m d n : Int) : Option (Int × Int × Int × Option Int) :=
 some (if M.date y m d then (if -3600 ≤ n ∧ n ≤ 3600 ∧ M.inYears (M.mt y m + n) then ((M.mt y m + n) / 12, (M.mt y m + n) % 12 + 1, M.cut d (M.len (M.mt y m + n)), none) else (0, 0, 0, some 1)) else (0, 0, 0, some 2))
theorem date_Months_s.calls (a0_0 : Int) (a0_1 : Int) (a0_2 : Int) (a1 : Int) (r1 : Int) (r2 : Int) (r3 : Int) (r4 : Option Int) (w : World) (h : date_Months_s.f a0_0 a0_1 a0_2 a1 = some (r1, r2, r3, r4)) :
  Calls Try.prog 22 #[.agg #[.int .i64 a0_0, .int .i64 a0_1, .int .i64 a0_2], .int .i64 a1] w fun e w' => e = .returned (.tuple #[.agg #[.int .i64 r1, .int .i64 r2, .int .i64 r3], errW r4]) ∧ Below w.heap.size w w' := by
 exact date_Months.calls (1) a0_0 a0_1 a0_2 a1 r1 r2 r3 r4 w ((date_Months.tells a0_0 a0_1 a0_2 a1 (1) (Nat.le_refl _)).trans h)
theorem date_Months_s.yes {y m d n : Int} (h : M.date y m d) (hn : -3600 ≤ n ∧ n ≤ 3600 ∧ M.inYears (M.mt y m + n)) : date_Months_s.f y m d n = some ((M.mt y m + n) / 12, (M.mt y m + n) % 12 + 1, M.cut d (M.len (M.mt y m + n)), none) := by unfold date_Months_s.f; rw [if_pos h, if_pos hn]
theorem date_Months_s.out {y m d n : Int} (h : M.date y m d) (hn : ¬ (-3600 ≤ n ∧ n ≤ 3600 ∧ M.inYears (M.mt y m + n))) : date_Months_s.f y m d n = some (0, 0, 0, some 1) := by unfold date_Months_s.f; rw [if_pos h, if_neg hn]
theorem date_Months_s.no {y m d n : Int} (h : ¬ M.date y m d) : date_Months_s.f y m d n = some (0, 0, 0, some 2) := by unfold date_Months_s.f; rw [if_neg h]

/-! ### calendar_Months: function 10 -/
mutual
def calendar_Months.j0 : Nat → List (S48) → Bool → Int → Int → Int → Option (List Int × Option Int)
 | 0, _, _, _, _, _ => none
 | k + 1, x0, x29, x415000, x415001, x415002 => if x29 = true then (some (([] : List Int), some 1)) else ((date_Months_s.f x415000 x415001 x415002 12).bind fun bt418 => (if bt418.2.2.2.isNone = true then (if 12 ≤ 35184372088832 then (calendar_Months.l0 k (List.replicate 12 0) x0 (x0.length : Int) 0 x415000 x415001 x415002) else (none)) else (some (([] : List Int), some 1))))
def calendar_Months.l0 : Nat → List Int → List (S48) → Int → Int → Int → Int → Int → Option (List Int × Option Int)
 | 0, _, _, _, _, _, _, _ => none
 | k + 1, x10, x40, x41, x42, x415000, x415001, x415002 => if x42 < x41 then (if 0 ≤ x42 then (if x42 < (x40.length : Int) then (if 0 ≤ (Int.tmod (wrap64 ((wrap64 (((rd_T48 x40 x42).f0) - x415001)) + 12)) 12) then (if (Int.tmod (wrap64 ((wrap64 (((rd_T48 x40 x42).f0) - x415001)) + 12)) 12) < (x10.length : Int) then (calendar_Months.l0 k (x10.set ((Int.tmod (wrap64 ((wrap64 (((rd_T48 x40 x42).f0) - x415001)) + 12)) 12) : Int).toNat (wrap64 ((rd x10 (Int.tmod (wrap64 ((wrap64 (((rd_T48 x40 x42).f0) - x415001)) + 12)) 12)) + ((rd_T48 x40 x42).f2)))) x40 x41 (wrap64 (x42 + 1)) x415000 x415001 x415002) else (none)) else (none)) else (none)) else (none)) else (some (x10, none))
end
def calendar_Months.f (k : Nat) (l0 : List (S48)) (a1 : Int) : Option (List Int × Option Int) := (date_Of_s.f a1).bind fun bt410 => (if bt410.2.2.2.isNone = true then (if bt410.2.2.1 = 1 then ((calendar_Check.f l0).bind fun t416 => (if t416.isNone = true then (calendar_Months.j0 k l0 false bt410.1 bt410.2.1 bt410.2.2.1) else (calendar_Months.j0 k l0 true bt410.1 bt410.2.1 bt410.2.2.1))) else (calendar_Months.j0 k l0 true bt410.1 bt410.2.1 bt410.2.2.1)) else (calendar_Months.j0 k l0 true bt410.1 bt410.2.1 bt410.2.2.1))
theorem calendar_Months.mono_l : ∀ k, (∀ y0 y1 y2 y3 y4, LeO (calendar_Months.j0 k y0 y1 y2 y3 y4) (calendar_Months.j0 (k + 1) y0 y1 y2 y3 y4)) ∧ (∀ y0 y1 y2 y3 y4 y5 y6, LeO (calendar_Months.l0 k y0 y1 y2 y3 y4 y5 y6) (calendar_Months.l0 (k + 1) y0 y1 y2 y3 y4 y5 y6))
 | 0 => ⟨fun _ _ _ _ _ r h => by simp [calendar_Months.j0] at h, fun _ _ _ _ _ _ _ r h => by simp [calendar_Months.l0] at h⟩
 | k + 1 => by
  obtain ⟨ih0, ih1⟩ := calendar_Months.mono_l k
  refine ⟨?_, ?_⟩
  ·intro y0 y1 y2 y3 y4
   unfold calendar_Months.j0
   repeat' first
   | (with_reducible exact ih0 _ _ _ _ _)
   | (with_reducible exact ih1 _ _ _ _ _ _ _)
   | (with_reducible exact LeO.refl _)
   | (with_reducible exact LeO.none _)
   | (with_reducible refine LeO.ite ?_ ?_)
   | (with_reducible refine LeO.bind ?_ (fun _ => ?_))
   | exact ih0 _ _ _ _ _
   | exact ih1 _ _ _ _ _ _ _
   | exact LeO.none _
   | refine LeO.ite ?_ ?_
   | refine LeO.bind ?_ (fun _ => ?_)
  ·intro y0 y1 y2 y3 y4 y5 y6
   unfold calendar_Months.l0
   repeat' first
   | (with_reducible exact ih0 _ _ _ _ _)
   | (with_reducible exact ih1 _ _ _ _ _ _ _)
   | (with_reducible exact LeO.refl _)
   | (with_reducible exact LeO.none _)
   | (with_reducible refine LeO.ite ?_ ?_)
   | (with_reducible refine LeO.bind ?_ (fun _ => ?_))
   | exact ih0 _ _ _ _ _
   | exact ih1 _ _ _ _ _ _ _
   | exact LeO.none _
   | refine LeO.ite ?_ ?_
   | refine LeO.bind ?_ (fun _ => ?_)
theorem calendar_Months.mono : ∀ a0 a1 k, LeO (calendar_Months.f k a0 a1) (calendar_Months.f (k + 1) a0 a1) := by
 intro a0 a1 k
 obtain ⟨ih0, ih1⟩ := calendar_Months.mono_l k
 unfold calendar_Months.f
 repeat' first
   | (with_reducible exact ih0 _ _ _ _ _)
   | (with_reducible exact ih1 _ _ _ _ _ _ _)
   | (with_reducible exact LeO.refl _)
   | (with_reducible exact LeO.none _)
   | (with_reducible refine LeO.ite ?_ ?_)
   | (with_reducible refine LeO.bind ?_ (fun _ => ?_))
   | exact ih0 _ _ _ _ _
   | exact ih1 _ _ _ _ _ _ _
   | exact LeO.none _
   | refine LeO.ite ?_ ?_
   | refine LeO.bind ?_ (fun _ => ?_)
def calendar_Months.T11 : Bool × List (List Nat × List Nat) := (true, [([], []), ([], []), ([1], [1]), ([], []), ([3], [3]), ([2, 4], [2, 4]), ([5], [5]), ([6], [6]), ([0, 7], [0, 7]), ([8], [8]), ([], []), ([10], [10]), ([9, 11], [9, 11]), ([0, 7, 0, 1, 2, 3, 4, 5, 6, 7, 8, 9, 10, 11, 12], [0, 7]), ([13, 12, 0, 1, 2, 3, 4, 5, 6, 7, 8, 9, 10, 11, 12], [12, 13])])
def calendar_Months.B11 : List Nat := [0, 0, 2, 0, 8, 30, 62, 126, 255, 511, 0, 1024, 4095, 8191, 16383]
theorem calendar_Months.tab11 : rtab .any (opsOf Try.f10 11) = calendar_Months.T11 := by kernel_rfl
theorem calendar_Months.bits11 : waitsOk calendar_Months.T11.2 calendar_Months.B11 = true := by kernel_rfl
set_option maxHeartbeats 8000000 in
set_option maxRecDepth 100000 in
theorem calendar_Months.calls (k : Nat) (A0 : Option Addr) (c0 : Nat) (l0 : List (S48)) (a1 : Int) (r1 : List Int) (r2 : Option Int) (w : World) (hr0 : Kd.C k48 w A0 l0.length l0) (hc0 : l0.length ≤ c0) (h : calendar_Months.f k l0 a1 = some (r1, r2)) :
  Calls Try.prog 10 #[.slice A0 l0.length c0, .int .i64 a1] w fun e w' => ∃ v0_ : Value, e = .returned (.tuple #[v0_, errW r2]) ∧ Kd.R (Kd.int .i64) 2 w' w.heap.size (fun _ => True) v0_ r1 ∧ Below w.heap.size w w' := by
 have hu30 := Try.underlying30
 have hu48 := Try.underlying48
 have hu26 := Try.underlying26
 have hu35 := Try.underlying35
 have HR0 := ka hr0
 have HC0 := ka hc0
 clear hr0 hc0
 have HB := ka (Below.refl w.heap.size w)
 have H : ((date_Of_s.f a1).bind fun bt410 => (if bt410.2.2.2.isNone = true then (if bt410.2.2.1 = 1 then ((calendar_Check.f l0).bind fun t416 => (if t416.isNone = true then (calendar_Months.j0 k l0 false bt410.1 bt410.2.1 bt410.2.2.1) else (calendar_Months.j0 k l0 true bt410.1 bt410.2.1 bt410.2.2.1))) else (calendar_Months.j0 k l0 true bt410.1 bt410.2.1 bt410.2.2.1)) else (calendar_Months.j0 k l0 true bt410.1 bt410.2.1 bt410.2.2.1))) = some (r1, r2) := h
 clear h
 replace H := Option.bind_eq_some_iff.mp H
 obtain ⟨⟨t410, t411, t412, t413⟩, A30, H⟩ := H
 replace H : (if t413.isNone = true then (if t412 = 1 then ((calendar_Check.f l0).bind fun t416 => (if t416.isNone = true then (calendar_Months.j0 k l0 false t410 t411 t412) else (calendar_Months.j0 k l0 true t410 t411 t412))) else (calendar_Months.j0 k l0 true t410 t411 t412)) else (calendar_Months.j0 k l0 true t410 t411 t412)) = some (r1, r2) := H
 have A3 := ka A30
 clear A30
 have HC4 := ka H
 clear H
 go_enter Try.func10, Try.ntmps10
 go_upto_region 2 with (first | ((with_reducible refine gate_callee (f := 21) rfl ?_); refine kg (some 15) rfl rfl Try.func21 (by kernel_rfl) rfl #[.int .i64 a1] rfl ?_; (with_reducible refine (date_Of_s.calls a1 t410 t411 t412 t413 _ A3.out).mono ?_); rintro e w5 ⟨rfl, hb⟩; refine ⟨_, rfl, ?_⟩; replace HB := ka (below_step (kw HB.out) hb); (try clear hb); (try clear hb2); (try clear hk); (try clear hi); (try simp only [errW_none, errW_some])) | ((with_reducible refine gate_dst (N := 6) rfl ?_); refine kx (N := 6) (cs := #[.int .i64 0, .int .i64 0, .int .i64 0]) (t := 30) ?_; intro gb414 hg w6 hbox hb; have n0_ := ka (below_step (kw HB.out) hb); have n1_ := ka (hbox); have n2_ := ka ((by rw [hg]; exact (below_size (kw HB.out)) : w.heap.size ≤ gb414)); have n3_ := n2_; clear HB; have HB := n0_; have BK414 := n1_; have GW414 := n2_; have GE414 := n3_; clear n0_ n1_ n2_ n3_; clear hb hbox hg; have hcz7 := blkAll3 BK414.out))
 (try simp only [Act.put, List.setIfInBounds_toArray, List.set_cons_zero, List.set_cons_succ])
 go_cut [29] (fun v29 wc => ∃ (kq : Nat) (x29_3 : Bool), v29 = .bool x29_3 ∧ Aside0 (calendar_Months.j0 kq l0 x29_3 t410 t411 t412 = some (r1, r2)) ∧ Aside0 (kq ≤ k) ∧ Aside0 (wc.heap[gb414]? = some (.cells #[.int .i64 t410, .int .i64 t411, .int .i64 t412] 30 (0, 0))) ∧ Aside0 (Below w.heap.size w wc))
 case first =>
  have H := HC4.out
  clear HC4
  rcases t413 with _ | q415
  ·have H1 : (if t412 = 1 then ((calendar_Check.f l0).bind fun t416 => (if t416.isNone = true then (calendar_Months.j0 k l0 false t410 t411 t412) else (calendar_Months.j0 k l0 true t410 t411 t412))) else (calendar_Months.j0 k l0 true t410 t411 t412)) = some (r1, r2) := by rw [if_pos (show (none : Option Int).isNone = true by rfl)] at H; exact H
   clear H
   have H := H1
   clear H1
   try simp only [errW_none, errW_some]
   by_cases c8 : t412 = 1
   ·rw [if_pos c8] at H
    have c8b0 : (t412 == 1) = true := beq_iff_eq.mpr c8
    have c8b1 : (t412 != 1) = false := bne_eq_false_iff_eq.mpr c8
    clear c8
    (first | rw [c8b0] | (simp only [i64_w, i32_w]; rw [c8b0]) | skip)
    replace H := Option.bind_eq_some_iff.mp H
    obtain ⟨t416, A90, H⟩ := H
    replace H : (if t416.isNone = true then (calendar_Months.j0 k l0 false t410 t411 t412) else (calendar_Months.j0 k l0 true t410 t411 t412)) = some (r1, r2) := H
    have A9 := ka A90
    clear A90
    rcases t416 with _ | q417
    ·have H1 : (calendar_Months.j0 k l0 false t410 t411 t412) = some (r1, r2) := by rw [if_pos (show (none : Option Int).isNone = true by rfl)] at H; exact H
     clear H
     have H := H1
     clear H1
     try simp only [errW_none, errW_some]
     have H' := ka H
     clear H
     have hcz10 := blkAll3 BK414.out
     go_wp2_with (first | (go_at_call 16; (with_reducible refine (calendar_Check.calls _ _ l0 none _ ?side1 ?side2 A9.out).mono ?_); (case side1 => exact Kd.C_below HR0.out (kw HB.out)); (case side2 => exact HC0.out); rintro e w11 ⟨rfl, hb⟩; replace BK414 := ka (blk_below (g := gb414) (o := .cells #[.int .i64 t410, .int .i64 t411, .int .i64 t412] 30 (0, 0)) (by (with_reducible repeat (first | apply kb1 | apply kb2 | apply kb3 | apply blkPut3_2 | apply blkPut3_1 | apply blkPut3_0)); exact BK414.out) hb); replace HB := ka (below_step (kw HB.out) hb); (try clear hb); (try clear hb2); (try clear hk); (try clear hi); (try simp only [errW_none, errW_some])))
     go_meet
     case rel => exact ⟨_, (false), (by first | rfl | (simp; done) | (simp [*]; done)), H', ⟨by first | omega | exact Nat.le_refl _⟩, ⟨by (with_reducible repeat (first | apply kb1 | apply kb2 | apply kb3)); exact BK414.out⟩, ⟨by repeat (first | (with_reducible first | exact HB.out | apply kc1 | apply kc2 | apply kc3 | refine kc4 ?_ GE414.out) | exact HB.out)⟩⟩
    ·have H1 : (calendar_Months.j0 k l0 true t410 t411 t412) = some (r1, r2) := by rw [if_neg (show ¬ (some q417).isNone = true by simp)] at H; exact H
     clear H
     have H := H1
     clear H1
     try simp only [errW_none, errW_some]
     have H' := ka H
     clear H
     have hcz12 := blkAll3 BK414.out
     go_wp2_with (first | (go_at_call 16; (with_reducible refine (calendar_Check.calls _ _ l0 (some q417) _ ?side1 ?side2 A9.out).mono ?_); (case side1 => exact Kd.C_below HR0.out (kw HB.out)); (case side2 => exact HC0.out); rintro e w13 ⟨rfl, hb⟩; replace BK414 := ka (blk_below (g := gb414) (o := .cells #[.int .i64 t410, .int .i64 t411, .int .i64 t412] 30 (0, 0)) (by (with_reducible repeat (first | apply kb1 | apply kb2 | apply kb3 | apply blkPut3_2 | apply blkPut3_1 | apply blkPut3_0)); exact BK414.out) hb); replace HB := ka (below_step (kw HB.out) hb); (try clear hb); (try clear hb2); (try clear hk); (try clear hi); (try simp only [errW_none, errW_some])))
     go_meet
     case rel => exact ⟨_, (true), (by first | rfl | (simp; done) | (simp [*]; done)), H', ⟨by first | omega | exact Nat.le_refl _⟩, ⟨by (with_reducible repeat (first | apply kb1 | apply kb2 | apply kb3)); exact BK414.out⟩, ⟨by repeat (first | (with_reducible first | exact HB.out | apply kc1 | apply kc2 | apply kc3 | refine kc4 ?_ GE414.out) | exact HB.out)⟩⟩
   ·rw [if_neg c8] at H
    have c8b0 : (t412 == 1) = false := beq_eq_false_iff_ne.mpr c8
    have c8b1 : (t412 != 1) = true := bne_iff_ne.mpr c8
    (first | rw [c8b0] | (simp only [i64_w, i32_w]; rw [c8b0]) | skip)
    have H' := ka H
    clear H
    have hcz14 := blkAll3 BK414.out
    go_wp2
    go_meet
    case rel => exact ⟨_, (true), (by first | rfl | (simp; done) | (simp [*]; done)), H', ⟨by first | omega | exact Nat.le_refl _⟩, ⟨by (with_reducible repeat (first | apply kb1 | apply kb2 | apply kb3 | apply blkPut3_2 | apply blkPut3_1 | apply blkPut3_0)); exact BK414.out⟩, ⟨by repeat (first | (with_reducible first | exact HB.out | apply kc1 | apply kc2 | apply kc3 | refine kc4 ?_ GE414.out) | exact HB.out)⟩⟩
  ·have H1 : (calendar_Months.j0 k l0 true t410 t411 t412) = some (r1, r2) := by rw [if_neg (show ¬ (some q415).isNone = true by simp)] at H; exact H
   clear H
   have H := H1
   clear H1
   try simp only [errW_none, errW_some]
   have H' := ka H
   clear H
   go_wp2
   go_meet
   case rel => exact ⟨_, (true), (by first | rfl | (simp; done) | (simp [*]; done)), H', ⟨by first | omega | exact Nat.le_refl _⟩, ⟨by (with_reducible repeat (first | apply kb1 | apply kb2 | apply kb3 | apply blkPut3_2 | apply blkPut3_1 | apply blkPut3_0)); exact BK414.out⟩, ⟨by repeat (first | (with_reducible first | exact HB.out | apply kc1 | apply kc2 | apply kc3 | refine kc4 ?_ GE414.out) | exact HB.out)⟩⟩
 case rest =>
  clear HC4
  try clear c1
  try clear c2
  try clear p2
  try clear q4
  try clear c8
  try clear c8b0
  try clear c8b1
  try clear c10
  try clear hcz10
  try clear hcz12
  try clear hcz14
  try clear hcz7
  try clear q415
  try clear q417
  obtain ⟨kq, x29_3, rfl, HA, HJ3, BK414, HB⟩ := hcut
  cases kq with
  | zero => exact absurd HA.out (by simp [calendar_Months.j0])
  | succ kj3 =>
   have H := HA.out
   clear HA
   simp only [calendar_Months.j0] at H
   by_cases c15 : x29_3 = true
   ·subst c15
    have H1 : (some (([] : List Int), some 1)) = some (r1, r2) := by rw [if_pos rfl] at H; exact H
    clear H
    have H := H1
    clear H1
    simp only [Option.some.injEq, Prod.mk.injEq] at H
    obtain ⟨rfl, rfl⟩ := H
    go_wp2
    go_ret2
    exact ⟨_, by first | rfl | (simp [errW_none, errW_some] <;> rfl) | (simp [*, errW_none, errW_some] <;> rfl), by first | exact Kd.R_nil _ _ _ _ _ | exact Kd.N_nil _ _ _ _ _ | exact Kd.V_nil _ _ _ _ _ | exact Kd.Q_nil _ _ _ _ _ | exact Kd.S_nil _ _ _ _ _, by repeat (first | (with_reducible first | exact HB.out | apply kc1 | apply kc2 | apply kc3 | refine kc4 ?_ GE414.out) | exact HB.out)⟩
   ·replace c15 := Bool.eq_false_iff.mpr c15
    subst c15
    have H1 : ((date_Months_s.f t410 t411 t412 12).bind fun bt418 => (if bt418.2.2.2.isNone = true then (if 12 ≤ 35184372088832 then (calendar_Months.l0 kj3 (List.replicate 12 0) l0 (l0.length : Int) 0 t410 t411 t412) else (none)) else (some (([] : List Int), some 1)))) = some (r1, r2) := by rw [if_neg (show ¬ (false = true) by decide)] at H; exact H
    clear H
    have H := H1
    clear H1
    replace H := Option.bind_eq_some_iff.mp H
    obtain ⟨⟨t418, t419, t420, t421⟩, A160, H⟩ := H
    replace H : (if t421.isNone = true then (if 12 ≤ 35184372088832 then (calendar_Months.l0 kj3 (List.replicate 12 0) l0 (l0.length : Int) 0 t410 t411 t412) else (none)) else (some (([] : List Int), some 1))) = some (r1, r2) := H
    have A16 := ka A160
    clear A160
    rcases t421 with _ | q423
    ·have H1 : (if 12 ≤ 35184372088832 then (calendar_Months.l0 kj3 (List.replicate 12 0) l0 (l0.length : Int) 0 t410 t411 t412) else (none)) = some (r1, r2) := by rw [if_pos (show (none : Option Int).isNone = true by rfl)] at H; exact H
     clear H
     have H := H1
     clear H1
     try simp only [errW_none, errW_some]
     by_cases c17 : 12 ≤ 35184372088832
     ·rw [if_pos c17] at H
      have c17b0 := eq_true c17
      have c17b1 : decide (12 ≤ 35184372088832) = true := decide_eq_true c17
      clear c17
      obtain ⟨y424, hy424⟩ : ∃ y_ : List Int, y_ = (List.replicate 12 0) := ⟨_, rfl⟩
      replace H : (calendar_Months.l0 kj3 y424 l0 (l0.length : Int) 0 t410 t411 t412) = some (r1, r2) := by first | (rw [hy424]; with_reducible exact H) | (have H2_ := (Option.bind_some _ _).symm.trans H; rw [hy424]; with_reducible exact H2_) | (have H2_ := (Option.bind_some _ _).symm.trans H; with_reducible exact H2_) | with_reducible exact H | (rw [hy424]; exact H) | exact H
      have Ny424 := ka hy424
      clear hy424
      have H' := ka H
      clear H
      have hcz18 := blkAll3 BK414.out
      go_wp2_with (first | ((with_reducible refine gate_callee (f := 22) rfl ?_); refine kg (some 33) rfl rfl Try.func22 (by kernel_rfl) rfl #[.agg #[.int .i64 t410, .int .i64 t411, .int .i64 t412], .int .i64 12] rfl ?_; (with_reducible refine (date_Months_s.calls t410 t411 t412 12 t418 t419 t420 none _ A16.out).mono ?_); rintro e w19 ⟨rfl, hb⟩; refine ⟨_, rfl, ?_⟩; replace BK414 := kbb BK414 hb; replace HB := ka (below_step (kw HB.out) hb); (try clear hb); (try clear hb2); (try clear hk); (try clear hi); (try simp only [errW_none, errW_some])) | ((with_reducible refine gate_dst (N := 8) rfl ?_); refine kx (N := 8) (cs := #[.int .i64 0, .int .i64 0, .int .i64 0]) (t := 30) ?_; intro gb422 hg w20 hbox hb; have n0_ := ka (blk_below (g := gb414) (kz BK414.out) hb); have n1_ := ka (below_step (kw HB.out) hb); have n2_ := ka (hbox); have n3_ := ka ((by rw [hg]; exact (below_size (kw HB.out)) : w.heap.size ≤ gb422)); have n4_ := n3_; have n5_ := ka ((by rw [hg]; exact Nat.ne_of_lt (blk_lt (g := gb414) (kz BK414.out)) : gb414 ≠ gb422)); have n6_ := ka n5_.out.symm; clear BK414; clear HB; have BK414 := n0_; have HB := n1_; have BK422 := n2_; have GW422 := n3_; have GE422 := n4_; have NB414_422 := n5_; have NB422_414 := n6_; clear n0_ n1_ n2_ n3_ n4_ n5_ n6_; clear hb hbox hg; have hnb21 := NB422_414.out; have hnc21 := NB414_422.out; have hcz22 := blkAll3 BK422.out) | ((with_reducible refine gate_dst (N := 39) rfl ?_); refine Kd.R_make (Kd.int .i64) _ 2 rfl (N := 39) rfl 24 _ _ rfl 12 rfl rfl Try.underlying24 (.int .i64 0) 8 info2 rfl (by decide) (by omega) 0 (ok := fun _ => True) (okp := fun _ => True) rfl (fun _ hk => hk) trivial (by omega) (by omega) (Below.refl _ _) (Nat.le_refl _) ?_; intro v425 w23 ho24 hb hg_ hnew_; clear hg_ hnew_; (first | rw [← Ny424.out] at ho24 | (simp only [Int.reduceToNat] at ho24; rw [← Ny424.out] at ho24)); have HO426 := ka (Kd.R_lower ho24 (below_size (kw HB.out))); replace BK414 := ka (blk_below (g := gb414) (o := .cells #[.int .i64 t410, .int .i64 t411, .int .i64 t412] 30 (0, 0)) (by (with_reducible repeat (first | apply kb1 | apply kb2 | apply kb3 | refine kb4 ?_ NB414_422.out _)); exact BK414.out) hb); replace BK422 := ka (blk_below (g := gb422) (o := .cells #[.int .i64 t418, .int .i64 t419, .int .i64 t420] 30 (0, 0)) (by (with_reducible repeat (first | apply kb1 | apply kb2 | apply kb3 | apply blkPut3_2 | apply blkPut3_1 | apply blkPut3_0)); exact BK422.out) hb); replace HB := ka (below_step (kw HB.out) hb); clear hb ho24))
      (try simp only [Act.put, List.setIfInBounds_toArray, List.set_cons_zero, List.set_cons_succ])
      go_loopg [42] kj3 (fun kq v42 w' => ∃ (x10_2 : List Int) (x42_2 : Int), v42 = .int .i64 x42_2 ∧ Aside0 (calendar_Months.l0 kq x10_2 l0 (l0.length : Int) x42_2 t410 t411 t412 = some (r1, r2)) ∧ Aside0 (kq ≤ kj3) ∧ Aside0 (Kd.R (Kd.int .i64) 2 w' w.heap.size (fun _ => True) v425 x10_2) ∧ Aside0 (w'.heap[gb414]? = some (.cells #[.int .i64 t410, .int .i64 t411, .int .i64 t412] 30 (0, 0))) ∧ Aside0 (w'.heap[gb422]? = some (.cells #[.int .i64 t418, .int .i64 t419, .int .i64 t420] 30 (0, 0))) ∧ Aside0 (Below w.heap.size w w'))
      case atStart => exact ⟨(y424), (0), (by first | rfl | (simp; done) | (simp [*]; done)), H', ⟨Nat.le_refl _⟩, ⟨kr HO426.out⟩, ⟨by (with_reducible repeat (first | apply kb1 | apply kb2 | apply kb3)); exact BK414.out⟩, ⟨by (with_reducible repeat (first | apply kb1 | apply kb2 | apply kb3)); exact BK422.out⟩, ⟨by repeat (first | (with_reducible first | exact HB.out | apply kc1 | apply kc2 | apply kc3 | refine kc4 ?_ GE414.out | refine kc4 ?_ GE422.out) | exact HB.out)⟩⟩
      case round =>
       clear H'
       try clear c1
       try clear c2
       try clear p2
       try clear q4
       try clear c8
       try clear c8b0
       try clear c8b1
       try clear c10
       try clear c15
       try clear c17
       try clear c17b0
       try clear c17b1
       try clear c21
       try clear c22
       try clear hcz10
       try clear hcz12
       try clear hcz14
       try clear hcz18
       try clear hcz22
       try clear hcz7
       try clear p2
       try clear q4
       try clear q415
       try clear q417
       try clear q423
       obtain ⟨x10_2, x42_2, rfl, HA, HK2, HO_10, BK414, BK422, HB⟩ := hrel
       cases gk with
       | zero => exact absurd HA.out (by simp [calendar_Months.l0])
       | succ k2 =>
        have H := HA.out
        clear HA
        simp only [calendar_Months.l0] at H
        by_cases c25 : x42_2 < (l0.length : Int)
        ·rw [if_pos c25] at H
         have c25b0 : decide (x42_2 < (l0.length : Int)) = true := decide_eq_true c25
         clear c25
         by_cases c26 : 0 ≤ x42_2
         ·rw [if_pos c26] at H
          have c26b0 : decide (0 ≤ x42_2) = true := decide_eq_true c26
          clear c26
          by_cases c27 : x42_2 < (l0.length : Int)
          ·rw [if_pos c27] at H
           have c27b0 : decide (x42_2 < (l0.length : Int)) = true := decide_eq_true c27
           clear c27
           obtain ⟨ji28, hji28⟩ : ∃ j_ : Int, (Int.tmod (wrap64 ((wrap64 (((rd_T48 l0 x42_2).f0) - t411)) + 12)) 12) = j_ := ⟨_, rfl⟩
           replace H : (if 0 ≤ (ji28) then (if (ji28) < (x10_2.length : Int) then (calendar_Months.l0 k2 (x10_2.set ((ji28) : Int).toNat (wrap64 ((rd x10_2 (ji28)) + ((rd_T48 l0 x42_2).f2)))) l0 (l0.length : Int) (wrap64 (x42_2 + 1)) t410 t411 t412) else (none)) else (none)) = some (r1, r2) := by first | (rw [hji28] at H; exact H) | (simp only [hji28] at H ⊢; exact H)
           by_cases c29 : 0 ≤ (ji28)
           ·rw [if_pos c29] at H
            have c29b0 : decide (0 ≤ (ji28)) = true := decide_eq_true c29
            clear c29
            by_cases c30 : (ji28) < (x10_2.length : Int)
            ·rw [if_pos c30] at H
             have c30b0 : decide ((ji28) < (x10_2.length : Int)) = true := decide_eq_true c30
             clear c30
             obtain ⟨y430, hy430⟩ : ∃ y_ : List Int, y_ = (x10_2.set ((ji28) : Int).toNat (wrap64 ((rd x10_2 (ji28)) + ((rd_T48 l0 x42_2).f2)))) := ⟨_, rfl⟩
             replace H : (calendar_Months.l0 k2 y430 l0 (l0.length : Int) (wrap64 (x42_2 + 1)) t410 t411 t412) = some (r1, r2) := by first | (rw [hy430]; with_reducible exact H) | (have H2_ := (Option.bind_some _ _).symm.trans H; rw [hy430]; with_reducible exact H2_) | (have H2_ := (Option.bind_some _ _).symm.trans H; with_reducible exact H2_) | with_reducible exact H | (rw [hy430]; exact H) | exact H
             have Ny430 := ka hy430
             clear hy430
             have H' := ka H
             clear H
             have p427 : 0 ≤ (x42_2 : Int) := of_decide_eq_true (by first | (with_reducible assumption) | assumption)
             have q427 : x42_2 < (l0.length : Int) := of_decide_eq_true (by first | (with_reducible assumption) | assumption)
             obtain ⟨ad427, e427, hx427_0, hx427_1, hx427_2⟩ := at_T48 HR0.out x42_2 p427 q427
             cases e427
             replace hx427_0 := (HB.out.cell (World.block_lt_of_cell? w _ hx427_0)).trans hx427_0
             replace hx427_1 := (HB.out.cell (World.block_lt_of_cell? w _ hx427_1)).trans hx427_1
             replace hx427_2 := (HB.out.cell (World.block_lt_of_cell? w _ hx427_2)).trans hx427_2
             replace p427 := eq_true p427
             replace q427 := eq_true q427
             try go_wp2_with (first | ((with_reducible refine gate_dst (N := 12) rfl ?_); refine kx (N := 12) (cs := #[.int .i64 0, .int .i64 0, .int .i64 0]) (t := 48) ?_; intro gb428 hg w32 hbox hb; have n0_ := ka (Kd.R_below (kr HO_10.out) hb); have n1_ := ka (blk_below (g := gb414) (kz BK414.out) hb); have n2_ := ka (blk_below (g := gb422) (kz BK422.out) hb); have n3_ := ka (below_step (kw HB.out) hb); have n4_ := ka (hbox); have n5_ := ka ((by rw [hg]; exact (below_size (kw HB.out)) : w.heap.size ≤ gb428)); have n6_ := n5_; have n7_ := ka ((by rw [hg]; exact Nat.ne_of_lt (blk_lt (g := gb414) (kz BK414.out)) : gb414 ≠ gb428)); have n8_ := ka n7_.out.symm; have n9_ := ka ((by rw [hg]; exact Nat.ne_of_lt (blk_lt (g := gb422) (kz BK422.out)) : gb422 ≠ gb428)); have n10_ := ka n9_.out.symm; clear HO_10; clear BK414; clear BK422; clear HB; have HO_10 := n0_; have BK414 := n1_; have BK422 := n2_; have HB := n3_; have BK428 := n4_; have GW428 := n5_; have GE428 := n6_; have NB414_428 := n7_; have NB428_414 := n8_; have NB422_428 := n9_; have NB428_422 := n10_; clear n0_ n1_ n2_ n3_ n4_ n5_ n6_ n7_ n8_ n9_ n10_; clear hb hbox hg; have hnb33 := NB428_414.out; have hnc33 := NB414_428.out; have hnb34 := NB428_422.out; have hnc34 := NB422_428.out; have hcz35 := blkAll3 BK428.out))
             have n0_ : Aside0 (Kd.R (Kd.int .i64) 2 (((w32.setCell ⟨gb428, 0, none⟩ (.int .i64 ((rd_T48 l0 x42_2).f0))).setCell ⟨gb428, 1, none⟩ (.int .i64 ((rd_T48 l0 x42_2).f1))).setCell ⟨gb428, 2, none⟩ (.int .i64 ((rd_T48 l0 x42_2).f2))) w.heap.size (fun _ => True) v425 x10_2) := ⟨kr (Kd.R_mono (Kd.R_far (p := ⟨gb428, 2, none⟩) (Kd.R_far (p := ⟨gb428, 1, none⟩) (Kd.R_far (p := ⟨gb428, 0, none⟩) (Kd.R_types HO_10.out BK428.out (by decide)) (fun _ hk => hk.2) (.int .i64 ((rd_T48 l0 x42_2).f0))) (fun _ hk => hk.2) (.int .i64 ((rd_T48 l0 x42_2).f1))) (fun _ hk => hk.2) (.int .i64 ((rd_T48 l0 x42_2).f2))) (fun _ hk => trivial))⟩
             have n1_ : Aside0 ((((w32.setCell ⟨gb428, 0, none⟩ (.int .i64 ((rd_T48 l0 x42_2).f0))).setCell ⟨gb428, 1, none⟩ (.int .i64 ((rd_T48 l0 x42_2).f1))).setCell ⟨gb428, 2, none⟩ (.int .i64 ((rd_T48 l0 x42_2).f2))).heap[gb414]? = some (.cells #[.int .i64 t410, .int .i64 t411, .int .i64 t412] 30 (0, 0))) := ⟨by (with_reducible repeat (first | apply kb1 | apply kb2 | apply kb3 | refine kb4 ?_ NB414_428.out _)); exact BK414.out⟩
             have n2_ : Aside0 ((((w32.setCell ⟨gb428, 0, none⟩ (.int .i64 ((rd_T48 l0 x42_2).f0))).setCell ⟨gb428, 1, none⟩ (.int .i64 ((rd_T48 l0 x42_2).f1))).setCell ⟨gb428, 2, none⟩ (.int .i64 ((rd_T48 l0 x42_2).f2))).heap[gb422]? = some (.cells #[.int .i64 t418, .int .i64 t419, .int .i64 t420] 30 (0, 0))) := ⟨by (with_reducible repeat (first | apply kb1 | apply kb2 | apply kb3 | refine kb4 ?_ NB422_428.out _)); exact BK422.out⟩
             have n3_ : Aside0 ((((w32.setCell ⟨gb428, 0, none⟩ (.int .i64 ((rd_T48 l0 x42_2).f0))).setCell ⟨gb428, 1, none⟩ (.int .i64 ((rd_T48 l0 x42_2).f1))).setCell ⟨gb428, 2, none⟩ (.int .i64 ((rd_T48 l0 x42_2).f2))).heap[gb428]? = some (.cells #[.int .i64 ((rd_T48 l0 x42_2).f0), .int .i64 ((rd_T48 l0 x42_2).f1), .int .i64 ((rd_T48 l0 x42_2).f2)] 48 (0, 0))) := ⟨by (with_reducible repeat (first | apply kb1 | apply kb2 | apply kb3 | apply blkPut3_2 | apply blkPut3_1 | apply blkPut3_0)); exact BK428.out⟩
             have n4_ : Aside0 (Below w.heap.size w (((w32.setCell ⟨gb428, 0, none⟩ (.int .i64 ((rd_T48 l0 x42_2).f0))).setCell ⟨gb428, 1, none⟩ (.int .i64 ((rd_T48 l0 x42_2).f1))).setCell ⟨gb428, 2, none⟩ (.int .i64 ((rd_T48 l0 x42_2).f2)))) := ⟨by repeat (first | (with_reducible first | exact HB.out | apply kc1 | apply kc2 | apply kc3 | refine kc4 ?_ GE414.out | refine kc4 ?_ GE422.out | refine kc4 ?_ GE428.out) | exact HB.out)⟩
             (try clear HO_10)
             (try clear BK414)
             (try clear BK422)
             (try clear BK428)
             (try clear HB)
             generalize (((w32.setCell ⟨gb428, 0, none⟩ (.int .i64 ((rd_T48 l0 x42_2).f0))).setCell ⟨gb428, 1, none⟩ (.int .i64 ((rd_T48 l0 x42_2).f1))).setCell ⟨gb428, 2, none⟩ (.int .i64 ((rd_T48 l0 x42_2).f2))) = w36 at n0_ n1_ n2_ n3_ n4_ ⊢
             have HO_10 := n0_
             have BK414 := n1_
             have BK422 := n2_
             have BK428 := n3_
             have HB := n4_
             clear n0_ n1_ n2_ n3_ n4_
             replace HO_10 := ka (Kd.R_drew HO_10.out)
             replace BK414 := ka (blk_drew BK414.out)
             replace BK422 := ka (blk_drew BK422.out)
             replace BK428 := ka (blk_drew BK428.out)
             replace HB := ka (below_drew1 HB.out)
             obtain ⟨Ao38, co38, eo38⟩ := Kd.R_slice HO_10.out
             (first | subst eo38 | (injection eo38 with f1_ f2_ f3_; have f4_ := f1_.symm; have f5_ := f3_.symm; clear f1_ f2_ f3_; subst f4_; subst f5_))
             have p429 : 0 ≤ ((ji28) : Int) := of_decide_eq_true (by first | (with_reducible assumption) | assumption)
             have q429 : (ji28) < (x10_2.length : Int) := of_decide_eq_true (by first | (with_reducible assumption) | assumption)
             obtain ⟨ad429, e429, hx429_0⟩ := Kd.at_int (Kd.R_reads' HO_10.out).2.2 (ji28) p429 q429
             cases e429
             replace p429 := eq_true p429
             replace q429 := eq_true q429
             have p31 : 0 ≤ ((ji28) : Int) := of_decide_eq_true (by first | (with_reducible assumption) | assumption)
             have q31 : ((ji28) : Int) < ((x10_2.length : Int) : Int) := of_decide_eq_true (by first | (with_reducible assumption) | assumption)
             obtain ⟨go31, co31, eo31, gb31, gl31, cl31, HG31⟩ := Kd.R_form HO_10.out (by omega)
             (first | cases eo31 | (injection eo31 with ea_ en_ ec_; (first | subst ea_ | (injection ea_ with ea_; subst ea_)); subst ec_; clear en_))
             have GB31 := ka gb31
             have GG31 := ka HG31
             clear gb31 gl31 HG31
             (first | simp only [add_plain] at hx429_0 | skip)
             obtain ⟨hx31_0, hf31_0⟩ := Kd.R_celln 0 HO_10.out ((ji28) : Int) p31 q31
             replace p31 := eq_true p31
             replace q31 := eq_true q31
             have HP39 := Kd.R_putn HO_10.out ((ji28) : Int) (wrap64 ((rd x10_2 (ji28)) + ((rd_T48 l0 x42_2).f2)))
             rw [← Ny430.out] at HP39
             have HQ39 := ka HP39
             clear HP39
             refine start_ (n := 15) (S := fun w' => w'.cell? ⟨gb428, 0, none⟩ = some (.int .i64 ((rd_T48 l0 x42_2).f0)) ∧ w'.cell? ⟨gb428, 1, none⟩ = some (.int .i64 ((rd_T48 l0 x42_2).f1)) ∧ w'.cell? ⟨gb428, 2, none⟩ = some (.int .i64 ((rd_T48 l0 x42_2).f2)) ∧ w'.cell? ⟨gb414, 0, none⟩ = some (.int .i64 t410) ∧ w'.cell? ⟨gb414, 1, none⟩ = some (.int .i64 t411) ∧ w'.cell? ⟨gb414, 2, none⟩ = some (.int .i64 t412) ∧ w'.cell? ⟨go31, ((ji28)).toNat, none⟩ = some (.int .i64 (rd x10_2 (ji28)))) (ds := [14]) #[false, false, false, false, false, false, false, false, false, false, false, false, false, false, false] (by kernel_rfl) rfl rfl ⟨(blk_cell BK428.out 0).trans rfl, (blk_cell BK428.out 1).trans rfl, (blk_cell BK428.out 2).trans rfl, (blk_cell BK414.out 0).trans rfl, (blk_cell BK414.out 1).trans rfl, (blk_cell BK414.out 2).trans rfl, hx429_0⟩ (fun hHeld => ?_); refine with_tabW calendar_Months.tab11 calendar_Months.bits11 (fun HT_ HW_ => ?_)
             generalize w36.drew = w37 at HO_10 BK414 BK422 BK428 HB GG31 HQ39 hf31_0 hx31_0 hx429_0 hHeld ⊢
             refine pure_ (i := 0) (N := some 46) (v := ?_) (a' := ?_) #[true, false, false, false, false, false, false, false, false, false, false, false, false, false, false] rfl rfl (any_of HT_.out (by kernel_rfl)) (fun _ _ _ h => h) (Or.inl ⟨by rfl, ?_⟩) ?_ ?_
             rotate_left
             ·intro w'
              go_simp
              with_reducible rfl
             rotate_left
             ·simp only [Act.put, List.setIfInBounds_toArray, List.set_cons_zero, List.set_cons_succ, i64_w, i32_w]
              rfl
             refine pure_ (i := 1) (N := some 47) (v := ?_) (a' := ?_) #[true, true, false, false, false, false, false, false, false, false, false, false, false, false, false] rfl rfl (any_of HT_.out (by kernel_rfl)) (fun _ _ _ h => h) (Or.inl ⟨by rfl, ?_⟩) ?_ ?_
             rotate_left
             ·intro w'
              go_simp
              with_reducible rfl
             rotate_left
             ·simp only [Act.put, List.setIfInBounds_toArray, List.set_cons_zero, List.set_cons_succ, i64_w, i32_w]
              rfl
             refine pure_ (i := 3) (N := some 49) (v := ?_) (a' := ?_) #[true, true, false, true, false, false, false, false, false, false, false, false, false, false, false] rfl rfl (any_of HT_.out (by kernel_rfl)) (fun _ _ _ h => h) (Or.inl ⟨by rfl, ?_⟩) ?_ ?_
             rotate_left
             ·intro w'
              go_simp
              with_reducible rfl
             rotate_left
             ·simp only [Act.put, List.setIfInBounds_toArray, List.set_cons_zero, List.set_cons_succ, i64_w, i32_w]
              rfl
             refine pure_ (i := 10) (N := some 56) (v := ?_) (a' := ?_) #[true, true, false, true, false, false, false, false, false, false, true, false, false, false, false] rfl rfl (any_of HT_.out (by kernel_rfl)) (fun _ _ _ h => h) (Or.inl ⟨by rfl, ?_⟩) ?_ ?_
             rotate_left
             ·intro w'
              go_simp
              with_reducible rfl
             rotate_left
             ·simp only [Act.put, List.setIfInBounds_toArray, List.set_cons_zero, List.set_cons_succ, i64_w, i32_w]
              rfl
             refine take_ (i := 2) (N := some 48) (v := ?_) (a' := ?_) #[true, true, true, true, false, false, false, false, false, false, true, false, false, false, false] rfl rfl (take_ofW HT_.out HW_.out (by kernel_rfl)) (fun _ _ _ h => h) (Or.inl ⟨by rfl, ?_⟩) hHeld ?_ ?_
             rotate_left
             ·rintro w' ⟨s0, s1, s2, s3, s4, s5, s6⟩
              go_simp
              with_reducible rfl
             rotate_left
             ·simp only [Act.put, List.setIfInBounds_toArray, List.set_cons_zero, List.set_cons_succ, i64_w, i32_w]
              rfl
             refine take_ (i := 4) (N := some 50) (v := ?_) (a' := ?_) #[true, true, true, true, true, false, false, false, false, false, true, false, false, false, false] rfl rfl (take_ofW HT_.out HW_.out (by kernel_rfl)) (fun _ _ _ h => h) (Or.inl ⟨by rfl, ?_⟩) hHeld ?_ ?_
             rotate_left
             ·rintro w' ⟨s0, s1, s2, s3, s4, s5, s6⟩
              go_simp
              with_reducible rfl
             rotate_left
             ·simp only [Act.put, List.setIfInBounds_toArray, List.set_cons_zero, List.set_cons_succ, i64_w, i32_w]
              rfl
             refine pure_ (i := 5) (N := some 51) (v := ?_) (a' := ?_) #[true, true, true, true, true, true, false, false, false, false, true, false, false, false, false] rfl rfl (any_of HT_.out (by kernel_rfl)) (fun _ _ _ h => h) (Or.inl ⟨by rfl, ?_⟩) ?_ ?_
             rotate_left
             ·intro w'
              go_simp
              with_reducible rfl
             rotate_left
             ·simp only [Act.put, List.setIfInBounds_toArray, List.set_cons_zero, List.set_cons_succ, i64_w, i32_w]
              rfl
             refine pure_ (i := 6) (N := some 52) (v := ?_) (a' := ?_) #[true, true, true, true, true, true, true, false, false, false, true, false, false, false, false] rfl rfl (any_of HT_.out (by kernel_rfl)) (fun _ _ _ h => h) (Or.inl ⟨by rfl, ?_⟩) ?_ ?_
             rotate_left
             ·intro w'
              go_simp
              with_reducible rfl
             rotate_left
             ·simp only [Act.put, List.setIfInBounds_toArray, List.set_cons_zero, List.set_cons_succ, i64_w, i32_w]
              rfl
             refine pure_ (i := 7) (N := some 53) (v := ?_) (a' := ?_) #[true, true, true, true, true, true, true, true, false, false, true, false, false, false, false] rfl rfl (any_of HT_.out (by kernel_rfl)) (fun _ _ _ h => h) (Or.inl ⟨by rfl, ?_⟩) ?_ ?_
             rotate_left
             ·intro w'
              go_simp
              with_reducible rfl
             rotate_left
             ·simp only [Act.put, List.setIfInBounds_toArray, List.set_cons_zero, List.set_cons_succ, i64_w, i32_w]
              rfl
             refine pure_ (i := 8) (N := some 54) (v := ?_) (a' := ?_) #[true, true, true, true, true, true, true, true, true, false, true, false, false, false, false] rfl rfl (any_of HT_.out (by kernel_rfl)) (fun _ _ _ h => h) (Or.inl ⟨by rfl, ?_⟩) ?_ ?_
             rotate_left
             ·intro w'
              go_simp
              with_reducible rfl
             rotate_left
             ·simp only [Act.put, List.setIfInBounds_toArray, List.set_cons_zero, List.set_cons_succ, i64_w, i32_w]
              rfl
             refine take_ (i := 9) (N := some 55) (v := ?_) (a' := ?_) #[true, true, true, true, true, true, true, true, true, true, true, false, false, false, false] rfl rfl (take_ofW HT_.out HW_.out (by kernel_rfl)) (fun _ _ _ h => h) (Or.inl ⟨by rfl, ?_⟩) hHeld ?_ ?_
             rotate_left
             ·rintro w' ⟨s0, s1, s2, s3, s4, s5, s6⟩
              go_simp
              with_reducible rfl
             rotate_left
             ·simp only [Act.put, List.setIfInBounds_toArray, List.set_cons_zero, List.set_cons_succ, i64_w, i32_w]
              rfl
             refine take_ (i := 11) (N := some 57) (v := ?_) (a' := ?_) #[true, true, true, true, true, true, true, true, true, true, true, true, false, false, false] rfl rfl (take_ofW HT_.out HW_.out (by kernel_rfl)) (fun _ _ _ h => h) (Or.inl ⟨by rfl, ?_⟩) hHeld ?_ ?_
             rotate_left
             ·rintro w' ⟨s0, s1, s2, s3, s4, s5, s6⟩
              go_simp
              with_reducible rfl
             rotate_left
             ·simp only [Act.put, List.setIfInBounds_toArray, List.set_cons_zero, List.set_cons_succ, i64_w, i32_w]
              rfl
             refine pure_ (i := 12) (N := some 58) (v := ?_) (a' := ?_) #[true, true, true, true, true, true, true, true, true, true, true, true, true, false, false] rfl rfl (any_of HT_.out (by kernel_rfl)) (fun _ _ _ h => h) (Or.inl ⟨by rfl, ?_⟩) ?_ ?_
             rotate_left
             ·intro w'
              go_simp
              with_reducible rfl
             rotate_left
             ·simp only [Act.put, List.setIfInBounds_toArray, List.set_cons_zero, List.set_cons_succ, i64_w, i32_w]
              rfl
             refine pure_ (i := 13) (N := some 59) (v := ?_) (a' := ?_) #[true, true, true, true, true, true, true, true, true, true, true, true, true, true, false] rfl rfl (any_of HT_.out (by kernel_rfl)) (fun _ _ _ h => h) (Or.inl ⟨by rfl, ?_⟩) ?_ ?_
             rotate_left
             ·intro w'
              go_simp
              with_reducible rfl
             rotate_left
             ·simp only [Act.put, List.setIfInBounds_toArray, List.set_cons_zero, List.set_cons_succ, i64_w, i32_w]
              rfl
             refine last_ (i := 14) (N := none) #[true, true, true, true, true, true, true, true, true, true, true, true, true, true, true] rfl rfl (one_of HT_.out (by kernel_rfl)) (by decide) (fun K hK => ?_)
             refine skip_ (w1 := ?_) (by rfl) rfl ?_ ?_
             rotate_left
             ·go_simp
              rfl
             refine hK.out _ _ ?_
             clear hK K
             refine done_ (done_of HT_.out (by kernel_rfl)) ?_
             try go_wp2
             go_roundg k2
             case measure => have := HJ3.out; have := HK2.out; omega
             case rel => exact ⟨(y430), (wrap64 (x42_2 + 1)), (by first | rfl | (simp; done) | (simp [*]; done)), H', ⟨by have := HJ3.out; have := HK2.out; omega⟩, ⟨kr HQ39.out⟩, ⟨by (with_reducible repeat (first | apply kb1 | apply kb2 | apply kb3)); refine kb4 ?_ (by have h_ := Kd.R_ne HO_10.out BK414.out (by decide); intro e_; exact h_ (by rw [e_]; rfl)) _; (with_reducible repeat (first | apply kb1 | apply kb2 | apply kb3)); exact BK414.out⟩, ⟨by (with_reducible repeat (first | apply kb1 | apply kb2 | apply kb3)); refine kb4 ?_ (by have h_ := Kd.R_ne HO_10.out BK422.out (by decide); intro e_; exact h_ (by rw [e_]; rfl)) _; (with_reducible repeat (first | apply kb1 | apply kb2 | apply kb3)); exact BK422.out⟩, ⟨by repeat (first | (with_reducible first | exact HB.out | apply kc1 | apply kc2 | apply kc3 | refine kc4 ?_ GB31.out | refine kc4 ?_ GE414.out | refine kc4 ?_ GE422.out | refine kc4 ?_ GE428.out) | exact HB.out)⟩⟩
            ·rw [if_neg c30] at H
             exact absurd H (by simp)
           ·rw [if_neg c29] at H
            exact absurd H (by simp)
          ·rw [if_neg c27] at H
           exact absurd H (by simp)
         ·rw [if_neg c26] at H
          exact absurd H (by simp)
        ·rw [if_neg c25] at H
         have c25b0 : decide (x42_2 < (l0.length : Int)) = false := decide_eq_false c25
         clear c25
         simp only [Option.some.injEq, Prod.mk.injEq] at H
         obtain ⟨rfl, rfl⟩ := H
         go_wp2
         go_ret2
         exact ⟨_, by first | rfl | (simp [errW_none, errW_some] <;> rfl) | (simp [*, errW_none, errW_some] <;> rfl), by (with_reducible repeat (first | apply Kd.R_alloc | apply Kd.R_drewN | apply Kd.R_drew)); exact HO_10.out, by repeat (first | (with_reducible first | exact HB.out | apply kc1 | apply kc2 | apply kc3 | refine kc4 ?_ GE414.out | refine kc4 ?_ GE422.out) | exact HB.out)⟩
     ·rw [if_neg c17] at H
      exact absurd H (by simp)
    ·have H1 : (some (([] : List Int), some 1)) = some (r1, r2) := by rw [if_neg (show ¬ (some q423).isNone = true by simp)] at H; exact H
     clear H
     have H := H1
     clear H1
     try simp only [errW_none, errW_some]
     simp only [Option.some.injEq, Prod.mk.injEq] at H
     obtain ⟨rfl, rfl⟩ := H
     have hcz40 := blkAll3 BK414.out
     go_wp2_with (first | ((with_reducible refine gate_callee (f := 22) rfl ?_); refine kg (some 33) rfl rfl Try.func22 (by kernel_rfl) rfl #[.agg #[.int .i64 t410, .int .i64 t411, .int .i64 t412], .int .i64 12] rfl ?_; (with_reducible refine (date_Months_s.calls t410 t411 t412 12 t418 t419 t420 (some q423) _ A16.out).mono ?_); rintro e w41 ⟨rfl, hb⟩; refine ⟨_, rfl, ?_⟩; replace BK414 := kbb BK414 hb; replace HB := ka (below_step (kw HB.out) hb); (try clear hb); (try clear hb2); (try clear hk); (try clear hi); (try simp only [errW_none, errW_some])) | ((with_reducible refine gate_dst (N := 8) rfl ?_); refine kx (N := 8) (cs := #[.int .i64 0, .int .i64 0, .int .i64 0]) (t := 30) ?_; intro gb422 hg w42 hbox hb; have n0_ := ka (blk_below (g := gb414) (kz BK414.out) hb); have n1_ := ka (below_step (kw HB.out) hb); have n2_ := ka (hbox); have n3_ := ka ((by rw [hg]; exact (below_size (kw HB.out)) : w.heap.size ≤ gb422)); have n4_ := n3_; have n5_ := ka ((by rw [hg]; exact Nat.ne_of_lt (blk_lt (g := gb414) (kz BK414.out)) : gb414 ≠ gb422)); have n6_ := ka n5_.out.symm; clear BK414; clear HB; have BK414 := n0_; have HB := n1_; have BK422 := n2_; have GW422 := n3_; have GE422 := n4_; have NB414_422 := n5_; have NB422_414 := n6_; clear n0_ n1_ n2_ n3_ n4_ n5_ n6_; clear hb hbox hg; have hnb43 := NB422_414.out; have hnc43 := NB414_422.out; have hcz44 := blkAll3 BK422.out))
     go_ret2
     exact ⟨_, by first | rfl | (simp [errW_none, errW_some] <;> rfl) | (simp [*, errW_none, errW_some] <;> rfl), by first | exact Kd.R_nil _ _ _ _ _ | exact Kd.N_nil _ _ _ _ _ | exact Kd.V_nil _ _ _ _ _ | exact Kd.Q_nil _ _ _ _ _ | exact Kd.S_nil _ _ _ _ _, by repeat (first | (with_reducible first | exact HB.out | apply kc1 | apply kc2 | apply kc3 | refine kc4 ?_ GE414.out | refine kc4 ?_ GE422.out) | exact HB.out)⟩

end Go.Proofs.Ytmkfbaoglmmhjaa.P
