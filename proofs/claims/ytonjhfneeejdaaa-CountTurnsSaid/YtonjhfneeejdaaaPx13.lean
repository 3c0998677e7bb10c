-- Written by a program of this session out of the translation of the seat: Lean functions and the proofs that the Go functions come to them.
import Derived.Test.YtonjhfneeejdaaaPx0
import Derived.Test.YtonjhfneeejdaaaPx1
import Derived.Test.YtonjhfneeejdaaaPx4
import Derived.Test.YtonjhfneeejdaaaPx12
namespace Go.Proofs.Ytonjhfneeejdaaa.P
open Go.RowKit Go.Proofs.YtonjhfneeejdaaaW.PrintWords Go.Proofs.YtonjhfneeejdaaaW.PrintLast Go.Proofs.YtonjhfneeejdaaaW.PrintMore
attribute [local go_sem] max2_int min2_int max_two min_two max_three min_three max_four min_four   -- for this text's walks alone
set_option linter.unusedVariables false
set_option linter.unusedSimpArgs false

/-! ### trivetlaw05_CountTurns: function 6 -/
mutual
def trivetlaw05_CountTurns.j0 : Nat → Bool → Int → Option Int → Int → Option Int → Int → Int → Bool → Int → Int → Int → Option (Bool)
  | 0, _, _, _, _, _, _, _, _, _, _, _ => none
  | k + 1, x9, x10, x11, x12, x13, x14, x16, x64, x383000, x383001, x383002 => if x64 = true then (if x9 = true then (if x11.isNone = true then (if x13.isNone = true then (some false) else (some true)) else (some true)) else (some false)) else (if (wrap64 (x10 + x12)) = x14 then (trivetlaw05_CountTurns.j1 k x9 ((wrap64 (x10 + x16)) != 0) x383000 x383001 x383002) else (trivetlaw05_CountTurns.j1 k x9 true x383000 x383001 x383002))
def trivetlaw05_CountTurns.j1 : Nat → Bool → Bool → Int → Int → Int → Option (Bool)
  | 0, _, _, _, _, _ => none
  | k + 1, x9, x84, x383000, x383001, x383002 => if x84 = true then (some false) else ((date_Months_s.f x383000 x383001 x383002 1).bind fun bt400 => (if bt400.2.2.2.isNone = true then (if x383002 > 28 then (some x9) else ((count_Between_s.f x383000 x383001 x383002 bt400.1 bt400.2.1 bt400.2.2.1 true).bind fun bt406 => (if x9 = true then (if bt406.2.isNone = true then (some (bt406.1 == 30)) else (some false)) else (some false)))) else (some x9)))
end
def trivetlaw05_CountTurns.f (k : Nat) (a0_0 : Int) (a0_1 : Int) (a0_2 : Int) (a1_0 : Int) (a1_1 : Int) (a1_2 : Int) (a2_0 : Int) (a2_1 : Int) (a2_2 : Int) (a3 : Bool) : Option (Bool) := (trivetlaw05_up_s.f).bind fun t385 => ((count_Between_s.f a0_0 a0_1 a0_2 a1_0 a1_1 a1_2 a3).bind fun bt386 => ((count_Between_s.f a1_0 a1_1 a1_2 a2_0 a2_1 a2_2 a3).bind fun bt388 => ((count_Between_s.f a0_0 a0_1 a0_2 a2_0 a2_1 a2_2 a3).bind fun bt390 => ((count_Between_s.f a1_0 a1_1 a1_2 a0_0 a0_1 a0_2 a3).bind fun bt392 => (if bt386.2.isNone = true then (if bt388.2.isNone = true then (if bt390.2.isNone = true then (if bt392.2.isNone = true then (trivetlaw05_CountTurns.j0 k t385 bt386.1 none bt388.1 none bt390.1 bt392.1 false a0_0 a0_1 a0_2) else (trivetlaw05_CountTurns.j0 k t385 bt386.1 none bt388.1 none bt390.1 bt392.1 true a0_0 a0_1 a0_2)) else (trivetlaw05_CountTurns.j0 k t385 bt386.1 none bt388.1 none bt390.1 bt392.1 true a0_0 a0_1 a0_2)) else (trivetlaw05_CountTurns.j0 k t385 bt386.1 none bt388.1 (some (bt388.2.getD 0)) bt390.1 bt392.1 true a0_0 a0_1 a0_2)) else (trivetlaw05_CountTurns.j0 k t385 bt386.1 (some (bt386.2.getD 0)) bt388.1 bt388.2 bt390.1 bt392.1 true a0_0 a0_1 a0_2))))))
theorem trivetlaw05_CountTurns.mono_l : ∀ k, (∀ y0 y1 y2 y3 y4 y5 y6 y7 y8 y9 y10, LeO (trivetlaw05_CountTurns.j0 k y0 y1 y2 y3 y4 y5 y6 y7 y8 y9 y10) (trivetlaw05_CountTurns.j0 (k + 1) y0 y1 y2 y3 y4 y5 y6 y7 y8 y9 y10)) ∧ (∀ y0 y1 y2 y3 y4, LeO (trivetlaw05_CountTurns.j1 k y0 y1 y2 y3 y4) (trivetlaw05_CountTurns.j1 (k + 1) y0 y1 y2 y3 y4))
  | 0 => ⟨fun _ _ _ _ _ _ _ _ _ _ _ r h => by simp [trivetlaw05_CountTurns.j0] at h, fun _ _ _ _ _ r h => by simp [trivetlaw05_CountTurns.j1] at h⟩
  | k + 1 => by
    obtain ⟨ih0, ih1⟩ := trivetlaw05_CountTurns.mono_l k
    refine ⟨?_, ?_⟩
    · intro y0 y1 y2 y3 y4 y5 y6 y7 y8 y9 y10
      unfold trivetlaw05_CountTurns.j0
      repeat' first
      | (with_reducible exact ih0 _ _ _ _ _ _ _ _ _ _ _)
      | (with_reducible exact ih1 _ _ _ _ _)
      | (with_reducible exact LeO.refl _)
      | (with_reducible exact LeO.none _)
      | (with_reducible refine LeO.ite ?_ ?_)
      | (with_reducible refine LeO.bind ?_ (fun _ => ?_))
      | exact ih0 _ _ _ _ _ _ _ _ _ _ _
      | exact ih1 _ _ _ _ _
      | exact LeO.none _
      | refine LeO.ite ?_ ?_
      | refine LeO.bind ?_ (fun _ => ?_)
    · intro y0 y1 y2 y3 y4
      unfold trivetlaw05_CountTurns.j1
      repeat' first
      | (with_reducible exact ih0 _ _ _ _ _ _ _ _ _ _ _)
      | (with_reducible exact ih1 _ _ _ _ _)
      | (with_reducible exact LeO.refl _)
      | (with_reducible exact LeO.none _)
      | (with_reducible refine LeO.ite ?_ ?_)
      | (with_reducible refine LeO.bind ?_ (fun _ => ?_))
      | exact ih0 _ _ _ _ _ _ _ _ _ _ _
      | exact ih1 _ _ _ _ _
      | exact LeO.none _
      | refine LeO.ite ?_ ?_
      | refine LeO.bind ?_ (fun _ => ?_)
theorem trivetlaw05_CountTurns.mono : ∀ a0 a1 a2 a3 a4 a5 a6 a7 a8 a9 k, LeO (trivetlaw05_CountTurns.f k a0 a1 a2 a3 a4 a5 a6 a7 a8 a9) (trivetlaw05_CountTurns.f (k + 1) a0 a1 a2 a3 a4 a5 a6 a7 a8 a9) := by
  intro a0 a1 a2 a3 a4 a5 a6 a7 a8 a9 k
  obtain ⟨ih0, ih1⟩ := trivetlaw05_CountTurns.mono_l k
  unfold trivetlaw05_CountTurns.f
  repeat' first
      | (with_reducible exact ih0 _ _ _ _ _ _ _ _ _ _ _)
      | (with_reducible exact ih1 _ _ _ _ _)
      | (with_reducible exact LeO.refl _)
      | (with_reducible exact LeO.none _)
      | (with_reducible refine LeO.ite ?_ ?_)
      | (with_reducible refine LeO.bind ?_ (fun _ => ?_))
      | exact ih0 _ _ _ _ _ _ _ _ _ _ _
      | exact ih1 _ _ _ _ _
      | exact LeO.none _
      | refine LeO.ite ?_ ?_
      | refine LeO.bind ?_ (fun _ => ?_)
set_option maxHeartbeats 8000000 in
set_option maxRecDepth 100000 in
theorem trivetlaw05_CountTurns.calls (k : Nat) (a0_0 : Int) (a0_1 : Int) (a0_2 : Int) (a1_0 : Int) (a1_1 : Int) (a1_2 : Int) (a2_0 : Int) (a2_1 : Int) (a2_2 : Int) (a3 : Bool) (r : Bool) (w : World) (h : trivetlaw05_CountTurns.f k a0_0 a0_1 a0_2 a1_0 a1_1 a1_2 a2_0 a2_1 a2_2 a3 = some r) :
    Calls Try.prog 6 #[.agg #[.int .i64 a0_0, .int .i64 a0_1, .int .i64 a0_2], .agg #[.int .i64 a1_0, .int .i64 a1_1, .int .i64 a1_2], .agg #[.int .i64 a2_0, .int .i64 a2_1, .int .i64 a2_2], .bool a3] w fun e w' => e = .returned (.bool r) ∧ Below w.heap.size w w' := by
  have hu23 := Try.underlying23
  have hu26 := Try.underlying26
  have hu30 := Try.underlying30
  have HB := Aside0.mk (Below.refl w.heap.size w)
  have H : ((trivetlaw05_up_s.f).bind fun t385 => ((count_Between_s.f a0_0 a0_1 a0_2 a1_0 a1_1 a1_2 a3).bind fun bt386 => ((count_Between_s.f a1_0 a1_1 a1_2 a2_0 a2_1 a2_2 a3).bind fun bt388 => ((count_Between_s.f a0_0 a0_1 a0_2 a2_0 a2_1 a2_2 a3).bind fun bt390 => ((count_Between_s.f a1_0 a1_1 a1_2 a0_0 a0_1 a0_2 a3).bind fun bt392 => (if bt386.2.isNone = true then (if bt388.2.isNone = true then (if bt390.2.isNone = true then (if bt392.2.isNone = true then (trivetlaw05_CountTurns.j0 k t385 bt386.1 none bt388.1 none bt390.1 bt392.1 false a0_0 a0_1 a0_2) else (trivetlaw05_CountTurns.j0 k t385 bt386.1 none bt388.1 none bt390.1 bt392.1 true a0_0 a0_1 a0_2)) else (trivetlaw05_CountTurns.j0 k t385 bt386.1 none bt388.1 none bt390.1 bt392.1 true a0_0 a0_1 a0_2)) else (trivetlaw05_CountTurns.j0 k t385 bt386.1 none bt388.1 (some (bt388.2.getD 0)) bt390.1 bt392.1 true a0_0 a0_1 a0_2)) else (trivetlaw05_CountTurns.j0 k t385 bt386.1 (some (bt386.2.getD 0)) bt388.1 bt388.2 bt390.1 bt392.1 true a0_0 a0_1 a0_2))))))) = some r := h
  clear h
  replace H := Option.bind_eq_some_iff.mp H
  obtain ⟨t385, A50, H⟩ := H
  replace H : ((count_Between_s.f a0_0 a0_1 a0_2 a1_0 a1_1 a1_2 a3).bind fun bt386 => ((count_Between_s.f a1_0 a1_1 a1_2 a2_0 a2_1 a2_2 a3).bind fun bt388 => ((count_Between_s.f a0_0 a0_1 a0_2 a2_0 a2_1 a2_2 a3).bind fun bt390 => ((count_Between_s.f a1_0 a1_1 a1_2 a0_0 a0_1 a0_2 a3).bind fun bt392 => (if bt386.2.isNone = true then (if bt388.2.isNone = true then (if bt390.2.isNone = true then (if bt392.2.isNone = true then (trivetlaw05_CountTurns.j0 k t385 bt386.1 none bt388.1 none bt390.1 bt392.1 false a0_0 a0_1 a0_2) else (trivetlaw05_CountTurns.j0 k t385 bt386.1 none bt388.1 none bt390.1 bt392.1 true a0_0 a0_1 a0_2)) else (trivetlaw05_CountTurns.j0 k t385 bt386.1 none bt388.1 none bt390.1 bt392.1 true a0_0 a0_1 a0_2)) else (trivetlaw05_CountTurns.j0 k t385 bt386.1 none bt388.1 (some (bt388.2.getD 0)) bt390.1 bt392.1 true a0_0 a0_1 a0_2)) else (trivetlaw05_CountTurns.j0 k t385 bt386.1 (some (bt386.2.getD 0)) bt388.1 bt388.2 bt390.1 bt392.1 true a0_0 a0_1 a0_2)))))) = some r := H
  have A5 := Aside0.mk A50
  clear A50
  replace H := Option.bind_eq_some_iff.mp H
  obtain ⟨⟨t386, t387⟩, A60, H⟩ := H
  replace H : ((count_Between_s.f a1_0 a1_1 a1_2 a2_0 a2_1 a2_2 a3).bind fun bt388 => ((count_Between_s.f a0_0 a0_1 a0_2 a2_0 a2_1 a2_2 a3).bind fun bt390 => ((count_Between_s.f a1_0 a1_1 a1_2 a0_0 a0_1 a0_2 a3).bind fun bt392 => (if t387.isNone = true then (if bt388.2.isNone = true then (if bt390.2.isNone = true then (if bt392.2.isNone = true then (trivetlaw05_CountTurns.j0 k t385 t386 none bt388.1 none bt390.1 bt392.1 false a0_0 a0_1 a0_2) else (trivetlaw05_CountTurns.j0 k t385 t386 none bt388.1 none bt390.1 bt392.1 true a0_0 a0_1 a0_2)) else (trivetlaw05_CountTurns.j0 k t385 t386 none bt388.1 none bt390.1 bt392.1 true a0_0 a0_1 a0_2)) else (trivetlaw05_CountTurns.j0 k t385 t386 none bt388.1 (some (bt388.2.getD 0)) bt390.1 bt392.1 true a0_0 a0_1 a0_2)) else (trivetlaw05_CountTurns.j0 k t385 t386 (some (t387.getD 0)) bt388.1 bt388.2 bt390.1 bt392.1 true a0_0 a0_1 a0_2))))) = some r := H
  have A6 := Aside0.mk A60
  clear A60
  replace H := Option.bind_eq_some_iff.mp H
  obtain ⟨⟨t388, t389⟩, A70, H⟩ := H
  replace H : ((count_Between_s.f a0_0 a0_1 a0_2 a2_0 a2_1 a2_2 a3).bind fun bt390 => ((count_Between_s.f a1_0 a1_1 a1_2 a0_0 a0_1 a0_2 a3).bind fun bt392 => (if t387.isNone = true then (if t389.isNone = true then (if bt390.2.isNone = true then (if bt392.2.isNone = true then (trivetlaw05_CountTurns.j0 k t385 t386 none t388 none bt390.1 bt392.1 false a0_0 a0_1 a0_2) else (trivetlaw05_CountTurns.j0 k t385 t386 none t388 none bt390.1 bt392.1 true a0_0 a0_1 a0_2)) else (trivetlaw05_CountTurns.j0 k t385 t386 none t388 none bt390.1 bt392.1 true a0_0 a0_1 a0_2)) else (trivetlaw05_CountTurns.j0 k t385 t386 none t388 (some (t389.getD 0)) bt390.1 bt392.1 true a0_0 a0_1 a0_2)) else (trivetlaw05_CountTurns.j0 k t385 t386 (some (t387.getD 0)) t388 t389 bt390.1 bt392.1 true a0_0 a0_1 a0_2)))) = some r := H
  have A7 := Aside0.mk A70
  clear A70
  replace H := Option.bind_eq_some_iff.mp H
  obtain ⟨⟨t390, t391⟩, A80, H⟩ := H
  replace H : ((count_Between_s.f a1_0 a1_1 a1_2 a0_0 a0_1 a0_2 a3).bind fun bt392 => (if t387.isNone = true then (if t389.isNone = true then (if t391.isNone = true then (if bt392.2.isNone = true then (trivetlaw05_CountTurns.j0 k t385 t386 none t388 none t390 bt392.1 false a0_0 a0_1 a0_2) else (trivetlaw05_CountTurns.j0 k t385 t386 none t388 none t390 bt392.1 true a0_0 a0_1 a0_2)) else (trivetlaw05_CountTurns.j0 k t385 t386 none t388 none t390 bt392.1 true a0_0 a0_1 a0_2)) else (trivetlaw05_CountTurns.j0 k t385 t386 none t388 (some (t389.getD 0)) t390 bt392.1 true a0_0 a0_1 a0_2)) else (trivetlaw05_CountTurns.j0 k t385 t386 (some (t387.getD 0)) t388 t389 t390 bt392.1 true a0_0 a0_1 a0_2))) = some r := H
  have A8 := Aside0.mk A80
  clear A80
  replace H := Option.bind_eq_some_iff.mp H
  obtain ⟨⟨t392, t393⟩, A90, H⟩ := H
  replace H : (if t387.isNone = true then (if t389.isNone = true then (if t391.isNone = true then (if t393.isNone = true then (trivetlaw05_CountTurns.j0 k t385 t386 none t388 none t390 t392 false a0_0 a0_1 a0_2) else (trivetlaw05_CountTurns.j0 k t385 t386 none t388 none t390 t392 true a0_0 a0_1 a0_2)) else (trivetlaw05_CountTurns.j0 k t385 t386 none t388 none t390 t392 true a0_0 a0_1 a0_2)) else (trivetlaw05_CountTurns.j0 k t385 t386 none t388 (some (t389.getD 0)) t390 t392 true a0_0 a0_1 a0_2)) else (trivetlaw05_CountTurns.j0 k t385 t386 (some (t387.getD 0)) t388 t389 t390 t392 true a0_0 a0_1 a0_2)) = some r := H
  have A9 := Aside0.mk A90
  clear A90
  have HC10 := Aside0.mk H
  clear H
  go_enter Try.func6, Try.ntmps6
  go_upto_region 6 with (first | ((with_reducible refine gate_dst (N := 4) rfl ?_); refine box_event ?hg (N := 4) ?hd (cs := #[.int .i64 a0_0, .int .i64 a0_1, .int .i64 a0_2]) (t := 23) ?hr ?_; (case hd => rfl); (case hg => rfl); (case hr => first | (go_simp; done) | (go_simp; rfl)); intro gb382 hg w11 hbox hb; have n0_ := Aside0.mk (below_step (by repeat (first | (with_reducible first | exact HB.out | apply below_alloc | apply pw_below_drewN | apply below_drew1) | exact HB.out)) hb); have n1_ := Aside0.mk (hbox); have n2_ := Aside0.mk ((by rw [hg]; exact (below_size (by repeat (first | (with_reducible first | exact HB.out | apply below_alloc | apply pw_below_drewN | apply below_drew1) | exact HB.out))) : w.heap.size ≤ gb382)); have n3_ := Aside0.mk ((by rw [hg]; exact (below_size (by repeat (first | (with_reducible first | exact HB.out | apply below_alloc | apply pw_below_drewN | apply below_drew1) | exact HB.out))) : w.heap.size ≤ gb382)); clear HB; have HB := n0_; have BK382 := n1_; have GW382 := n2_; have GE382 := n3_; clear n0_ n1_ n2_ n3_; clear hb hbox hg) | ((with_reducible refine gate_dst (N := 5) rfl ?_); refine box_event ?hg (N := 5) ?hd (cs := #[.int .i64 a1_0, .int .i64 a1_1, .int .i64 a1_2]) (t := 23) ?hr ?_; (case hd => rfl); (case hg => rfl); (case hr => first | (go_simp; done) | (go_simp; rfl)); intro gb383 hg w12 hbox hb; have n0_ := Aside0.mk (blk_below (g := gb382) (o := .cells #[.int .i64 a0_0, .int .i64 a0_1, .int .i64 a0_2] 23 (0, 0)) (by (with_reducible repeat (first | refine blk_drewN ?_ _ | refine blk_drew ?_ | refine blk_alloc ?_ _)); exact BK382.out) hb); have n1_ := Aside0.mk (below_step (by repeat (first | (with_reducible first | exact HB.out | apply below_alloc | apply pw_below_drewN | apply below_drew1 | refine below_set ?_ GE382.out) | exact HB.out)) hb); have n2_ := Aside0.mk (hbox); have n3_ := Aside0.mk ((by rw [hg]; exact (below_size (by repeat (first | (with_reducible first | exact HB.out | apply below_alloc | apply pw_below_drewN | apply below_drew1 | refine below_set ?_ GE382.out) | exact HB.out))) : w.heap.size ≤ gb383)); have n4_ := Aside0.mk ((by rw [hg]; exact (below_size (by repeat (first | (with_reducible first | exact HB.out | apply below_alloc | apply pw_below_drewN | apply below_drew1 | refine below_set ?_ GE382.out) | exact HB.out))) : w.heap.size ≤ gb383)); have n5_ := Aside0.mk ((by rw [hg]; exact Nat.ne_of_lt (blk_lt (g := gb382) (o := .cells #[.int .i64 a0_0, .int .i64 a0_1, .int .i64 a0_2] 23 (0, 0)) (by (with_reducible repeat (first | refine blk_drewN ?_ _ | refine blk_drew ?_ | refine blk_alloc ?_ _)); exact BK382.out)) : gb382 ≠ gb383)); have n6_ := Aside0.mk ((by rw [hg]; exact Nat.ne_of_gt (blk_lt (g := gb382) (o := .cells #[.int .i64 a0_0, .int .i64 a0_1, .int .i64 a0_2] 23 (0, 0)) (by (with_reducible repeat (first | refine blk_drewN ?_ _ | refine blk_drew ?_ | refine blk_alloc ?_ _)); exact BK382.out)) : gb383 ≠ gb382)); clear BK382; clear HB; have BK382 := n0_; have HB := n1_; have BK383 := n2_; have GW383 := n3_; have GE383 := n4_; have NB382_383 := n5_; have NB383_382 := n6_; clear n0_ n1_ n2_ n3_ n4_ n5_ n6_; clear hb hbox hg) | ((with_reducible refine gate_dst (N := 6) rfl ?_); refine box_event ?hg (N := 6) ?hd (cs := #[.int .i64 a2_0, .int .i64 a2_1, .int .i64 a2_2]) (t := 23) ?hr ?_; (case hd => rfl); (case hg => rfl); (case hr => first | (go_simp; done) | (go_simp; rfl)); intro gb384 hg w13 hbox hb; have n0_ := Aside0.mk (blk_below (g := gb382) (o := .cells #[.int .i64 a0_0, .int .i64 a0_1, .int .i64 a0_2] 23 (0, 0)) (by (with_reducible repeat (first | refine blk_drewN ?_ _ | refine blk_drew ?_ | refine blk_alloc ?_ _)); exact BK382.out) hb); have n1_ := Aside0.mk (blk_below (g := gb383) (o := .cells #[.int .i64 a1_0, .int .i64 a1_1, .int .i64 a1_2] 23 (0, 0)) (by (with_reducible repeat (first | refine blk_drewN ?_ _ | refine blk_drew ?_ | refine blk_alloc ?_ _)); exact BK383.out) hb); have n2_ := Aside0.mk (below_step (by repeat (first | (with_reducible first | exact HB.out | apply below_alloc | apply pw_below_drewN | apply below_drew1 | refine below_set ?_ GE382.out | refine below_set ?_ GE383.out) | exact HB.out)) hb); have n3_ := Aside0.mk (hbox); have n4_ := Aside0.mk ((by rw [hg]; exact (below_size (by repeat (first | (with_reducible first | exact HB.out | apply below_alloc | apply pw_below_drewN | apply below_drew1 | refine below_set ?_ GE382.out | refine below_set ?_ GE383.out) | exact HB.out))) : w.heap.size ≤ gb384)); have n5_ := Aside0.mk ((by rw [hg]; exact (below_size (by repeat (first | (with_reducible first | exact HB.out | apply below_alloc | apply pw_below_drewN | apply below_drew1 | refine below_set ?_ GE382.out | refine below_set ?_ GE383.out) | exact HB.out))) : w.heap.size ≤ gb384)); have n6_ := Aside0.mk ((by rw [hg]; exact Nat.ne_of_lt (blk_lt (g := gb382) (o := .cells #[.int .i64 a0_0, .int .i64 a0_1, .int .i64 a0_2] 23 (0, 0)) (by (with_reducible repeat (first | refine blk_drewN ?_ _ | refine blk_drew ?_ | refine blk_alloc ?_ _)); exact BK382.out)) : gb382 ≠ gb384)); have n7_ := Aside0.mk ((by rw [hg]; exact Nat.ne_of_gt (blk_lt (g := gb382) (o := .cells #[.int .i64 a0_0, .int .i64 a0_1, .int .i64 a0_2] 23 (0, 0)) (by (with_reducible repeat (first | refine blk_drewN ?_ _ | refine blk_drew ?_ | refine blk_alloc ?_ _)); exact BK382.out)) : gb384 ≠ gb382)); have n8_ := Aside0.mk ((by rw [hg]; exact Nat.ne_of_lt (blk_lt (g := gb383) (o := .cells #[.int .i64 a1_0, .int .i64 a1_1, .int .i64 a1_2] 23 (0, 0)) (by (with_reducible repeat (first | refine blk_drewN ?_ _ | refine blk_drew ?_ | refine blk_alloc ?_ _)); exact BK383.out)) : gb383 ≠ gb384)); have n9_ := Aside0.mk ((by rw [hg]; exact Nat.ne_of_gt (blk_lt (g := gb383) (o := .cells #[.int .i64 a1_0, .int .i64 a1_1, .int .i64 a1_2] 23 (0, 0)) (by (with_reducible repeat (first | refine blk_drewN ?_ _ | refine blk_drew ?_ | refine blk_alloc ?_ _)); exact BK383.out)) : gb384 ≠ gb383)); clear BK382; clear BK383; clear HB; have BK382 := n0_; have BK383 := n1_; have HB := n2_; have BK384 := n3_; have GW384 := n4_; have GE384 := n5_; have NB382_384 := n6_; have NB384_382 := n7_; have NB383_384 := n8_; have NB384_383 := n9_; clear n0_ n1_ n2_ n3_ n4_ n5_ n6_ n7_ n8_ n9_; clear hb hbox hg) | ((with_reducible refine gate_callee (f := 7) rfl ?_); refine goesL_ (some 22) rfl rfl Try.func7 (by kernel_rfl) rfl #[] rfl (by (try simp only [List.map_toArray, List.map_cons, List.map_nil]); first | done | rfl | (simp only [List.length_drop, List.length_take]; rfl)) ?_; (with_reducible refine (trivetlaw05_up_s.calls  t385 _ A5.out).mono ?_); rintro e w14 ⟨rfl, hb⟩; refine ⟨_, rfl, ?_⟩; have n0_ := Aside0.mk (blk_below (g := gb382) (o := .cells #[.int .i64 a0_0, .int .i64 a0_1, .int .i64 a0_2] 23 (0, 0)) (by (with_reducible repeat (first | refine blk_drewN ?_ _ | refine blk_drew ?_ | refine blk_alloc ?_ _)); exact BK382.out) hb); have n1_ := Aside0.mk (blk_below (g := gb383) (o := .cells #[.int .i64 a1_0, .int .i64 a1_1, .int .i64 a1_2] 23 (0, 0)) (by (with_reducible repeat (first | refine blk_drewN ?_ _ | refine blk_drew ?_ | refine blk_alloc ?_ _)); exact BK383.out) hb); have n2_ := Aside0.mk (blk_below (g := gb384) (o := .cells #[.int .i64 a2_0, .int .i64 a2_1, .int .i64 a2_2] 23 (0, 0)) (by (with_reducible repeat (first | refine blk_drewN ?_ _ | refine blk_drew ?_ | refine blk_alloc ?_ _)); exact BK384.out) hb); have n3_ := Aside0.mk (below_step (by repeat (first | (with_reducible first | exact HB.out | apply below_alloc | apply pw_below_drewN | apply below_drew1 | refine below_set ?_ GE382.out | refine below_set ?_ GE383.out | refine below_set ?_ GE384.out) | exact HB.out)) hb); clear BK382; clear BK383; clear BK384; clear HB; have BK382 := n0_; have BK383 := n1_; have BK384 := n2_; have HB := n3_; clear n0_ n1_ n2_ n3_; (try clear hb); (try clear hb2); (try clear hk); (try clear hi); have hnb15 := NB382_383.out; have hnc15 := NB383_382.out; have hnb16 := NB382_384.out; have hnc16 := NB384_382.out; have hcz17_0 : w14.cell? ⟨gb382, 0, none⟩ = some (.int .i64 a0_0) := (blk_cell BK382.out 0).trans rfl; have hcz17_1 : w14.cell? ⟨gb382, 1, none⟩ = some (.int .i64 a0_1) := (blk_cell BK382.out 1).trans rfl; have hcz17_2 : w14.cell? ⟨gb382, 2, none⟩ = some (.int .i64 a0_2) := (blk_cell BK382.out 2).trans rfl; have hfz17_0 := blk_frozen BK382.out 0; have hfz17_1 := blk_frozen BK382.out 1; have hfz17_2 := blk_frozen BK382.out 2; have hnb18 := NB383_384.out; have hnc18 := NB384_383.out; have hcz19_0 : w14.cell? ⟨gb383, 0, none⟩ = some (.int .i64 a1_0) := (blk_cell BK383.out 0).trans rfl; have hcz19_1 : w14.cell? ⟨gb383, 1, none⟩ = some (.int .i64 a1_1) := (blk_cell BK383.out 1).trans rfl; have hcz19_2 : w14.cell? ⟨gb383, 2, none⟩ = some (.int .i64 a1_2) := (blk_cell BK383.out 2).trans rfl; have hfz19_0 := blk_frozen BK383.out 0; have hfz19_1 := blk_frozen BK383.out 1; have hfz19_2 := blk_frozen BK383.out 2) | ((with_reducible refine gate_callee (f := 8) rfl ?_); refine goesL_ (some 27) rfl rfl Try.func8 (by kernel_rfl) rfl #[.agg #[.int .i64 a0_0, .int .i64 a0_1, .int .i64 a0_2], .agg #[.int .i64 a1_0, .int .i64 a1_1, .int .i64 a1_2], .bool a3] rfl (by (try simp only [List.map_toArray, List.map_cons, List.map_nil]); first | done | rfl | (simp only [List.length_drop, List.length_take]; rfl)) ?_; (with_reducible refine (count_Between_s.calls a0_0 a0_1 a0_2 a1_0 a1_1 a1_2 a3 t386 t387 _ A6.out).mono ?_); rintro e w20 ⟨rfl, hb⟩; refine ⟨_, rfl, ?_⟩; have n0_ := Aside0.mk (blk_below (g := gb382) (o := .cells #[.int .i64 a0_0, .int .i64 a0_1, .int .i64 a0_2] 23 (0, 0)) (by (with_reducible repeat (first | refine blk_drewN ?_ _ | refine blk_drew ?_ | refine blk_alloc ?_ _)); exact BK382.out) hb); have n1_ := Aside0.mk (blk_below (g := gb383) (o := .cells #[.int .i64 a1_0, .int .i64 a1_1, .int .i64 a1_2] 23 (0, 0)) (by (with_reducible repeat (first | refine blk_drewN ?_ _ | refine blk_drew ?_ | refine blk_alloc ?_ _)); exact BK383.out) hb); have n2_ := Aside0.mk (blk_below (g := gb384) (o := .cells #[.int .i64 a2_0, .int .i64 a2_1, .int .i64 a2_2] 23 (0, 0)) (by (with_reducible repeat (first | refine blk_drewN ?_ _ | refine blk_drew ?_ | refine blk_alloc ?_ _)); exact BK384.out) hb); have n3_ := Aside0.mk (below_step (by repeat (first | (with_reducible first | exact HB.out | apply below_alloc | apply pw_below_drewN | apply below_drew1 | refine below_set ?_ GE382.out | refine below_set ?_ GE383.out | refine below_set ?_ GE384.out) | exact HB.out)) hb); clear BK382; clear BK383; clear BK384; clear HB; have BK382 := n0_; have BK383 := n1_; have BK384 := n2_; have HB := n3_; clear n0_ n1_ n2_ n3_; (try clear hb); (try clear hb2); (try clear hk); (try clear hi); (try simp only [errW_none, errW_some]); have hcz21_0 : w20.cell? ⟨gb383, 0, none⟩ = some (.int .i64 a1_0) := (blk_cell BK383.out 0).trans rfl; have hcz21_1 : w20.cell? ⟨gb383, 1, none⟩ = some (.int .i64 a1_1) := (blk_cell BK383.out 1).trans rfl; have hcz21_2 : w20.cell? ⟨gb383, 2, none⟩ = some (.int .i64 a1_2) := (blk_cell BK383.out 2).trans rfl; have hfz21_0 := blk_frozen BK383.out 0; have hfz21_1 := blk_frozen BK383.out 1; have hfz21_2 := blk_frozen BK383.out 2; have hcz22_0 : w20.cell? ⟨gb384, 0, none⟩ = some (.int .i64 a2_0) := (blk_cell BK384.out 0).trans rfl; have hcz22_1 : w20.cell? ⟨gb384, 1, none⟩ = some (.int .i64 a2_1) := (blk_cell BK384.out 1).trans rfl; have hcz22_2 : w20.cell? ⟨gb384, 2, none⟩ = some (.int .i64 a2_2) := (blk_cell BK384.out 2).trans rfl; have hfz22_0 := blk_frozen BK384.out 0; have hfz22_1 := blk_frozen BK384.out 1; have hfz22_2 := blk_frozen BK384.out 2) | ((with_reducible refine gate_callee (f := 8) rfl ?_); refine goesL_ (some 34) rfl rfl Try.func8 (by kernel_rfl) rfl #[.agg #[.int .i64 a1_0, .int .i64 a1_1, .int .i64 a1_2], .agg #[.int .i64 a2_0, .int .i64 a2_1, .int .i64 a2_2], .bool a3] rfl (by (try simp only [List.map_toArray, List.map_cons, List.map_nil]); first | done | rfl | (simp only [List.length_drop, List.length_take]; rfl)) ?_; (with_reducible refine (count_Between_s.calls a1_0 a1_1 a1_2 a2_0 a2_1 a2_2 a3 t388 t389 _ A7.out).mono ?_); rintro e w23 ⟨rfl, hb⟩; refine ⟨_, rfl, ?_⟩; have n0_ := Aside0.mk (blk_below (g := gb382) (o := .cells #[.int .i64 a0_0, .int .i64 a0_1, .int .i64 a0_2] 23 (0, 0)) (by (with_reducible repeat (first | refine blk_drewN ?_ _ | refine blk_drew ?_ | refine blk_alloc ?_ _)); exact BK382.out) hb); have n1_ := Aside0.mk (blk_below (g := gb383) (o := .cells #[.int .i64 a1_0, .int .i64 a1_1, .int .i64 a1_2] 23 (0, 0)) (by (with_reducible repeat (first | refine blk_drewN ?_ _ | refine blk_drew ?_ | refine blk_alloc ?_ _)); exact BK383.out) hb); have n2_ := Aside0.mk (blk_below (g := gb384) (o := .cells #[.int .i64 a2_0, .int .i64 a2_1, .int .i64 a2_2] 23 (0, 0)) (by (with_reducible repeat (first | refine blk_drewN ?_ _ | refine blk_drew ?_ | refine blk_alloc ?_ _)); exact BK384.out) hb); have n3_ := Aside0.mk (below_step (by repeat (first | (with_reducible first | exact HB.out | apply below_alloc | apply pw_below_drewN | apply below_drew1 | refine below_set ?_ GE382.out | refine below_set ?_ GE383.out | refine below_set ?_ GE384.out) | exact HB.out)) hb); clear BK382; clear BK383; clear BK384; clear HB; have BK382 := n0_; have BK383 := n1_; have BK384 := n2_; have HB := n3_; clear n0_ n1_ n2_ n3_; (try clear hb); (try clear hb2); (try clear hk); (try clear hi); (try simp only [errW_none, errW_some]); have hcz24_0 : w23.cell? ⟨gb382, 0, none⟩ = some (.int .i64 a0_0) := (blk_cell BK382.out 0).trans rfl; have hcz24_1 : w23.cell? ⟨gb382, 1, none⟩ = some (.int .i64 a0_1) := (blk_cell BK382.out 1).trans rfl; have hcz24_2 : w23.cell? ⟨gb382, 2, none⟩ = some (.int .i64 a0_2) := (blk_cell BK382.out 2).trans rfl; have hfz24_0 := blk_frozen BK382.out 0; have hfz24_1 := blk_frozen BK382.out 1; have hfz24_2 := blk_frozen BK382.out 2; have hcz25_0 : w23.cell? ⟨gb384, 0, none⟩ = some (.int .i64 a2_0) := (blk_cell BK384.out 0).trans rfl; have hcz25_1 : w23.cell? ⟨gb384, 1, none⟩ = some (.int .i64 a2_1) := (blk_cell BK384.out 1).trans rfl; have hcz25_2 : w23.cell? ⟨gb384, 2, none⟩ = some (.int .i64 a2_2) := (blk_cell BK384.out 2).trans rfl; have hfz25_0 := blk_frozen BK384.out 0; have hfz25_1 := blk_frozen BK384.out 1; have hfz25_2 := blk_frozen BK384.out 2) | ((with_reducible refine gate_callee (f := 8) rfl ?_); refine goesL_ (some 41) rfl rfl Try.func8 (by kernel_rfl) rfl #[.agg #[.int .i64 a0_0, .int .i64 a0_1, .int .i64 a0_2], .agg #[.int .i64 a2_0, .int .i64 a2_1, .int .i64 a2_2], .bool a3] rfl (by (try simp only [List.map_toArray, List.map_cons, List.map_nil]); first | done | rfl | (simp only [List.length_drop, List.length_take]; rfl)) ?_; (with_reducible refine (count_Between_s.calls a0_0 a0_1 a0_2 a2_0 a2_1 a2_2 a3 t390 t391 _ A8.out).mono ?_); rintro e w26 ⟨rfl, hb⟩; refine ⟨_, rfl, ?_⟩; have n0_ := Aside0.mk (blk_below (g := gb382) (o := .cells #[.int .i64 a0_0, .int .i64 a0_1, .int .i64 a0_2] 23 (0, 0)) (by (with_reducible repeat (first | refine blk_drewN ?_ _ | refine blk_drew ?_ | refine blk_alloc ?_ _)); exact BK382.out) hb); have n1_ := Aside0.mk (blk_below (g := gb383) (o := .cells #[.int .i64 a1_0, .int .i64 a1_1, .int .i64 a1_2] 23 (0, 0)) (by (with_reducible repeat (first | refine blk_drewN ?_ _ | refine blk_drew ?_ | refine blk_alloc ?_ _)); exact BK383.out) hb); have n2_ := Aside0.mk (blk_below (g := gb384) (o := .cells #[.int .i64 a2_0, .int .i64 a2_1, .int .i64 a2_2] 23 (0, 0)) (by (with_reducible repeat (first | refine blk_drewN ?_ _ | refine blk_drew ?_ | refine blk_alloc ?_ _)); exact BK384.out) hb); have n3_ := Aside0.mk (below_step (by repeat (first | (with_reducible first | exact HB.out | apply below_alloc | apply pw_below_drewN | apply below_drew1 | refine below_set ?_ GE382.out | refine below_set ?_ GE383.out | refine below_set ?_ GE384.out) | exact HB.out)) hb); clear BK382; clear BK383; clear BK384; clear HB; have BK382 := n0_; have BK383 := n1_; have BK384 := n2_; have HB := n3_; clear n0_ n1_ n2_ n3_; (try clear hb); (try clear hb2); (try clear hk); (try clear hi); (try simp only [errW_none, errW_some]); have hcz27_0 : w26.cell? ⟨gb383, 0, none⟩ = some (.int .i64 a1_0) := (blk_cell BK383.out 0).trans rfl; have hcz27_1 : w26.cell? ⟨gb383, 1, none⟩ = some (.int .i64 a1_1) := (blk_cell BK383.out 1).trans rfl; have hcz27_2 : w26.cell? ⟨gb383, 2, none⟩ = some (.int .i64 a1_2) := (blk_cell BK383.out 2).trans rfl; have hfz27_0 := blk_frozen BK383.out 0; have hfz27_1 := blk_frozen BK383.out 1; have hfz27_2 := blk_frozen BK383.out 2; have hcz28_0 : w26.cell? ⟨gb382, 0, none⟩ = some (.int .i64 a0_0) := (blk_cell BK382.out 0).trans rfl; have hcz28_1 : w26.cell? ⟨gb382, 1, none⟩ = some (.int .i64 a0_1) := (blk_cell BK382.out 1).trans rfl; have hcz28_2 : w26.cell? ⟨gb382, 2, none⟩ = some (.int .i64 a0_2) := (blk_cell BK382.out 2).trans rfl; have hfz28_0 := blk_frozen BK382.out 0; have hfz28_1 := blk_frozen BK382.out 1; have hfz28_2 := blk_frozen BK382.out 2) | ((with_reducible refine gate_callee (f := 8) rfl ?_); refine goesL_ (some 48) rfl rfl Try.func8 (by kernel_rfl) rfl #[.agg #[.int .i64 a1_0, .int .i64 a1_1, .int .i64 a1_2], .agg #[.int .i64 a0_0, .int .i64 a0_1, .int .i64 a0_2], .bool a3] rfl (by (try simp only [List.map_toArray, List.map_cons, List.map_nil]); first | done | rfl | (simp only [List.length_drop, List.length_take]; rfl)) ?_; (with_reducible refine (count_Between_s.calls a1_0 a1_1 a1_2 a0_0 a0_1 a0_2 a3 t392 t393 _ A9.out).mono ?_); rintro e w29 ⟨rfl, hb⟩; refine ⟨_, rfl, ?_⟩; have n0_ := Aside0.mk (blk_below (g := gb382) (o := .cells #[.int .i64 a0_0, .int .i64 a0_1, .int .i64 a0_2] 23 (0, 0)) (by (with_reducible repeat (first | refine blk_drewN ?_ _ | refine blk_drew ?_ | refine blk_alloc ?_ _)); exact BK382.out) hb); have n1_ := Aside0.mk (blk_below (g := gb383) (o := .cells #[.int .i64 a1_0, .int .i64 a1_1, .int .i64 a1_2] 23 (0, 0)) (by (with_reducible repeat (first | refine blk_drewN ?_ _ | refine blk_drew ?_ | refine blk_alloc ?_ _)); exact BK383.out) hb); have n2_ := Aside0.mk (blk_below (g := gb384) (o := .cells #[.int .i64 a2_0, .int .i64 a2_1, .int .i64 a2_2] 23 (0, 0)) (by (with_reducible repeat (first | refine blk_drewN ?_ _ | refine blk_drew ?_ | refine blk_alloc ?_ _)); exact BK384.out) hb); have n3_ := Aside0.mk (below_step (by repeat (first | (with_reducible first | exact HB.out | apply below_alloc | apply pw_below_drewN | apply below_drew1 | refine below_set ?_ GE382.out | refine below_set ?_ GE383.out | refine below_set ?_ GE384.out) | exact HB.out)) hb); clear BK382; clear BK383; clear BK384; clear HB; have BK382 := n0_; have BK383 := n1_; have BK384 := n2_; have HB := n3_; clear n0_ n1_ n2_ n3_; (try clear hb); (try clear hb2); (try clear hk); (try clear hi); (try simp only [errW_none, errW_some])))
  (try simp only [Act.put, List.setIfInBounds_toArray, List.set_cons_zero, List.set_cons_succ])
  go_cut [64] (fun v64 wc => ∃ (kq : Nat) (x64_9 : Bool), v64 = .bool x64_9 ∧ Aside0 (trivetlaw05_CountTurns.j0 kq t385 t386 t387 t388 t389 t390 t392 x64_9 a0_0 a0_1 a0_2 = some r) ∧ Aside0 (kq ≤ k) ∧ Aside0 (wc.heap[gb382]? = some (.cells #[.int .i64 a0_0, .int .i64 a0_1, .int .i64 a0_2] 23 (0, 0))) ∧ Aside0 (wc.heap[gb383]? = some (.cells #[.int .i64 a1_0, .int .i64 a1_1, .int .i64 a1_2] 23 (0, 0))) ∧ Aside0 (wc.heap[gb384]? = some (.cells #[.int .i64 a2_0, .int .i64 a2_1, .int .i64 a2_2] 23 (0, 0))) ∧ Aside0 (Below w.heap.size w wc))
  case first =>
    have H := HC10.out
    clear HC10
    rcases t387 with _ | q394
    · have H1 : (if t389.isNone = true then (if t391.isNone = true then (if t393.isNone = true then (trivetlaw05_CountTurns.j0 k t385 t386 none t388 none t390 t392 false a0_0 a0_1 a0_2) else (trivetlaw05_CountTurns.j0 k t385 t386 none t388 none t390 t392 true a0_0 a0_1 a0_2)) else (trivetlaw05_CountTurns.j0 k t385 t386 none t388 none t390 t392 true a0_0 a0_1 a0_2)) else (trivetlaw05_CountTurns.j0 k t385 t386 none t388 (some (t389.getD 0)) t390 t392 true a0_0 a0_1 a0_2)) = some r := by rw [if_pos (show (none : Option Int).isNone = true by rfl)] at H; exact H
      clear H
      have H := H1
      clear H1
      try simp only [errW_none, errW_some]
      rcases t389 with _ | q395
      · have H1 : (if t391.isNone = true then (if t393.isNone = true then (trivetlaw05_CountTurns.j0 k t385 t386 none t388 none t390 t392 false a0_0 a0_1 a0_2) else (trivetlaw05_CountTurns.j0 k t385 t386 none t388 none t390 t392 true a0_0 a0_1 a0_2)) else (trivetlaw05_CountTurns.j0 k t385 t386 none t388 none t390 t392 true a0_0 a0_1 a0_2)) = some r := by rw [if_pos (show (none : Option Int).isNone = true by rfl)] at H; exact H
        clear H
        have H := H1
        clear H1
        try simp only [errW_none, errW_some]
        rcases t391 with _ | q396
        · have H1 : (if t393.isNone = true then (trivetlaw05_CountTurns.j0 k t385 t386 none t388 none t390 t392 false a0_0 a0_1 a0_2) else (trivetlaw05_CountTurns.j0 k t385 t386 none t388 none t390 t392 true a0_0 a0_1 a0_2)) = some r := by rw [if_pos (show (none : Option Int).isNone = true by rfl)] at H; exact H
          clear H
          have H := H1
          clear H1
          try simp only [errW_none, errW_some]
          rcases t393 with _ | q397
          · have H1 : (trivetlaw05_CountTurns.j0 k t385 t386 none t388 none t390 t392 false a0_0 a0_1 a0_2) = some r := by rw [if_pos (show (none : Option Int).isNone = true by rfl)] at H; exact H
            clear H
            have H := H1
            clear H1
            try simp only [errW_none, errW_some]
            have H' := Aside0.mk H
            clear H
            go_wp2
            go_meet
            case rel => exact ⟨_, (false), (by first | rfl | (simp; done) | (simp [*]; done)), H', ⟨by first | omega | exact Nat.le_refl _⟩, ⟨by (with_reducible repeat (first | refine blk_drewN ?_ _ | refine blk_drew ?_ | refine blk_alloc ?_ _)); exact BK382.out⟩, ⟨by (with_reducible repeat (first | refine blk_drewN ?_ _ | refine blk_drew ?_ | refine blk_alloc ?_ _)); exact BK383.out⟩, ⟨by (with_reducible repeat (first | refine blk_drewN ?_ _ | refine blk_drew ?_ | refine blk_alloc ?_ _)); exact BK384.out⟩, ⟨by repeat (first | (with_reducible first | exact HB.out | apply below_alloc | apply pw_below_drewN | apply below_drew1 | refine below_set ?_ GE382.out | refine below_set ?_ GE383.out | refine below_set ?_ GE384.out) | exact HB.out)⟩⟩
          · have H1 : (trivetlaw05_CountTurns.j0 k t385 t386 none t388 none t390 t392 true a0_0 a0_1 a0_2) = some r := by rw [if_neg (show ¬ (some q397).isNone = true by simp)] at H; exact H
            clear H
            have H := H1
            clear H1
            try simp only [errW_none, errW_some]
            have H' := Aside0.mk H
            clear H
            go_wp2
            go_meet
            case rel => exact ⟨_, (true), (by first | rfl | (simp; done) | (simp [*]; done)), H', ⟨by first | omega | exact Nat.le_refl _⟩, ⟨by (with_reducible repeat (first | refine blk_drewN ?_ _ | refine blk_drew ?_ | refine blk_alloc ?_ _)); exact BK382.out⟩, ⟨by (with_reducible repeat (first | refine blk_drewN ?_ _ | refine blk_drew ?_ | refine blk_alloc ?_ _)); exact BK383.out⟩, ⟨by (with_reducible repeat (first | refine blk_drewN ?_ _ | refine blk_drew ?_ | refine blk_alloc ?_ _)); exact BK384.out⟩, ⟨by repeat (first | (with_reducible first | exact HB.out | apply below_alloc | apply pw_below_drewN | apply below_drew1 | refine below_set ?_ GE382.out | refine below_set ?_ GE383.out | refine below_set ?_ GE384.out) | exact HB.out)⟩⟩
        · have H1 : (trivetlaw05_CountTurns.j0 k t385 t386 none t388 none t390 t392 true a0_0 a0_1 a0_2) = some r := by rw [if_neg (show ¬ (some q396).isNone = true by simp)] at H; exact H
          clear H
          have H := H1
          clear H1
          try simp only [errW_none, errW_some]
          have H' := Aside0.mk H
          clear H
          go_wp2
          go_meet
          case rel => exact ⟨_, (true), (by first | rfl | (simp; done) | (simp [*]; done)), H', ⟨by first | omega | exact Nat.le_refl _⟩, ⟨by (with_reducible repeat (first | refine blk_drewN ?_ _ | refine blk_drew ?_ | refine blk_alloc ?_ _)); exact BK382.out⟩, ⟨by (with_reducible repeat (first | refine blk_drewN ?_ _ | refine blk_drew ?_ | refine blk_alloc ?_ _)); exact BK383.out⟩, ⟨by (with_reducible repeat (first | refine blk_drewN ?_ _ | refine blk_drew ?_ | refine blk_alloc ?_ _)); exact BK384.out⟩, ⟨by repeat (first | (with_reducible first | exact HB.out | apply below_alloc | apply pw_below_drewN | apply below_drew1 | refine below_set ?_ GE382.out | refine below_set ?_ GE383.out | refine below_set ?_ GE384.out) | exact HB.out)⟩⟩
      · have H1 : (trivetlaw05_CountTurns.j0 k t385 t386 none t388 (some q395) t390 t392 true a0_0 a0_1 a0_2) = some r := by rw [if_neg (show ¬ (some q395).isNone = true by simp)] at H; exact H
        clear H
        have H := H1
        clear H1
        try simp only [errW_none, errW_some]
        have H' := Aside0.mk H
        clear H
        go_wp2
        go_meet
        case rel => exact ⟨_, (true), (by first | rfl | (simp; done) | (simp [*]; done)), H', ⟨by first | omega | exact Nat.le_refl _⟩, ⟨by (with_reducible repeat (first | refine blk_drewN ?_ _ | refine blk_drew ?_ | refine blk_alloc ?_ _)); exact BK382.out⟩, ⟨by (with_reducible repeat (first | refine blk_drewN ?_ _ | refine blk_drew ?_ | refine blk_alloc ?_ _)); exact BK383.out⟩, ⟨by (with_reducible repeat (first | refine blk_drewN ?_ _ | refine blk_drew ?_ | refine blk_alloc ?_ _)); exact BK384.out⟩, ⟨by repeat (first | (with_reducible first | exact HB.out | apply below_alloc | apply pw_below_drewN | apply below_drew1 | refine below_set ?_ GE382.out | refine below_set ?_ GE383.out | refine below_set ?_ GE384.out) | exact HB.out)⟩⟩
    · have H1 : (trivetlaw05_CountTurns.j0 k t385 t386 (some q394) t388 t389 t390 t392 true a0_0 a0_1 a0_2) = some r := by rw [if_neg (show ¬ (some q394).isNone = true by simp)] at H; exact H
      clear H
      have H := H1
      clear H1
      try simp only [errW_none, errW_some]
      have H' := Aside0.mk H
      clear H
      go_wp2
      go_meet
      case rel => exact ⟨_, (true), (by first | rfl | (simp; done) | (simp [*]; done)), H', ⟨by first | omega | exact Nat.le_refl _⟩, ⟨by (with_reducible repeat (first | refine blk_drewN ?_ _ | refine blk_drew ?_ | refine blk_alloc ?_ _)); exact BK382.out⟩, ⟨by (with_reducible repeat (first | refine blk_drewN ?_ _ | refine blk_drew ?_ | refine blk_alloc ?_ _)); exact BK383.out⟩, ⟨by (with_reducible repeat (first | refine blk_drewN ?_ _ | refine blk_drew ?_ | refine blk_alloc ?_ _)); exact BK384.out⟩, ⟨by repeat (first | (with_reducible first | exact HB.out | apply below_alloc | apply pw_below_drewN | apply below_drew1 | refine below_set ?_ GE382.out | refine below_set ?_ GE383.out | refine below_set ?_ GE384.out) | exact HB.out)⟩⟩
  case rest =>
    clear HC10
    try clear c1
    try clear p2
    try clear q3
    try clear c6
    try clear c7
    try clear c8
    try clear c15
    try clear c16
    try clear c18
    try clear hcz17_0
    try clear hcz17_1
    try clear hcz17_2
    try clear hcz19_0
    try clear hcz19_1
    try clear hcz19_2
    try clear hcz21_0
    try clear hcz21_1
    try clear hcz21_2
    try clear hcz22_0
    try clear hcz22_1
    try clear hcz22_2
    try clear hcz24_0
    try clear hcz24_1
    try clear hcz24_2
    try clear hcz25_0
    try clear hcz25_1
    try clear hcz25_2
    try clear hcz27_0
    try clear hcz27_1
    try clear hcz27_2
    try clear hcz28_0
    try clear hcz28_1
    try clear hcz28_2
    try clear hfz17_0
    try clear hfz17_1
    try clear hfz17_2
    try clear hfz19_0
    try clear hfz19_1
    try clear hfz19_2
    try clear hfz21_0
    try clear hfz21_1
    try clear hfz21_2
    try clear hfz22_0
    try clear hfz22_1
    try clear hfz22_2
    try clear hfz24_0
    try clear hfz24_1
    try clear hfz24_2
    try clear hfz25_0
    try clear hfz25_1
    try clear hfz25_2
    try clear hfz27_0
    try clear hfz27_1
    try clear hfz27_2
    try clear hfz28_0
    try clear hfz28_1
    try clear hfz28_2
    try clear q394
    try clear q395
    try clear q396
    try clear q397
    obtain ⟨kq, x64_9, rfl, HA, HJ9, BK382, BK383, BK384, HB⟩ := hcut
    cases kq with
    | zero => exact absurd HA.out (by simp [trivetlaw05_CountTurns.j0])
    | succ kj9 =>
      have H := HA.out
      clear HA
      simp only [trivetlaw05_CountTurns.j0] at H
      by_cases c30 : x64_9 = true
      · subst c30
        have H1 : (if t385 = true then (if t387.isNone = true then (if t389.isNone = true then (some false) else (some true)) else (some true)) else (some false)) = some r := by rw [if_pos rfl] at H; exact H
        clear H
        have H := H1
        clear H1
        by_cases c31 : t385 = true
        · subst c31
          have H1 : (if t387.isNone = true then (if t389.isNone = true then (some false) else (some true)) else (some true)) = some r := by rw [if_pos rfl] at H; exact H
          clear H
          have H := H1
          clear H1
          rcases t387 with _ | q398
          · have H1 : (if t389.isNone = true then (some false) else (some true)) = some r := by rw [if_pos (show (none : Option Int).isNone = true by rfl)] at H; exact H
            clear H
            have H := H1
            clear H1
            try simp only [errW_none, errW_some]
            rcases t389 with _ | q399
            · have H1 : (some false) = some r := by rw [if_pos (show (none : Option Int).isNone = true by rfl)] at H; exact H
              clear H
              have H := H1
              clear H1
              try simp only [errW_none, errW_some]
              obtain rfl := Option.some.inj H
              go_wp2
              go_ret
              exact ⟨by first | rfl | (simp [errW_none, errW_some] <;> rfl) | (simp [*, errW_none, errW_some] <;> rfl), by repeat (first | (with_reducible first | exact HB.out | apply below_alloc | apply pw_below_drewN | apply below_drew1 | refine below_set ?_ GE382.out | refine below_set ?_ GE383.out | refine below_set ?_ GE384.out) | exact HB.out)⟩
            · have H1 : (some true) = some r := by rw [if_neg (show ¬ (some q399).isNone = true by simp)] at H; exact H
              clear H
              have H := H1
              clear H1
              try simp only [errW_none, errW_some]
              obtain rfl := Option.some.inj H
              go_wp2
              go_ret
              exact ⟨by first | rfl | (simp [errW_none, errW_some] <;> rfl) | (simp [*, errW_none, errW_some] <;> rfl), by repeat (first | (with_reducible first | exact HB.out | apply below_alloc | apply pw_below_drewN | apply below_drew1 | refine below_set ?_ GE382.out | refine below_set ?_ GE383.out | refine below_set ?_ GE384.out) | exact HB.out)⟩
          · have H1 : (some true) = some r := by rw [if_neg (show ¬ (some q398).isNone = true by simp)] at H; exact H
            clear H
            have H := H1
            clear H1
            try simp only [errW_none, errW_some]
            obtain rfl := Option.some.inj H
            go_wp2
            go_ret
            exact ⟨by first | rfl | (simp [errW_none, errW_some] <;> rfl) | (simp [*, errW_none, errW_some] <;> rfl), by repeat (first | (with_reducible first | exact HB.out | apply below_alloc | apply pw_below_drewN | apply below_drew1 | refine below_set ?_ GE382.out | refine below_set ?_ GE383.out | refine below_set ?_ GE384.out) | exact HB.out)⟩
        · replace c31 := Bool.eq_false_iff.mpr c31
          subst c31
          have H1 : (some false) = some r := by rw [if_neg (show ¬ (false = true) by decide)] at H; exact H
          clear H
          have H := H1
          clear H1
          obtain rfl := Option.some.inj H
          go_wp2
          go_ret
          exact ⟨by first | rfl | (simp [errW_none, errW_some] <;> rfl) | (simp [*, errW_none, errW_some] <;> rfl), by repeat (first | (with_reducible first | exact HB.out | apply below_alloc | apply pw_below_drewN | apply below_drew1 | refine below_set ?_ GE382.out | refine below_set ?_ GE383.out | refine below_set ?_ GE384.out) | exact HB.out)⟩
      · replace c30 := Bool.eq_false_iff.mpr c30
        subst c30
        have H1 : (if (wrap64 (t386 + t388)) = t390 then (trivetlaw05_CountTurns.j1 kj9 t385 ((wrap64 (t386 + t392)) != 0) a0_0 a0_1 a0_2) else (trivetlaw05_CountTurns.j1 kj9 t385 true a0_0 a0_1 a0_2)) = some r := by rw [if_neg (show ¬ (false = true) by decide)] at H; exact H
        clear H
        have H := H1
        clear H1
        have HC32 := Aside0.mk H
        clear H
        go_upto_region 8 with (fail)
        go_cut [84] (fun v84 wc => ∃ (kq : Nat) (x84_31 : Bool), v84 = .bool x84_31 ∧ Aside0 (trivetlaw05_CountTurns.j1 kq t385 x84_31 a0_0 a0_1 a0_2 = some r) ∧ Aside0 (kq ≤ kj9) ∧ Aside0 (wc.heap[gb382]? = some (.cells #[.int .i64 a0_0, .int .i64 a0_1, .int .i64 a0_2] 23 (0, 0))) ∧ Aside0 (wc.heap[gb383]? = some (.cells #[.int .i64 a1_0, .int .i64 a1_1, .int .i64 a1_2] 23 (0, 0))) ∧ Aside0 (wc.heap[gb384]? = some (.cells #[.int .i64 a2_0, .int .i64 a2_1, .int .i64 a2_2] 23 (0, 0))) ∧ Aside0 (Below w.heap.size w wc))
        case first =>
          have H := HC32.out
          clear HC32
          by_cases c33 : (wrap64 (t386 + t388)) = t390
          · rw [if_pos c33] at H
            have c33b0 : ((wrap64 (t386 + t388)) == t390) = true := beq_iff_eq.mpr c33
            have c33b1 : ((wrap64 (t386 + t388)) != t390) = false := bne_eq_false_iff_eq.mpr c33
            clear c33
            (first | rw [c33b0] | (simp only [i64_w, i32_w]; rw [c33b0]) | skip)
            have H' := Aside0.mk H
            clear H
            go_wp2
            go_meet
            case rel => exact ⟨_, (((wrap64 (t386 + t392)) != 0)), (by first | rfl | (simp; done) | (simp [*]; done)), H', ⟨by have := HJ9.out; first | omega | exact Nat.le_refl _⟩, ⟨by (with_reducible repeat (first | refine blk_drewN ?_ _ | refine blk_drew ?_ | refine blk_alloc ?_ _)); exact BK382.out⟩, ⟨by (with_reducible repeat (first | refine blk_drewN ?_ _ | refine blk_drew ?_ | refine blk_alloc ?_ _)); exact BK383.out⟩, ⟨by (with_reducible repeat (first | refine blk_drewN ?_ _ | refine blk_drew ?_ | refine blk_alloc ?_ _)); exact BK384.out⟩, ⟨by repeat (first | (with_reducible first | exact HB.out | apply below_alloc | apply pw_below_drewN | apply below_drew1 | refine below_set ?_ GE382.out | refine below_set ?_ GE383.out | refine below_set ?_ GE384.out) | exact HB.out)⟩⟩
          · rw [if_neg c33] at H
            have c33b0 : ((wrap64 (t386 + t388)) == t390) = false := beq_eq_false_iff_ne.mpr c33
            have c33b1 : ((wrap64 (t386 + t388)) != t390) = true := bne_iff_ne.mpr c33
            (first | rw [c33b0] | (simp only [i64_w, i32_w]; rw [c33b0]) | skip)
            have H' := Aside0.mk H
            clear H
            go_wp2
            go_meet
            case rel => exact ⟨_, (true), (by first | rfl | (simp; done) | (simp [*]; done)), H', ⟨by have := HJ9.out; first | omega | exact Nat.le_refl _⟩, ⟨by (with_reducible repeat (first | refine blk_drewN ?_ _ | refine blk_drew ?_ | refine blk_alloc ?_ _)); exact BK382.out⟩, ⟨by (with_reducible repeat (first | refine blk_drewN ?_ _ | refine blk_drew ?_ | refine blk_alloc ?_ _)); exact BK383.out⟩, ⟨by (with_reducible repeat (first | refine blk_drewN ?_ _ | refine blk_drew ?_ | refine blk_alloc ?_ _)); exact BK384.out⟩, ⟨by repeat (first | (with_reducible first | exact HB.out | apply below_alloc | apply pw_below_drewN | apply below_drew1 | refine below_set ?_ GE382.out | refine below_set ?_ GE383.out | refine below_set ?_ GE384.out) | exact HB.out)⟩⟩
        case rest =>
          clear HC32
          try clear c1
          try clear p2
          try clear c3
          try clear q3
          try clear c6
          try clear p6
          try clear c7
          try clear c8
          try clear c15
          try clear c16
          try clear c18
          try clear c30
          try clear c31
          try clear c33
          try clear c33b0
          try clear c33b1
          try clear hcz17_0
          try clear hcz17_1
          try clear hcz17_2
          try clear hcz19_0
          try clear hcz19_1
          try clear hcz19_2
          try clear hcz21_0
          try clear hcz21_1
          try clear hcz21_2
          try clear hcz22_0
          try clear hcz22_1
          try clear hcz22_2
          try clear hcz24_0
          try clear hcz24_1
          try clear hcz24_2
          try clear hcz25_0
          try clear hcz25_1
          try clear hcz25_2
          try clear hcz27_0
          try clear hcz27_1
          try clear hcz27_2
          try clear hcz28_0
          try clear hcz28_1
          try clear hcz28_2
          try clear hfz17_0
          try clear hfz17_1
          try clear hfz17_2
          try clear hfz19_0
          try clear hfz19_1
          try clear hfz19_2
          try clear hfz21_0
          try clear hfz21_1
          try clear hfz21_2
          try clear hfz22_0
          try clear hfz22_1
          try clear hfz22_2
          try clear hfz24_0
          try clear hfz24_1
          try clear hfz24_2
          try clear hfz25_0
          try clear hfz25_1
          try clear hfz25_2
          try clear hfz27_0
          try clear hfz27_1
          try clear hfz27_2
          try clear hfz28_0
          try clear hfz28_1
          try clear hfz28_2
          try clear p2
          try clear q3
          try clear q394
          try clear q395
          try clear q396
          try clear q397
          try clear q398
          try clear q399
          obtain ⟨kq, x84_31, rfl, HA, HJ31, BK382, BK383, BK384, HB⟩ := hcut
          cases kq with
          | zero => exact absurd HA.out (by simp [trivetlaw05_CountTurns.j1])
          | succ kj31 =>
            have H := HA.out
            clear HA
            simp only [trivetlaw05_CountTurns.j1] at H
            by_cases c34 : x84_31 = true
            · subst c34
              have H1 : (some false) = some r := by rw [if_pos rfl] at H; exact H
              clear H
              have H := H1
              clear H1
              obtain rfl := Option.some.inj H
              go_wp2
              go_ret
              exact ⟨by first | rfl | (simp [errW_none, errW_some] <;> rfl) | (simp [*, errW_none, errW_some] <;> rfl), by repeat (first | (with_reducible first | exact HB.out | apply below_alloc | apply pw_below_drewN | apply below_drew1 | refine below_set ?_ GE382.out | refine below_set ?_ GE383.out | refine below_set ?_ GE384.out) | exact HB.out)⟩
            · replace c34 := Bool.eq_false_iff.mpr c34
              subst c34
              have H1 : ((date_Months_s.f a0_0 a0_1 a0_2 1).bind fun bt400 => (if bt400.2.2.2.isNone = true then (if a0_2 > 28 then (some t385) else ((count_Between_s.f a0_0 a0_1 a0_2 bt400.1 bt400.2.1 bt400.2.2.1 true).bind fun bt406 => (if t385 = true then (if bt406.2.isNone = true then (some (bt406.1 == 30)) else (some false)) else (some false)))) else (some t385))) = some r := by rw [if_neg (show ¬ (false = true) by decide)] at H; exact H
              clear H
              have H := H1
              clear H1
              replace H := Option.bind_eq_some_iff.mp H
              obtain ⟨⟨t400, t401, t402, t403⟩, A350, H⟩ := H
              replace H : (if t403.isNone = true then (if a0_2 > 28 then (some t385) else ((count_Between_s.f a0_0 a0_1 a0_2 t400 t401 t402 true).bind fun bt406 => (if t385 = true then (if bt406.2.isNone = true then (some (bt406.1 == 30)) else (some false)) else (some false)))) else (some t385)) = some r := H
              have A35 := Aside0.mk A350
              clear A350
              rcases t403 with _ | q405
              · have H1 : (if a0_2 > 28 then (some t385) else ((count_Between_s.f a0_0 a0_1 a0_2 t400 t401 t402 true).bind fun bt406 => (if t385 = true then (if bt406.2.isNone = true then (some (bt406.1 == 30)) else (some false)) else (some false)))) = some r := by rw [if_pos (show (none : Option Int).isNone = true by rfl)] at H; exact H
                clear H
                have H := H1
                clear H1
                try simp only [errW_none, errW_some]
                by_cases c36 : a0_2 > 28
                · rw [if_pos c36] at H
                  have c36b0 : decide (28 < a0_2) = true := decide_eq_true c36
                  clear c36
                  obtain rfl := Option.some.inj H
                  have hnb37 := NB382_383.out
                  have hnc37 := NB383_382.out
                  have hnb38 := NB382_384.out
                  have hnc38 := NB384_382.out
                  have hcz39_0 : wc.cell? ⟨gb382, 0, none⟩ = some (.int .i64 a0_0) := (blk_cell BK382.out 0).trans rfl
                  have hcz39_1 : wc.cell? ⟨gb382, 1, none⟩ = some (.int .i64 a0_1) := (blk_cell BK382.out 1).trans rfl
                  have hcz39_2 : wc.cell? ⟨gb382, 2, none⟩ = some (.int .i64 a0_2) := (blk_cell BK382.out 2).trans rfl
                  have hfz39_0 := blk_frozen BK382.out 0
                  have hfz39_1 := blk_frozen BK382.out 1
                  have hfz39_2 := blk_frozen BK382.out 2
                  go_wp2_with (first | ((with_reducible refine gate_callee (f := 18) rfl ?_); refine goesL_ (some 87) rfl rfl Try.func18 (by kernel_rfl) rfl #[.agg #[.int .i64 a0_0, .int .i64 a0_1, .int .i64 a0_2], .int .i64 1] rfl (by (try simp only [List.map_toArray, List.map_cons, List.map_nil]); first | done | rfl | (simp only [List.length_drop, List.length_take]; rfl)) ?_; (with_reducible refine (date_Months_s.calls a0_0 a0_1 a0_2 1 t400 t401 t402 none _ A35.out).mono ?_); rintro e w40 ⟨rfl, hb⟩; refine ⟨_, rfl, ?_⟩; have n0_ := Aside0.mk (blk_below (g := gb382) (o := .cells #[.int .i64 a0_0, .int .i64 a0_1, .int .i64 a0_2] 23 (0, 0)) (by (with_reducible repeat (first | refine blk_drewN ?_ _ | refine blk_drew ?_ | refine blk_alloc ?_ _)); exact BK382.out) hb); have n1_ := Aside0.mk (blk_below (g := gb383) (o := .cells #[.int .i64 a1_0, .int .i64 a1_1, .int .i64 a1_2] 23 (0, 0)) (by (with_reducible repeat (first | refine blk_drewN ?_ _ | refine blk_drew ?_ | refine blk_alloc ?_ _)); exact BK383.out) hb); have n2_ := Aside0.mk (blk_below (g := gb384) (o := .cells #[.int .i64 a2_0, .int .i64 a2_1, .int .i64 a2_2] 23 (0, 0)) (by (with_reducible repeat (first | refine blk_drewN ?_ _ | refine blk_drew ?_ | refine blk_alloc ?_ _)); exact BK384.out) hb); have n3_ := Aside0.mk (below_step (by repeat (first | (with_reducible first | exact HB.out | apply below_alloc | apply pw_below_drewN | apply below_drew1 | refine below_set ?_ GE382.out | refine below_set ?_ GE383.out | refine below_set ?_ GE384.out) | exact HB.out)) hb); clear BK382; clear BK383; clear BK384; clear HB; have BK382 := n0_; have BK383 := n1_; have BK384 := n2_; have HB := n3_; clear n0_ n1_ n2_ n3_; (try clear hb); (try clear hb2); (try clear hk); (try clear hi); (try simp only [errW_none, errW_some])) | ((with_reducible refine gate_dst (N := 18) rfl ?_); refine box_event ?hg (N := 18) ?hd (cs := #[.int .i64 0, .int .i64 0, .int .i64 0]) (t := 23) ?hr ?_; (case hd => rfl); (case hg => rfl); (case hr => first | (go_simp; done) | (go_simp; rfl)); intro gb404 hg w41 hbox hb; have n0_ := Aside0.mk (blk_below (g := gb382) (o := .cells #[.int .i64 a0_0, .int .i64 a0_1, .int .i64 a0_2] 23 (0, 0)) (by (with_reducible repeat (first | refine blk_drewN ?_ _ | refine blk_drew ?_ | refine blk_alloc ?_ _)); exact BK382.out) hb); have n1_ := Aside0.mk (blk_below (g := gb383) (o := .cells #[.int .i64 a1_0, .int .i64 a1_1, .int .i64 a1_2] 23 (0, 0)) (by (with_reducible repeat (first | refine blk_drewN ?_ _ | refine blk_drew ?_ | refine blk_alloc ?_ _)); exact BK383.out) hb); have n2_ := Aside0.mk (blk_below (g := gb384) (o := .cells #[.int .i64 a2_0, .int .i64 a2_1, .int .i64 a2_2] 23 (0, 0)) (by (with_reducible repeat (first | refine blk_drewN ?_ _ | refine blk_drew ?_ | refine blk_alloc ?_ _)); exact BK384.out) hb); have n3_ := Aside0.mk (below_step (by repeat (first | (with_reducible first | exact HB.out | apply below_alloc | apply pw_below_drewN | apply below_drew1 | refine below_set ?_ GE382.out | refine below_set ?_ GE383.out | refine below_set ?_ GE384.out) | exact HB.out)) hb); have n4_ := Aside0.mk (hbox); have n5_ := Aside0.mk ((by rw [hg]; exact (below_size (by repeat (first | (with_reducible first | exact HB.out | apply below_alloc | apply pw_below_drewN | apply below_drew1 | refine below_set ?_ GE382.out | refine below_set ?_ GE383.out | refine below_set ?_ GE384.out) | exact HB.out))) : w.heap.size ≤ gb404)); have n6_ := Aside0.mk ((by rw [hg]; exact (below_size (by repeat (first | (with_reducible first | exact HB.out | apply below_alloc | apply pw_below_drewN | apply below_drew1 | refine below_set ?_ GE382.out | refine below_set ?_ GE383.out | refine below_set ?_ GE384.out) | exact HB.out))) : w.heap.size ≤ gb404)); have n7_ := Aside0.mk ((by rw [hg]; exact Nat.ne_of_lt (blk_lt (g := gb382) (o := .cells #[.int .i64 a0_0, .int .i64 a0_1, .int .i64 a0_2] 23 (0, 0)) (by (with_reducible repeat (first | refine blk_drewN ?_ _ | refine blk_drew ?_ | refine blk_alloc ?_ _)); exact BK382.out)) : gb382 ≠ gb404)); have n8_ := Aside0.mk ((by rw [hg]; exact Nat.ne_of_gt (blk_lt (g := gb382) (o := .cells #[.int .i64 a0_0, .int .i64 a0_1, .int .i64 a0_2] 23 (0, 0)) (by (with_reducible repeat (first | refine blk_drewN ?_ _ | refine blk_drew ?_ | refine blk_alloc ?_ _)); exact BK382.out)) : gb404 ≠ gb382)); have n9_ := Aside0.mk ((by rw [hg]; exact Nat.ne_of_lt (blk_lt (g := gb383) (o := .cells #[.int .i64 a1_0, .int .i64 a1_1, .int .i64 a1_2] 23 (0, 0)) (by (with_reducible repeat (first | refine blk_drewN ?_ _ | refine blk_drew ?_ | refine blk_alloc ?_ _)); exact BK383.out)) : gb383 ≠ gb404)); have n10_ := Aside0.mk ((by rw [hg]; exact Nat.ne_of_gt (blk_lt (g := gb383) (o := .cells #[.int .i64 a1_0, .int .i64 a1_1, .int .i64 a1_2] 23 (0, 0)) (by (with_reducible repeat (first | refine blk_drewN ?_ _ | refine blk_drew ?_ | refine blk_alloc ?_ _)); exact BK383.out)) : gb404 ≠ gb383)); have n11_ := Aside0.mk ((by rw [hg]; exact Nat.ne_of_lt (blk_lt (g := gb384) (o := .cells #[.int .i64 a2_0, .int .i64 a2_1, .int .i64 a2_2] 23 (0, 0)) (by (with_reducible repeat (first | refine blk_drewN ?_ _ | refine blk_drew ?_ | refine blk_alloc ?_ _)); exact BK384.out)) : gb384 ≠ gb404)); have n12_ := Aside0.mk ((by rw [hg]; exact Nat.ne_of_gt (blk_lt (g := gb384) (o := .cells #[.int .i64 a2_0, .int .i64 a2_1, .int .i64 a2_2] 23 (0, 0)) (by (with_reducible repeat (first | refine blk_drewN ?_ _ | refine blk_drew ?_ | refine blk_alloc ?_ _)); exact BK384.out)) : gb404 ≠ gb384)); clear BK382; clear BK383; clear BK384; clear HB; have BK382 := n0_; have BK383 := n1_; have BK384 := n2_; have HB := n3_; have BK404 := n4_; have GW404 := n5_; have GE404 := n6_; have NB382_404 := n7_; have NB404_382 := n8_; have NB383_404 := n9_; have NB404_383 := n10_; have NB384_404 := n11_; have NB404_384 := n12_; clear n0_ n1_ n2_ n3_ n4_ n5_ n6_ n7_ n8_ n9_ n10_ n11_ n12_; clear hb hbox hg; have hnb42 := NB404_382.out; have hnc42 := NB382_404.out; have hnb43 := NB404_383.out; have hnc43 := NB383_404.out; have hnb44 := NB404_384.out; have hnc44 := NB384_404.out; have hcz45_0 : w41.cell? ⟨gb404, 0, none⟩ = some (.int .i64 0) := (blk_cell BK404.out 0).trans rfl; have hcz45_1 : w41.cell? ⟨gb404, 1, none⟩ = some (.int .i64 0) := (blk_cell BK404.out 1).trans rfl; have hcz45_2 : w41.cell? ⟨gb404, 2, none⟩ = some (.int .i64 0) := (blk_cell BK404.out 2).trans rfl; have hfz45_0 := blk_frozen BK404.out 0; have hfz45_1 := blk_frozen BK404.out 1; have hfz45_2 := blk_frozen BK404.out 2; have hcz46_0 : w41.cell? ⟨gb382, 0, none⟩ = some (.int .i64 a0_0) := (blk_cell BK382.out 0).trans rfl; have hcz46_1 : w41.cell? ⟨gb382, 1, none⟩ = some (.int .i64 a0_1) := (blk_cell BK382.out 1).trans rfl; have hcz46_2 : w41.cell? ⟨gb382, 2, none⟩ = some (.int .i64 a0_2) := (blk_cell BK382.out 2).trans rfl; have hfz46_0 := blk_frozen BK382.out 0; have hfz46_1 := blk_frozen BK382.out 1; have hfz46_2 := blk_frozen BK382.out 2))
                  go_ret
                  exact ⟨by first | rfl | (simp [errW_none, errW_some] <;> rfl) | (simp [*, errW_none, errW_some] <;> rfl), by repeat (first | (with_reducible first | exact HB.out | apply below_alloc | apply pw_below_drewN | apply below_drew1 | refine below_set ?_ GE382.out | refine below_set ?_ GE383.out | refine below_set ?_ GE384.out | refine below_set ?_ GE404.out) | exact HB.out)⟩
                · rw [if_neg c36] at H
                  have c36b0 : decide (28 < a0_2) = false := decide_eq_false c36
                  clear c36
                  replace H := Option.bind_eq_some_iff.mp H
                  obtain ⟨⟨t406, t407⟩, A470, H⟩ := H
                  replace H : (if t385 = true then (if t407.isNone = true then (some (t406 == 30)) else (some false)) else (some false)) = some r := H
                  have A47 := Aside0.mk A470
                  clear A470
                  by_cases c48 : t385 = true
                  · subst c48
                    have H1 : (if t407.isNone = true then (some (t406 == 30)) else (some false)) = some r := by rw [if_pos rfl] at H; exact H
                    clear H
                    have H := H1
                    clear H1
                    rcases t407 with _ | q408
                    · have H1 : (some (t406 == 30)) = some r := by rw [if_pos (show (none : Option Int).isNone = true by rfl)] at H; exact H
                      clear H
                      have H := H1
                      clear H1
                      try simp only [errW_none, errW_some]
                      obtain rfl := Option.some.inj H
                      have hnb49 := NB382_383.out
                      have hnc49 := NB383_382.out
                      have hnb50 := NB382_384.out
                      have hnc50 := NB384_382.out
                      have hcz51_0 : wc.cell? ⟨gb382, 0, none⟩ = some (.int .i64 a0_0) := (blk_cell BK382.out 0).trans rfl
                      have hcz51_1 : wc.cell? ⟨gb382, 1, none⟩ = some (.int .i64 a0_1) := (blk_cell BK382.out 1).trans rfl
                      have hcz51_2 : wc.cell? ⟨gb382, 2, none⟩ = some (.int .i64 a0_2) := (blk_cell BK382.out 2).trans rfl
                      have hfz51_0 := blk_frozen BK382.out 0
                      have hfz51_1 := blk_frozen BK382.out 1
                      have hfz51_2 := blk_frozen BK382.out 2
                      go_wp2_with (first | ((with_reducible refine gate_callee (f := 18) rfl ?_); refine goesL_ (some 87) rfl rfl Try.func18 (by kernel_rfl) rfl #[.agg #[.int .i64 a0_0, .int .i64 a0_1, .int .i64 a0_2], .int .i64 1] rfl (by (try simp only [List.map_toArray, List.map_cons, List.map_nil]); first | done | rfl | (simp only [List.length_drop, List.length_take]; rfl)) ?_; (with_reducible refine (date_Months_s.calls a0_0 a0_1 a0_2 1 t400 t401 t402 none _ A35.out).mono ?_); rintro e w52 ⟨rfl, hb⟩; refine ⟨_, rfl, ?_⟩; have n0_ := Aside0.mk (blk_below (g := gb382) (o := .cells #[.int .i64 a0_0, .int .i64 a0_1, .int .i64 a0_2] 23 (0, 0)) (by (with_reducible repeat (first | refine blk_drewN ?_ _ | refine blk_drew ?_ | refine blk_alloc ?_ _)); exact BK382.out) hb); have n1_ := Aside0.mk (blk_below (g := gb383) (o := .cells #[.int .i64 a1_0, .int .i64 a1_1, .int .i64 a1_2] 23 (0, 0)) (by (with_reducible repeat (first | refine blk_drewN ?_ _ | refine blk_drew ?_ | refine blk_alloc ?_ _)); exact BK383.out) hb); have n2_ := Aside0.mk (blk_below (g := gb384) (o := .cells #[.int .i64 a2_0, .int .i64 a2_1, .int .i64 a2_2] 23 (0, 0)) (by (with_reducible repeat (first | refine blk_drewN ?_ _ | refine blk_drew ?_ | refine blk_alloc ?_ _)); exact BK384.out) hb); have n3_ := Aside0.mk (below_step (by repeat (first | (with_reducible first | exact HB.out | apply below_alloc | apply pw_below_drewN | apply below_drew1 | refine below_set ?_ GE382.out | refine below_set ?_ GE383.out | refine below_set ?_ GE384.out) | exact HB.out)) hb); clear BK382; clear BK383; clear BK384; clear HB; have BK382 := n0_; have BK383 := n1_; have BK384 := n2_; have HB := n3_; clear n0_ n1_ n2_ n3_; (try clear hb); (try clear hb2); (try clear hk); (try clear hi); (try simp only [errW_none, errW_some])) | ((with_reducible refine gate_dst (N := 18) rfl ?_); refine box_event ?hg (N := 18) ?hd (cs := #[.int .i64 0, .int .i64 0, .int .i64 0]) (t := 23) ?hr ?_; (case hd => rfl); (case hg => rfl); (case hr => first | (go_simp; done) | (go_simp; rfl)); intro gb404 hg w53 hbox hb; have n0_ := Aside0.mk (blk_below (g := gb382) (o := .cells #[.int .i64 a0_0, .int .i64 a0_1, .int .i64 a0_2] 23 (0, 0)) (by (with_reducible repeat (first | refine blk_drewN ?_ _ | refine blk_drew ?_ | refine blk_alloc ?_ _)); exact BK382.out) hb); have n1_ := Aside0.mk (blk_below (g := gb383) (o := .cells #[.int .i64 a1_0, .int .i64 a1_1, .int .i64 a1_2] 23 (0, 0)) (by (with_reducible repeat (first | refine blk_drewN ?_ _ | refine blk_drew ?_ | refine blk_alloc ?_ _)); exact BK383.out) hb); have n2_ := Aside0.mk (blk_below (g := gb384) (o := .cells #[.int .i64 a2_0, .int .i64 a2_1, .int .i64 a2_2] 23 (0, 0)) (by (with_reducible repeat (first | refine blk_drewN ?_ _ | refine blk_drew ?_ | refine blk_alloc ?_ _)); exact BK384.out) hb); have n3_ := Aside0.mk (below_step (by repeat (first | (with_reducible first | exact HB.out | apply below_alloc | apply pw_below_drewN | apply below_drew1 | refine below_set ?_ GE382.out | refine below_set ?_ GE383.out | refine below_set ?_ GE384.out) | exact HB.out)) hb); have n4_ := Aside0.mk (hbox); have n5_ := Aside0.mk ((by rw [hg]; exact (below_size (by repeat (first | (with_reducible first | exact HB.out | apply below_alloc | apply pw_below_drewN | apply below_drew1 | refine below_set ?_ GE382.out | refine below_set ?_ GE383.out | refine below_set ?_ GE384.out) | exact HB.out))) : w.heap.size ≤ gb404)); have n6_ := Aside0.mk ((by rw [hg]; exact (below_size (by repeat (first | (with_reducible first | exact HB.out | apply below_alloc | apply pw_below_drewN | apply below_drew1 | refine below_set ?_ GE382.out | refine below_set ?_ GE383.out | refine below_set ?_ GE384.out) | exact HB.out))) : w.heap.size ≤ gb404)); have n7_ := Aside0.mk ((by rw [hg]; exact Nat.ne_of_lt (blk_lt (g := gb382) (o := .cells #[.int .i64 a0_0, .int .i64 a0_1, .int .i64 a0_2] 23 (0, 0)) (by (with_reducible repeat (first | refine blk_drewN ?_ _ | refine blk_drew ?_ | refine blk_alloc ?_ _)); exact BK382.out)) : gb382 ≠ gb404)); have n8_ := Aside0.mk ((by rw [hg]; exact Nat.ne_of_gt (blk_lt (g := gb382) (o := .cells #[.int .i64 a0_0, .int .i64 a0_1, .int .i64 a0_2] 23 (0, 0)) (by (with_reducible repeat (first | refine blk_drewN ?_ _ | refine blk_drew ?_ | refine blk_alloc ?_ _)); exact BK382.out)) : gb404 ≠ gb382)); have n9_ := Aside0.mk ((by rw [hg]; exact Nat.ne_of_lt (blk_lt (g := gb383) (o := .cells #[.int .i64 a1_0, .int .i64 a1_1, .int .i64 a1_2] 23 (0, 0)) (by (with_reducible repeat (first | refine blk_drewN ?_ _ | refine blk_drew ?_ | refine blk_alloc ?_ _)); exact BK383.out)) : gb383 ≠ gb404)); have n10_ := Aside0.mk ((by rw [hg]; exact Nat.ne_of_gt (blk_lt (g := gb383) (o := .cells #[.int .i64 a1_0, .int .i64 a1_1, .int .i64 a1_2] 23 (0, 0)) (by (with_reducible repeat (first | refine blk_drewN ?_ _ | refine blk_drew ?_ | refine blk_alloc ?_ _)); exact BK383.out)) : gb404 ≠ gb383)); have n11_ := Aside0.mk ((by rw [hg]; exact Nat.ne_of_lt (blk_lt (g := gb384) (o := .cells #[.int .i64 a2_0, .int .i64 a2_1, .int .i64 a2_2] 23 (0, 0)) (by (with_reducible repeat (first | refine blk_drewN ?_ _ | refine blk_drew ?_ | refine blk_alloc ?_ _)); exact BK384.out)) : gb384 ≠ gb404)); have n12_ := Aside0.mk ((by rw [hg]; exact Nat.ne_of_gt (blk_lt (g := gb384) (o := .cells #[.int .i64 a2_0, .int .i64 a2_1, .int .i64 a2_2] 23 (0, 0)) (by (with_reducible repeat (first | refine blk_drewN ?_ _ | refine blk_drew ?_ | refine blk_alloc ?_ _)); exact BK384.out)) : gb404 ≠ gb384)); clear BK382; clear BK383; clear BK384; clear HB; have BK382 := n0_; have BK383 := n1_; have BK384 := n2_; have HB := n3_; have BK404 := n4_; have GW404 := n5_; have GE404 := n6_; have NB382_404 := n7_; have NB404_382 := n8_; have NB383_404 := n9_; have NB404_383 := n10_; have NB384_404 := n11_; have NB404_384 := n12_; clear n0_ n1_ n2_ n3_ n4_ n5_ n6_ n7_ n8_ n9_ n10_ n11_ n12_; clear hb hbox hg; have hnb54 := NB404_382.out; have hnc54 := NB382_404.out; have hnb55 := NB404_383.out; have hnc55 := NB383_404.out; have hnb56 := NB404_384.out; have hnc56 := NB384_404.out; have hcz57_0 : w53.cell? ⟨gb404, 0, none⟩ = some (.int .i64 0) := (blk_cell BK404.out 0).trans rfl; have hcz57_1 : w53.cell? ⟨gb404, 1, none⟩ = some (.int .i64 0) := (blk_cell BK404.out 1).trans rfl; have hcz57_2 : w53.cell? ⟨gb404, 2, none⟩ = some (.int .i64 0) := (blk_cell BK404.out 2).trans rfl; have hfz57_0 := blk_frozen BK404.out 0; have hfz57_1 := blk_frozen BK404.out 1; have hfz57_2 := blk_frozen BK404.out 2; have hcz58_0 : w53.cell? ⟨gb382, 0, none⟩ = some (.int .i64 a0_0) := (blk_cell BK382.out 0).trans rfl; have hcz58_1 : w53.cell? ⟨gb382, 1, none⟩ = some (.int .i64 a0_1) := (blk_cell BK382.out 1).trans rfl; have hcz58_2 : w53.cell? ⟨gb382, 2, none⟩ = some (.int .i64 a0_2) := (blk_cell BK382.out 2).trans rfl; have hfz58_0 := blk_frozen BK382.out 0; have hfz58_1 := blk_frozen BK382.out 1; have hfz58_2 := blk_frozen BK382.out 2) | ((with_reducible refine gate_callee (f := 8) rfl ?_); refine goesL_ (some 101) rfl rfl Try.func8 (by kernel_rfl) rfl #[.agg #[.int .i64 a0_0, .int .i64 a0_1, .int .i64 a0_2], .agg #[.int .i64 t400, .int .i64 t401, .int .i64 t402], .bool true] rfl (by (try simp only [List.map_toArray, List.map_cons, List.map_nil]); first | done | rfl | (simp only [List.length_drop, List.length_take]; rfl)) ?_; (with_reducible refine (count_Between_s.calls a0_0 a0_1 a0_2 t400 t401 t402 true t406 none _ A47.out).mono ?_); rintro e w59 ⟨rfl, hb⟩; refine ⟨_, rfl, ?_⟩; have n0_ := Aside0.mk (blk_below (g := gb382) (o := .cells #[.int .i64 a0_0, .int .i64 a0_1, .int .i64 a0_2] 23 (0, 0)) (by (with_reducible repeat (first | refine blk_drewN ?_ _ | refine blk_drew ?_ | refine blk_alloc ?_ _)); refine blk_far ?_ NB382_404.out _; (with_reducible repeat (first | refine blk_drewN ?_ _ | refine blk_drew ?_ | refine blk_alloc ?_ _)); refine blk_far ?_ NB382_404.out _; (with_reducible repeat (first | refine blk_drewN ?_ _ | refine blk_drew ?_ | refine blk_alloc ?_ _)); refine blk_far ?_ NB382_404.out _; (with_reducible repeat (first | refine blk_drewN ?_ _ | refine blk_drew ?_ | refine blk_alloc ?_ _)); exact BK382.out) hb); have n1_ := Aside0.mk (blk_below (g := gb383) (o := .cells #[.int .i64 a1_0, .int .i64 a1_1, .int .i64 a1_2] 23 (0, 0)) (by (with_reducible repeat (first | refine blk_drewN ?_ _ | refine blk_drew ?_ | refine blk_alloc ?_ _)); refine blk_far ?_ NB383_404.out _; (with_reducible repeat (first | refine blk_drewN ?_ _ | refine blk_drew ?_ | refine blk_alloc ?_ _)); refine blk_far ?_ NB383_404.out _; (with_reducible repeat (first | refine blk_drewN ?_ _ | refine blk_drew ?_ | refine blk_alloc ?_ _)); refine blk_far ?_ NB383_404.out _; (with_reducible repeat (first | refine blk_drewN ?_ _ | refine blk_drew ?_ | refine blk_alloc ?_ _)); exact BK383.out) hb); have n2_ := Aside0.mk (blk_below (g := gb384) (o := .cells #[.int .i64 a2_0, .int .i64 a2_1, .int .i64 a2_2] 23 (0, 0)) (by (with_reducible repeat (first | refine blk_drewN ?_ _ | refine blk_drew ?_ | refine blk_alloc ?_ _)); refine blk_far ?_ NB384_404.out _; (with_reducible repeat (first | refine blk_drewN ?_ _ | refine blk_drew ?_ | refine blk_alloc ?_ _)); refine blk_far ?_ NB384_404.out _; (with_reducible repeat (first | refine blk_drewN ?_ _ | refine blk_drew ?_ | refine blk_alloc ?_ _)); refine blk_far ?_ NB384_404.out _; (with_reducible repeat (first | refine blk_drewN ?_ _ | refine blk_drew ?_ | refine blk_alloc ?_ _)); exact BK384.out) hb); have n3_ := Aside0.mk (blk_below (g := gb404) (o := .cells #[.int .i64 t400, .int .i64 t401, .int .i64 t402] 23 (0, 0)) (by (with_reducible repeat (first | refine blk_drewN ?_ _ | refine blk_drew ?_ | refine blk_alloc ?_ _)); refine blk_put (cs := #[.int .i64 t400, .int .i64 t401, .int .i64 0]) ?_ 2 _ rfl; (with_reducible repeat (first | refine blk_drewN ?_ _ | refine blk_drew ?_ | refine blk_alloc ?_ _)); refine blk_put (cs := #[.int .i64 t400, .int .i64 0, .int .i64 0]) ?_ 1 _ rfl; (with_reducible repeat (first | refine blk_drewN ?_ _ | refine blk_drew ?_ | refine blk_alloc ?_ _)); refine blk_put (cs := #[.int .i64 0, .int .i64 0, .int .i64 0]) ?_ 0 _ rfl; (with_reducible repeat (first | refine blk_drewN ?_ _ | refine blk_drew ?_ | refine blk_alloc ?_ _)); exact BK404.out) hb); have n4_ := Aside0.mk (below_step (by repeat (first | (with_reducible first | exact HB.out | apply below_alloc | apply pw_below_drewN | apply below_drew1 | refine below_set ?_ GE382.out | refine below_set ?_ GE383.out | refine below_set ?_ GE384.out | refine below_set ?_ GE404.out) | exact HB.out)) hb); clear BK382; clear BK383; clear BK384; clear BK404; clear HB; have BK382 := n0_; have BK383 := n1_; have BK384 := n2_; have BK404 := n3_; have HB := n4_; clear n0_ n1_ n2_ n3_ n4_; (try clear hb); (try clear hb2); (try clear hk); (try clear hi); (try simp only [errW_none, errW_some])))
                      go_ret
                      exact ⟨by first | rfl | (simp [errW_none, errW_some] <;> rfl) | (simp [*, errW_none, errW_some] <;> rfl), by repeat (first | (with_reducible first | exact HB.out | apply below_alloc | apply pw_below_drewN | apply below_drew1 | refine below_set ?_ GE382.out | refine below_set ?_ GE383.out | refine below_set ?_ GE384.out | refine below_set ?_ GE404.out) | exact HB.out)⟩
                    · have H1 : (some false) = some r := by rw [if_neg (show ¬ (some q408).isNone = true by simp)] at H; exact H
                      clear H
                      have H := H1
                      clear H1
                      try simp only [errW_none, errW_some]
                      obtain rfl := Option.some.inj H
                      have hnb60 := NB382_383.out
                      have hnc60 := NB383_382.out
                      have hnb61 := NB382_384.out
                      have hnc61 := NB384_382.out
                      have hcz62_0 : wc.cell? ⟨gb382, 0, none⟩ = some (.int .i64 a0_0) := (blk_cell BK382.out 0).trans rfl
                      have hcz62_1 : wc.cell? ⟨gb382, 1, none⟩ = some (.int .i64 a0_1) := (blk_cell BK382.out 1).trans rfl
                      have hcz62_2 : wc.cell? ⟨gb382, 2, none⟩ = some (.int .i64 a0_2) := (blk_cell BK382.out 2).trans rfl
                      have hfz62_0 := blk_frozen BK382.out 0
                      have hfz62_1 := blk_frozen BK382.out 1
                      have hfz62_2 := blk_frozen BK382.out 2
                      go_wp2_with (first | ((with_reducible refine gate_callee (f := 18) rfl ?_); refine goesL_ (some 87) rfl rfl Try.func18 (by kernel_rfl) rfl #[.agg #[.int .i64 a0_0, .int .i64 a0_1, .int .i64 a0_2], .int .i64 1] rfl (by (try simp only [List.map_toArray, List.map_cons, List.map_nil]); first | done | rfl | (simp only [List.length_drop, List.length_take]; rfl)) ?_; (with_reducible refine (date_Months_s.calls a0_0 a0_1 a0_2 1 t400 t401 t402 none _ A35.out).mono ?_); rintro e w63 ⟨rfl, hb⟩; refine ⟨_, rfl, ?_⟩; have n0_ := Aside0.mk (blk_below (g := gb382) (o := .cells #[.int .i64 a0_0, .int .i64 a0_1, .int .i64 a0_2] 23 (0, 0)) (by (with_reducible repeat (first | refine blk_drewN ?_ _ | refine blk_drew ?_ | refine blk_alloc ?_ _)); exact BK382.out) hb); have n1_ := Aside0.mk (blk_below (g := gb383) (o := .cells #[.int .i64 a1_0, .int .i64 a1_1, .int .i64 a1_2] 23 (0, 0)) (by (with_reducible repeat (first | refine blk_drewN ?_ _ | refine blk_drew ?_ | refine blk_alloc ?_ _)); exact BK383.out) hb); have n2_ := Aside0.mk (blk_below (g := gb384) (o := .cells #[.int .i64 a2_0, .int .i64 a2_1, .int .i64 a2_2] 23 (0, 0)) (by (with_reducible repeat (first | refine blk_drewN ?_ _ | refine blk_drew ?_ | refine blk_alloc ?_ _)); exact BK384.out) hb); have n3_ := Aside0.mk (below_step (by repeat (first | (with_reducible first | exact HB.out | apply below_alloc | apply pw_below_drewN | apply below_drew1 | refine below_set ?_ GE382.out | refine below_set ?_ GE383.out | refine below_set ?_ GE384.out) | exact HB.out)) hb); clear BK382; clear BK383; clear BK384; clear HB; have BK382 := n0_; have BK383 := n1_; have BK384 := n2_; have HB := n3_; clear n0_ n1_ n2_ n3_; (try clear hb); (try clear hb2); (try clear hk); (try clear hi); (try simp only [errW_none, errW_some])) | ((with_reducible refine gate_dst (N := 18) rfl ?_); refine box_event ?hg (N := 18) ?hd (cs := #[.int .i64 0, .int .i64 0, .int .i64 0]) (t := 23) ?hr ?_; (case hd => rfl); (case hg => rfl); (case hr => first | (go_simp; done) | (go_simp; rfl)); intro gb404 hg w64 hbox hb; have n0_ := Aside0.mk (blk_below (g := gb382) (o := .cells #[.int .i64 a0_0, .int .i64 a0_1, .int .i64 a0_2] 23 (0, 0)) (by (with_reducible repeat (first | refine blk_drewN ?_ _ | refine blk_drew ?_ | refine blk_alloc ?_ _)); exact BK382.out) hb); have n1_ := Aside0.mk (blk_below (g := gb383) (o := .cells #[.int .i64 a1_0, .int .i64 a1_1, .int .i64 a1_2] 23 (0, 0)) (by (with_reducible repeat (first | refine blk_drewN ?_ _ | refine blk_drew ?_ | refine blk_alloc ?_ _)); exact BK383.out) hb); have n2_ := Aside0.mk (blk_below (g := gb384) (o := .cells #[.int .i64 a2_0, .int .i64 a2_1, .int .i64 a2_2] 23 (0, 0)) (by (with_reducible repeat (first | refine blk_drewN ?_ _ | refine blk_drew ?_ | refine blk_alloc ?_ _)); exact BK384.out) hb); have n3_ := Aside0.mk (below_step (by repeat (first | (with_reducible first | exact HB.out | apply below_alloc | apply pw_below_drewN | apply below_drew1 | refine below_set ?_ GE382.out | refine below_set ?_ GE383.out | refine below_set ?_ GE384.out) | exact HB.out)) hb); have n4_ := Aside0.mk (hbox); have n5_ := Aside0.mk ((by rw [hg]; exact (below_size (by repeat (first | (with_reducible first | exact HB.out | apply below_alloc | apply pw_below_drewN | apply below_drew1 | refine below_set ?_ GE382.out | refine below_set ?_ GE383.out | refine below_set ?_ GE384.out) | exact HB.out))) : w.heap.size ≤ gb404)); have n6_ := Aside0.mk ((by rw [hg]; exact (below_size (by repeat (first | (with_reducible first | exact HB.out | apply below_alloc | apply pw_below_drewN | apply below_drew1 | refine below_set ?_ GE382.out | refine below_set ?_ GE383.out | refine below_set ?_ GE384.out) | exact HB.out))) : w.heap.size ≤ gb404)); have n7_ := Aside0.mk ((by rw [hg]; exact Nat.ne_of_lt (blk_lt (g := gb382) (o := .cells #[.int .i64 a0_0, .int .i64 a0_1, .int .i64 a0_2] 23 (0, 0)) (by (with_reducible repeat (first | refine blk_drewN ?_ _ | refine blk_drew ?_ | refine blk_alloc ?_ _)); exact BK382.out)) : gb382 ≠ gb404)); have n8_ := Aside0.mk ((by rw [hg]; exact Nat.ne_of_gt (blk_lt (g := gb382) (o := .cells #[.int .i64 a0_0, .int .i64 a0_1, .int .i64 a0_2] 23 (0, 0)) (by (with_reducible repeat (first | refine blk_drewN ?_ _ | refine blk_drew ?_ | refine blk_alloc ?_ _)); exact BK382.out)) : gb404 ≠ gb382)); have n9_ := Aside0.mk ((by rw [hg]; exact Nat.ne_of_lt (blk_lt (g := gb383) (o := .cells #[.int .i64 a1_0, .int .i64 a1_1, .int .i64 a1_2] 23 (0, 0)) (by (with_reducible repeat (first | refine blk_drewN ?_ _ | refine blk_drew ?_ | refine blk_alloc ?_ _)); exact BK383.out)) : gb383 ≠ gb404)); have n10_ := Aside0.mk ((by rw [hg]; exact Nat.ne_of_gt (blk_lt (g := gb383) (o := .cells #[.int .i64 a1_0, .int .i64 a1_1, .int .i64 a1_2] 23 (0, 0)) (by (with_reducible repeat (first | refine blk_drewN ?_ _ | refine blk_drew ?_ | refine blk_alloc ?_ _)); exact BK383.out)) : gb404 ≠ gb383)); have n11_ := Aside0.mk ((by rw [hg]; exact Nat.ne_of_lt (blk_lt (g := gb384) (o := .cells #[.int .i64 a2_0, .int .i64 a2_1, .int .i64 a2_2] 23 (0, 0)) (by (with_reducible repeat (first | refine blk_drewN ?_ _ | refine blk_drew ?_ | refine blk_alloc ?_ _)); exact BK384.out)) : gb384 ≠ gb404)); have n12_ := Aside0.mk ((by rw [hg]; exact Nat.ne_of_gt (blk_lt (g := gb384) (o := .cells #[.int .i64 a2_0, .int .i64 a2_1, .int .i64 a2_2] 23 (0, 0)) (by (with_reducible repeat (first | refine blk_drewN ?_ _ | refine blk_drew ?_ | refine blk_alloc ?_ _)); exact BK384.out)) : gb404 ≠ gb384)); clear BK382; clear BK383; clear BK384; clear HB; have BK382 := n0_; have BK383 := n1_; have BK384 := n2_; have HB := n3_; have BK404 := n4_; have GW404 := n5_; have GE404 := n6_; have NB382_404 := n7_; have NB404_382 := n8_; have NB383_404 := n9_; have NB404_383 := n10_; have NB384_404 := n11_; have NB404_384 := n12_; clear n0_ n1_ n2_ n3_ n4_ n5_ n6_ n7_ n8_ n9_ n10_ n11_ n12_; clear hb hbox hg; have hnb65 := NB404_382.out; have hnc65 := NB382_404.out; have hnb66 := NB404_383.out; have hnc66 := NB383_404.out; have hnb67 := NB404_384.out; have hnc67 := NB384_404.out; have hcz68_0 : w64.cell? ⟨gb404, 0, none⟩ = some (.int .i64 0) := (blk_cell BK404.out 0).trans rfl; have hcz68_1 : w64.cell? ⟨gb404, 1, none⟩ = some (.int .i64 0) := (blk_cell BK404.out 1).trans rfl; have hcz68_2 : w64.cell? ⟨gb404, 2, none⟩ = some (.int .i64 0) := (blk_cell BK404.out 2).trans rfl; have hfz68_0 := blk_frozen BK404.out 0; have hfz68_1 := blk_frozen BK404.out 1; have hfz68_2 := blk_frozen BK404.out 2; have hcz69_0 : w64.cell? ⟨gb382, 0, none⟩ = some (.int .i64 a0_0) := (blk_cell BK382.out 0).trans rfl; have hcz69_1 : w64.cell? ⟨gb382, 1, none⟩ = some (.int .i64 a0_1) := (blk_cell BK382.out 1).trans rfl; have hcz69_2 : w64.cell? ⟨gb382, 2, none⟩ = some (.int .i64 a0_2) := (blk_cell BK382.out 2).trans rfl; have hfz69_0 := blk_frozen BK382.out 0; have hfz69_1 := blk_frozen BK382.out 1; have hfz69_2 := blk_frozen BK382.out 2) | ((with_reducible refine gate_callee (f := 8) rfl ?_); refine goesL_ (some 101) rfl rfl Try.func8 (by kernel_rfl) rfl #[.agg #[.int .i64 a0_0, .int .i64 a0_1, .int .i64 a0_2], .agg #[.int .i64 t400, .int .i64 t401, .int .i64 t402], .bool true] rfl (by (try simp only [List.map_toArray, List.map_cons, List.map_nil]); first | done | rfl | (simp only [List.length_drop, List.length_take]; rfl)) ?_; (with_reducible refine (count_Between_s.calls a0_0 a0_1 a0_2 t400 t401 t402 true t406 (some q408) _ A47.out).mono ?_); rintro e w70 ⟨rfl, hb⟩; refine ⟨_, rfl, ?_⟩; have n0_ := Aside0.mk (blk_below (g := gb382) (o := .cells #[.int .i64 a0_0, .int .i64 a0_1, .int .i64 a0_2] 23 (0, 0)) (by (with_reducible repeat (first | refine blk_drewN ?_ _ | refine blk_drew ?_ | refine blk_alloc ?_ _)); refine blk_far ?_ NB382_404.out _; (with_reducible repeat (first | refine blk_drewN ?_ _ | refine blk_drew ?_ | refine blk_alloc ?_ _)); refine blk_far ?_ NB382_404.out _; (with_reducible repeat (first | refine blk_drewN ?_ _ | refine blk_drew ?_ | refine blk_alloc ?_ _)); refine blk_far ?_ NB382_404.out _; (with_reducible repeat (first | refine blk_drewN ?_ _ | refine blk_drew ?_ | refine blk_alloc ?_ _)); exact BK382.out) hb); have n1_ := Aside0.mk (blk_below (g := gb383) (o := .cells #[.int .i64 a1_0, .int .i64 a1_1, .int .i64 a1_2] 23 (0, 0)) (by (with_reducible repeat (first | refine blk_drewN ?_ _ | refine blk_drew ?_ | refine blk_alloc ?_ _)); refine blk_far ?_ NB383_404.out _; (with_reducible repeat (first | refine blk_drewN ?_ _ | refine blk_drew ?_ | refine blk_alloc ?_ _)); refine blk_far ?_ NB383_404.out _; (with_reducible repeat (first | refine blk_drewN ?_ _ | refine blk_drew ?_ | refine blk_alloc ?_ _)); refine blk_far ?_ NB383_404.out _; (with_reducible repeat (first | refine blk_drewN ?_ _ | refine blk_drew ?_ | refine blk_alloc ?_ _)); exact BK383.out) hb); have n2_ := Aside0.mk (blk_below (g := gb384) (o := .cells #[.int .i64 a2_0, .int .i64 a2_1, .int .i64 a2_2] 23 (0, 0)) (by (with_reducible repeat (first | refine blk_drewN ?_ _ | refine blk_drew ?_ | refine blk_alloc ?_ _)); refine blk_far ?_ NB384_404.out _; (with_reducible repeat (first | refine blk_drewN ?_ _ | refine blk_drew ?_ | refine blk_alloc ?_ _)); refine blk_far ?_ NB384_404.out _; (with_reducible repeat (first | refine blk_drewN ?_ _ | refine blk_drew ?_ | refine blk_alloc ?_ _)); refine blk_far ?_ NB384_404.out _; (with_reducible repeat (first | refine blk_drewN ?_ _ | refine blk_drew ?_ | refine blk_alloc ?_ _)); exact BK384.out) hb); have n3_ := Aside0.mk (blk_below (g := gb404) (o := .cells #[.int .i64 t400, .int .i64 t401, .int .i64 t402] 23 (0, 0)) (by (with_reducible repeat (first | refine blk_drewN ?_ _ | refine blk_drew ?_ | refine blk_alloc ?_ _)); refine blk_put (cs := #[.int .i64 t400, .int .i64 t401, .int .i64 0]) ?_ 2 _ rfl; (with_reducible repeat (first | refine blk_drewN ?_ _ | refine blk_drew ?_ | refine blk_alloc ?_ _)); refine blk_put (cs := #[.int .i64 t400, .int .i64 0, .int .i64 0]) ?_ 1 _ rfl; (with_reducible repeat (first | refine blk_drewN ?_ _ | refine blk_drew ?_ | refine blk_alloc ?_ _)); refine blk_put (cs := #[.int .i64 0, .int .i64 0, .int .i64 0]) ?_ 0 _ rfl; (with_reducible repeat (first | refine blk_drewN ?_ _ | refine blk_drew ?_ | refine blk_alloc ?_ _)); exact BK404.out) hb); have n4_ := Aside0.mk (below_step (by repeat (first | (with_reducible first | exact HB.out | apply below_alloc | apply pw_below_drewN | apply below_drew1 | refine below_set ?_ GE382.out | refine below_set ?_ GE383.out | refine below_set ?_ GE384.out | refine below_set ?_ GE404.out) | exact HB.out)) hb); clear BK382; clear BK383; clear BK384; clear BK404; clear HB; have BK382 := n0_; have BK383 := n1_; have BK384 := n2_; have BK404 := n3_; have HB := n4_; clear n0_ n1_ n2_ n3_ n4_; (try clear hb); (try clear hb2); (try clear hk); (try clear hi); (try simp only [errW_none, errW_some])))
                      go_ret
                      exact ⟨by first | rfl | (simp [errW_none, errW_some] <;> rfl) | (simp [*, errW_none, errW_some] <;> rfl), by repeat (first | (with_reducible first | exact HB.out | apply below_alloc | apply pw_below_drewN | apply below_drew1 | refine below_set ?_ GE382.out | refine below_set ?_ GE383.out | refine below_set ?_ GE384.out | refine below_set ?_ GE404.out) | exact HB.out)⟩
                  · replace c48 := Bool.eq_false_iff.mpr c48
                    subst c48
                    have H1 : (some false) = some r := by rw [if_neg (show ¬ (false = true) by decide)] at H; exact H
                    clear H
                    have H := H1
                    clear H1
                    obtain rfl := Option.some.inj H
                    have hnb71 := NB382_383.out
                    have hnc71 := NB383_382.out
                    have hnb72 := NB382_384.out
                    have hnc72 := NB384_382.out
                    have hcz73_0 : wc.cell? ⟨gb382, 0, none⟩ = some (.int .i64 a0_0) := (blk_cell BK382.out 0).trans rfl
                    have hcz73_1 : wc.cell? ⟨gb382, 1, none⟩ = some (.int .i64 a0_1) := (blk_cell BK382.out 1).trans rfl
                    have hcz73_2 : wc.cell? ⟨gb382, 2, none⟩ = some (.int .i64 a0_2) := (blk_cell BK382.out 2).trans rfl
                    have hfz73_0 := blk_frozen BK382.out 0
                    have hfz73_1 := blk_frozen BK382.out 1
                    have hfz73_2 := blk_frozen BK382.out 2
                    go_wp2_with (first | ((with_reducible refine gate_callee (f := 18) rfl ?_); refine goesL_ (some 87) rfl rfl Try.func18 (by kernel_rfl) rfl #[.agg #[.int .i64 a0_0, .int .i64 a0_1, .int .i64 a0_2], .int .i64 1] rfl (by (try simp only [List.map_toArray, List.map_cons, List.map_nil]); first | done | rfl | (simp only [List.length_drop, List.length_take]; rfl)) ?_; (with_reducible refine (date_Months_s.calls a0_0 a0_1 a0_2 1 t400 t401 t402 none _ A35.out).mono ?_); rintro e w74 ⟨rfl, hb⟩; refine ⟨_, rfl, ?_⟩; have n0_ := Aside0.mk (blk_below (g := gb382) (o := .cells #[.int .i64 a0_0, .int .i64 a0_1, .int .i64 a0_2] 23 (0, 0)) (by (with_reducible repeat (first | refine blk_drewN ?_ _ | refine blk_drew ?_ | refine blk_alloc ?_ _)); exact BK382.out) hb); have n1_ := Aside0.mk (blk_below (g := gb383) (o := .cells #[.int .i64 a1_0, .int .i64 a1_1, .int .i64 a1_2] 23 (0, 0)) (by (with_reducible repeat (first | refine blk_drewN ?_ _ | refine blk_drew ?_ | refine blk_alloc ?_ _)); exact BK383.out) hb); have n2_ := Aside0.mk (blk_below (g := gb384) (o := .cells #[.int .i64 a2_0, .int .i64 a2_1, .int .i64 a2_2] 23 (0, 0)) (by (with_reducible repeat (first | refine blk_drewN ?_ _ | refine blk_drew ?_ | refine blk_alloc ?_ _)); exact BK384.out) hb); have n3_ := Aside0.mk (below_step (by repeat (first | (with_reducible first | exact HB.out | apply below_alloc | apply pw_below_drewN | apply below_drew1 | refine below_set ?_ GE382.out | refine below_set ?_ GE383.out | refine below_set ?_ GE384.out) | exact HB.out)) hb); clear BK382; clear BK383; clear BK384; clear HB; have BK382 := n0_; have BK383 := n1_; have BK384 := n2_; have HB := n3_; clear n0_ n1_ n2_ n3_; (try clear hb); (try clear hb2); (try clear hk); (try clear hi); (try simp only [errW_none, errW_some])) | ((with_reducible refine gate_dst (N := 18) rfl ?_); refine box_event ?hg (N := 18) ?hd (cs := #[.int .i64 0, .int .i64 0, .int .i64 0]) (t := 23) ?hr ?_; (case hd => rfl); (case hg => rfl); (case hr => first | (go_simp; done) | (go_simp; rfl)); intro gb404 hg w75 hbox hb; have n0_ := Aside0.mk (blk_below (g := gb382) (o := .cells #[.int .i64 a0_0, .int .i64 a0_1, .int .i64 a0_2] 23 (0, 0)) (by (with_reducible repeat (first | refine blk_drewN ?_ _ | refine blk_drew ?_ | refine blk_alloc ?_ _)); exact BK382.out) hb); have n1_ := Aside0.mk (blk_below (g := gb383) (o := .cells #[.int .i64 a1_0, .int .i64 a1_1, .int .i64 a1_2] 23 (0, 0)) (by (with_reducible repeat (first | refine blk_drewN ?_ _ | refine blk_drew ?_ | refine blk_alloc ?_ _)); exact BK383.out) hb); have n2_ := Aside0.mk (blk_below (g := gb384) (o := .cells #[.int .i64 a2_0, .int .i64 a2_1, .int .i64 a2_2] 23 (0, 0)) (by (with_reducible repeat (first | refine blk_drewN ?_ _ | refine blk_drew ?_ | refine blk_alloc ?_ _)); exact BK384.out) hb); have n3_ := Aside0.mk (below_step (by repeat (first | (with_reducible first | exact HB.out | apply below_alloc | apply pw_below_drewN | apply below_drew1 | refine below_set ?_ GE382.out | refine below_set ?_ GE383.out | refine below_set ?_ GE384.out) | exact HB.out)) hb); have n4_ := Aside0.mk (hbox); have n5_ := Aside0.mk ((by rw [hg]; exact (below_size (by repeat (first | (with_reducible first | exact HB.out | apply below_alloc | apply pw_below_drewN | apply below_drew1 | refine below_set ?_ GE382.out | refine below_set ?_ GE383.out | refine below_set ?_ GE384.out) | exact HB.out))) : w.heap.size ≤ gb404)); have n6_ := Aside0.mk ((by rw [hg]; exact (below_size (by repeat (first | (with_reducible first | exact HB.out | apply below_alloc | apply pw_below_drewN | apply below_drew1 | refine below_set ?_ GE382.out | refine below_set ?_ GE383.out | refine below_set ?_ GE384.out) | exact HB.out))) : w.heap.size ≤ gb404)); have n7_ := Aside0.mk ((by rw [hg]; exact Nat.ne_of_lt (blk_lt (g := gb382) (o := .cells #[.int .i64 a0_0, .int .i64 a0_1, .int .i64 a0_2] 23 (0, 0)) (by (with_reducible repeat (first | refine blk_drewN ?_ _ | refine blk_drew ?_ | refine blk_alloc ?_ _)); exact BK382.out)) : gb382 ≠ gb404)); have n8_ := Aside0.mk ((by rw [hg]; exact Nat.ne_of_gt (blk_lt (g := gb382) (o := .cells #[.int .i64 a0_0, .int .i64 a0_1, .int .i64 a0_2] 23 (0, 0)) (by (with_reducible repeat (first | refine blk_drewN ?_ _ | refine blk_drew ?_ | refine blk_alloc ?_ _)); exact BK382.out)) : gb404 ≠ gb382)); have n9_ := Aside0.mk ((by rw [hg]; exact Nat.ne_of_lt (blk_lt (g := gb383) (o := .cells #[.int .i64 a1_0, .int .i64 a1_1, .int .i64 a1_2] 23 (0, 0)) (by (with_reducible repeat (first | refine blk_drewN ?_ _ | refine blk_drew ?_ | refine blk_alloc ?_ _)); exact BK383.out)) : gb383 ≠ gb404)); have n10_ := Aside0.mk ((by rw [hg]; exact Nat.ne_of_gt (blk_lt (g := gb383) (o := .cells #[.int .i64 a1_0, .int .i64 a1_1, .int .i64 a1_2] 23 (0, 0)) (by (with_reducible repeat (first | refine blk_drewN ?_ _ | refine blk_drew ?_ | refine blk_alloc ?_ _)); exact BK383.out)) : gb404 ≠ gb383)); have n11_ := Aside0.mk ((by rw [hg]; exact Nat.ne_of_lt (blk_lt (g := gb384) (o := .cells #[.int .i64 a2_0, .int .i64 a2_1, .int .i64 a2_2] 23 (0, 0)) (by (with_reducible repeat (first | refine blk_drewN ?_ _ | refine blk_drew ?_ | refine blk_alloc ?_ _)); exact BK384.out)) : gb384 ≠ gb404)); have n12_ := Aside0.mk ((by rw [hg]; exact Nat.ne_of_gt (blk_lt (g := gb384) (o := .cells #[.int .i64 a2_0, .int .i64 a2_1, .int .i64 a2_2] 23 (0, 0)) (by (with_reducible repeat (first | refine blk_drewN ?_ _ | refine blk_drew ?_ | refine blk_alloc ?_ _)); exact BK384.out)) : gb404 ≠ gb384)); clear BK382; clear BK383; clear BK384; clear HB; have BK382 := n0_; have BK383 := n1_; have BK384 := n2_; have HB := n3_; have BK404 := n4_; have GW404 := n5_; have GE404 := n6_; have NB382_404 := n7_; have NB404_382 := n8_; have NB383_404 := n9_; have NB404_383 := n10_; have NB384_404 := n11_; have NB404_384 := n12_; clear n0_ n1_ n2_ n3_ n4_ n5_ n6_ n7_ n8_ n9_ n10_ n11_ n12_; clear hb hbox hg; have hnb76 := NB404_382.out; have hnc76 := NB382_404.out; have hnb77 := NB404_383.out; have hnc77 := NB383_404.out; have hnb78 := NB404_384.out; have hnc78 := NB384_404.out; have hcz79_0 : w75.cell? ⟨gb404, 0, none⟩ = some (.int .i64 0) := (blk_cell BK404.out 0).trans rfl; have hcz79_1 : w75.cell? ⟨gb404, 1, none⟩ = some (.int .i64 0) := (blk_cell BK404.out 1).trans rfl; have hcz79_2 : w75.cell? ⟨gb404, 2, none⟩ = some (.int .i64 0) := (blk_cell BK404.out 2).trans rfl; have hfz79_0 := blk_frozen BK404.out 0; have hfz79_1 := blk_frozen BK404.out 1; have hfz79_2 := blk_frozen BK404.out 2; have hcz80_0 : w75.cell? ⟨gb382, 0, none⟩ = some (.int .i64 a0_0) := (blk_cell BK382.out 0).trans rfl; have hcz80_1 : w75.cell? ⟨gb382, 1, none⟩ = some (.int .i64 a0_1) := (blk_cell BK382.out 1).trans rfl; have hcz80_2 : w75.cell? ⟨gb382, 2, none⟩ = some (.int .i64 a0_2) := (blk_cell BK382.out 2).trans rfl; have hfz80_0 := blk_frozen BK382.out 0; have hfz80_1 := blk_frozen BK382.out 1; have hfz80_2 := blk_frozen BK382.out 2) | ((with_reducible refine gate_callee (f := 8) rfl ?_); refine goesL_ (some 101) rfl rfl Try.func8 (by kernel_rfl) rfl #[.agg #[.int .i64 a0_0, .int .i64 a0_1, .int .i64 a0_2], .agg #[.int .i64 t400, .int .i64 t401, .int .i64 t402], .bool true] rfl (by (try simp only [List.map_toArray, List.map_cons, List.map_nil]); first | done | rfl | (simp only [List.length_drop, List.length_take]; rfl)) ?_; (with_reducible refine (count_Between_s.calls a0_0 a0_1 a0_2 t400 t401 t402 true t406 t407 _ A47.out).mono ?_); rintro e w81 ⟨rfl, hb⟩; refine ⟨_, rfl, ?_⟩; have n0_ := Aside0.mk (blk_below (g := gb382) (o := .cells #[.int .i64 a0_0, .int .i64 a0_1, .int .i64 a0_2] 23 (0, 0)) (by (with_reducible repeat (first | refine blk_drewN ?_ _ | refine blk_drew ?_ | refine blk_alloc ?_ _)); refine blk_far ?_ NB382_404.out _; (with_reducible repeat (first | refine blk_drewN ?_ _ | refine blk_drew ?_ | refine blk_alloc ?_ _)); refine blk_far ?_ NB382_404.out _; (with_reducible repeat (first | refine blk_drewN ?_ _ | refine blk_drew ?_ | refine blk_alloc ?_ _)); refine blk_far ?_ NB382_404.out _; (with_reducible repeat (first | refine blk_drewN ?_ _ | refine blk_drew ?_ | refine blk_alloc ?_ _)); exact BK382.out) hb); have n1_ := Aside0.mk (blk_below (g := gb383) (o := .cells #[.int .i64 a1_0, .int .i64 a1_1, .int .i64 a1_2] 23 (0, 0)) (by (with_reducible repeat (first | refine blk_drewN ?_ _ | refine blk_drew ?_ | refine blk_alloc ?_ _)); refine blk_far ?_ NB383_404.out _; (with_reducible repeat (first | refine blk_drewN ?_ _ | refine blk_drew ?_ | refine blk_alloc ?_ _)); refine blk_far ?_ NB383_404.out _; (with_reducible repeat (first | refine blk_drewN ?_ _ | refine blk_drew ?_ | refine blk_alloc ?_ _)); refine blk_far ?_ NB383_404.out _; (with_reducible repeat (first | refine blk_drewN ?_ _ | refine blk_drew ?_ | refine blk_alloc ?_ _)); exact BK383.out) hb); have n2_ := Aside0.mk (blk_below (g := gb384) (o := .cells #[.int .i64 a2_0, .int .i64 a2_1, .int .i64 a2_2] 23 (0, 0)) (by (with_reducible repeat (first | refine blk_drewN ?_ _ | refine blk_drew ?_ | refine blk_alloc ?_ _)); refine blk_far ?_ NB384_404.out _; (with_reducible repeat (first | refine blk_drewN ?_ _ | refine blk_drew ?_ | refine blk_alloc ?_ _)); refine blk_far ?_ NB384_404.out _; (with_reducible repeat (first | refine blk_drewN ?_ _ | refine blk_drew ?_ | refine blk_alloc ?_ _)); refine blk_far ?_ NB384_404.out _; (with_reducible repeat (first | refine blk_drewN ?_ _ | refine blk_drew ?_ | refine blk_alloc ?_ _)); exact BK384.out) hb); have n3_ := Aside0.mk (blk_below (g := gb404) (o := .cells #[.int .i64 t400, .int .i64 t401, .int .i64 t402] 23 (0, 0)) (by (with_reducible repeat (first | refine blk_drewN ?_ _ | refine blk_drew ?_ | refine blk_alloc ?_ _)); refine blk_put (cs := #[.int .i64 t400, .int .i64 t401, .int .i64 0]) ?_ 2 _ rfl; (with_reducible repeat (first | refine blk_drewN ?_ _ | refine blk_drew ?_ | refine blk_alloc ?_ _)); refine blk_put (cs := #[.int .i64 t400, .int .i64 0, .int .i64 0]) ?_ 1 _ rfl; (with_reducible repeat (first | refine blk_drewN ?_ _ | refine blk_drew ?_ | refine blk_alloc ?_ _)); refine blk_put (cs := #[.int .i64 0, .int .i64 0, .int .i64 0]) ?_ 0 _ rfl; (with_reducible repeat (first | refine blk_drewN ?_ _ | refine blk_drew ?_ | refine blk_alloc ?_ _)); exact BK404.out) hb); have n4_ := Aside0.mk (below_step (by repeat (first | (with_reducible first | exact HB.out | apply below_alloc | apply pw_below_drewN | apply below_drew1 | refine below_set ?_ GE382.out | refine below_set ?_ GE383.out | refine below_set ?_ GE384.out | refine below_set ?_ GE404.out) | exact HB.out)) hb); clear BK382; clear BK383; clear BK384; clear BK404; clear HB; have BK382 := n0_; have BK383 := n1_; have BK384 := n2_; have BK404 := n3_; have HB := n4_; clear n0_ n1_ n2_ n3_ n4_; (try clear hb); (try clear hb2); (try clear hk); (try clear hi); (try simp only [errW_none, errW_some])))
                    go_ret
                    exact ⟨by first | rfl | (simp [errW_none, errW_some] <;> rfl) | (simp [*, errW_none, errW_some] <;> rfl), by repeat (first | (with_reducible first | exact HB.out | apply below_alloc | apply pw_below_drewN | apply below_drew1 | refine below_set ?_ GE382.out | refine below_set ?_ GE383.out | refine below_set ?_ GE384.out | refine below_set ?_ GE404.out) | exact HB.out)⟩
              · have H1 : (some t385) = some r := by rw [if_neg (show ¬ (some q405).isNone = true by simp)] at H; exact H
                clear H
                have H := H1
                clear H1
                try simp only [errW_none, errW_some]
                obtain rfl := Option.some.inj H
                have hnb82 := NB382_383.out
                have hnc82 := NB383_382.out
                have hnb83 := NB382_384.out
                have hnc83 := NB384_382.out
                have hcz84_0 : wc.cell? ⟨gb382, 0, none⟩ = some (.int .i64 a0_0) := (blk_cell BK382.out 0).trans rfl
                have hcz84_1 : wc.cell? ⟨gb382, 1, none⟩ = some (.int .i64 a0_1) := (blk_cell BK382.out 1).trans rfl
                have hcz84_2 : wc.cell? ⟨gb382, 2, none⟩ = some (.int .i64 a0_2) := (blk_cell BK382.out 2).trans rfl
                have hfz84_0 := blk_frozen BK382.out 0
                have hfz84_1 := blk_frozen BK382.out 1
                have hfz84_2 := blk_frozen BK382.out 2
                go_wp2_with (first | ((with_reducible refine gate_callee (f := 18) rfl ?_); refine goesL_ (some 87) rfl rfl Try.func18 (by kernel_rfl) rfl #[.agg #[.int .i64 a0_0, .int .i64 a0_1, .int .i64 a0_2], .int .i64 1] rfl (by (try simp only [List.map_toArray, List.map_cons, List.map_nil]); first | done | rfl | (simp only [List.length_drop, List.length_take]; rfl)) ?_; (with_reducible refine (date_Months_s.calls a0_0 a0_1 a0_2 1 t400 t401 t402 (some q405) _ A35.out).mono ?_); rintro e w85 ⟨rfl, hb⟩; refine ⟨_, rfl, ?_⟩; have n0_ := Aside0.mk (blk_below (g := gb382) (o := .cells #[.int .i64 a0_0, .int .i64 a0_1, .int .i64 a0_2] 23 (0, 0)) (by (with_reducible repeat (first | refine blk_drewN ?_ _ | refine blk_drew ?_ | refine blk_alloc ?_ _)); exact BK382.out) hb); have n1_ := Aside0.mk (blk_below (g := gb383) (o := .cells #[.int .i64 a1_0, .int .i64 a1_1, .int .i64 a1_2] 23 (0, 0)) (by (with_reducible repeat (first | refine blk_drewN ?_ _ | refine blk_drew ?_ | refine blk_alloc ?_ _)); exact BK383.out) hb); have n2_ := Aside0.mk (blk_below (g := gb384) (o := .cells #[.int .i64 a2_0, .int .i64 a2_1, .int .i64 a2_2] 23 (0, 0)) (by (with_reducible repeat (first | refine blk_drewN ?_ _ | refine blk_drew ?_ | refine blk_alloc ?_ _)); exact BK384.out) hb); have n3_ := Aside0.mk (below_step (by repeat (first | (with_reducible first | exact HB.out | apply below_alloc | apply pw_below_drewN | apply below_drew1 | refine below_set ?_ GE382.out | refine below_set ?_ GE383.out | refine below_set ?_ GE384.out) | exact HB.out)) hb); clear BK382; clear BK383; clear BK384; clear HB; have BK382 := n0_; have BK383 := n1_; have BK384 := n2_; have HB := n3_; clear n0_ n1_ n2_ n3_; (try clear hb); (try clear hb2); (try clear hk); (try clear hi); (try simp only [errW_none, errW_some])) | ((with_reducible refine gate_dst (N := 18) rfl ?_); refine box_event ?hg (N := 18) ?hd (cs := #[.int .i64 0, .int .i64 0, .int .i64 0]) (t := 23) ?hr ?_; (case hd => rfl); (case hg => rfl); (case hr => first | (go_simp; done) | (go_simp; rfl)); intro gb404 hg w86 hbox hb; have n0_ := Aside0.mk (blk_below (g := gb382) (o := .cells #[.int .i64 a0_0, .int .i64 a0_1, .int .i64 a0_2] 23 (0, 0)) (by (with_reducible repeat (first | refine blk_drewN ?_ _ | refine blk_drew ?_ | refine blk_alloc ?_ _)); exact BK382.out) hb); have n1_ := Aside0.mk (blk_below (g := gb383) (o := .cells #[.int .i64 a1_0, .int .i64 a1_1, .int .i64 a1_2] 23 (0, 0)) (by (with_reducible repeat (first | refine blk_drewN ?_ _ | refine blk_drew ?_ | refine blk_alloc ?_ _)); exact BK383.out) hb); have n2_ := Aside0.mk (blk_below (g := gb384) (o := .cells #[.int .i64 a2_0, .int .i64 a2_1, .int .i64 a2_2] 23 (0, 0)) (by (with_reducible repeat (first | refine blk_drewN ?_ _ | refine blk_drew ?_ | refine blk_alloc ?_ _)); exact BK384.out) hb); have n3_ := Aside0.mk (below_step (by repeat (first | (with_reducible first | exact HB.out | apply below_alloc | apply pw_below_drewN | apply below_drew1 | refine below_set ?_ GE382.out | refine below_set ?_ GE383.out | refine below_set ?_ GE384.out) | exact HB.out)) hb); have n4_ := Aside0.mk (hbox); have n5_ := Aside0.mk ((by rw [hg]; exact (below_size (by repeat (first | (with_reducible first | exact HB.out | apply below_alloc | apply pw_below_drewN | apply below_drew1 | refine below_set ?_ GE382.out | refine below_set ?_ GE383.out | refine below_set ?_ GE384.out) | exact HB.out))) : w.heap.size ≤ gb404)); have n6_ := Aside0.mk ((by rw [hg]; exact (below_size (by repeat (first | (with_reducible first | exact HB.out | apply below_alloc | apply pw_below_drewN | apply below_drew1 | refine below_set ?_ GE382.out | refine below_set ?_ GE383.out | refine below_set ?_ GE384.out) | exact HB.out))) : w.heap.size ≤ gb404)); have n7_ := Aside0.mk ((by rw [hg]; exact Nat.ne_of_lt (blk_lt (g := gb382) (o := .cells #[.int .i64 a0_0, .int .i64 a0_1, .int .i64 a0_2] 23 (0, 0)) (by (with_reducible repeat (first | refine blk_drewN ?_ _ | refine blk_drew ?_ | refine blk_alloc ?_ _)); exact BK382.out)) : gb382 ≠ gb404)); have n8_ := Aside0.mk ((by rw [hg]; exact Nat.ne_of_gt (blk_lt (g := gb382) (o := .cells #[.int .i64 a0_0, .int .i64 a0_1, .int .i64 a0_2] 23 (0, 0)) (by (with_reducible repeat (first | refine blk_drewN ?_ _ | refine blk_drew ?_ | refine blk_alloc ?_ _)); exact BK382.out)) : gb404 ≠ gb382)); have n9_ := Aside0.mk ((by rw [hg]; exact Nat.ne_of_lt (blk_lt (g := gb383) (o := .cells #[.int .i64 a1_0, .int .i64 a1_1, .int .i64 a1_2] 23 (0, 0)) (by (with_reducible repeat (first | refine blk_drewN ?_ _ | refine blk_drew ?_ | refine blk_alloc ?_ _)); exact BK383.out)) : gb383 ≠ gb404)); have n10_ := Aside0.mk ((by rw [hg]; exact Nat.ne_of_gt (blk_lt (g := gb383) (o := .cells #[.int .i64 a1_0, .int .i64 a1_1, .int .i64 a1_2] 23 (0, 0)) (by (with_reducible repeat (first | refine blk_drewN ?_ _ | refine blk_drew ?_ | refine blk_alloc ?_ _)); exact BK383.out)) : gb404 ≠ gb383)); have n11_ := Aside0.mk ((by rw [hg]; exact Nat.ne_of_lt (blk_lt (g := gb384) (o := .cells #[.int .i64 a2_0, .int .i64 a2_1, .int .i64 a2_2] 23 (0, 0)) (by (with_reducible repeat (first | refine blk_drewN ?_ _ | refine blk_drew ?_ | refine blk_alloc ?_ _)); exact BK384.out)) : gb384 ≠ gb404)); have n12_ := Aside0.mk ((by rw [hg]; exact Nat.ne_of_gt (blk_lt (g := gb384) (o := .cells #[.int .i64 a2_0, .int .i64 a2_1, .int .i64 a2_2] 23 (0, 0)) (by (with_reducible repeat (first | refine blk_drewN ?_ _ | refine blk_drew ?_ | refine blk_alloc ?_ _)); exact BK384.out)) : gb404 ≠ gb384)); clear BK382; clear BK383; clear BK384; clear HB; have BK382 := n0_; have BK383 := n1_; have BK384 := n2_; have HB := n3_; have BK404 := n4_; have GW404 := n5_; have GE404 := n6_; have NB382_404 := n7_; have NB404_382 := n8_; have NB383_404 := n9_; have NB404_383 := n10_; have NB384_404 := n11_; have NB404_384 := n12_; clear n0_ n1_ n2_ n3_ n4_ n5_ n6_ n7_ n8_ n9_ n10_ n11_ n12_; clear hb hbox hg; have hnb87 := NB404_382.out; have hnc87 := NB382_404.out; have hnb88 := NB404_383.out; have hnc88 := NB383_404.out; have hnb89 := NB404_384.out; have hnc89 := NB384_404.out; have hcz90_0 : w86.cell? ⟨gb404, 0, none⟩ = some (.int .i64 0) := (blk_cell BK404.out 0).trans rfl; have hcz90_1 : w86.cell? ⟨gb404, 1, none⟩ = some (.int .i64 0) := (blk_cell BK404.out 1).trans rfl; have hcz90_2 : w86.cell? ⟨gb404, 2, none⟩ = some (.int .i64 0) := (blk_cell BK404.out 2).trans rfl; have hfz90_0 := blk_frozen BK404.out 0; have hfz90_1 := blk_frozen BK404.out 1; have hfz90_2 := blk_frozen BK404.out 2))
                go_ret
                exact ⟨by first | rfl | (simp [errW_none, errW_some] <;> rfl) | (simp [*, errW_none, errW_some] <;> rfl), by repeat (first | (with_reducible first | exact HB.out | apply below_alloc | apply pw_below_drewN | apply below_drew1 | refine below_set ?_ GE382.out | refine below_set ?_ GE383.out | refine below_set ?_ GE384.out | refine below_set ?_ GE404.out) | exact HB.out)⟩

/-- THE ONE PURE STATEMENT of trivetlaw05_CountTurns: yours. -/
def trivetlaw05_CountTurns.Pure : Prop := ∀ (a0_0 : Int) (a0_1 : Int) (a0_2 : Int) (a1_0 : Int) (a1_1 : Int) (a1_2 : Int) (a2_0 : Int) (a2_1 : Int) (a2_2 : Int) (a3 : Bool), (Lit.int .i64 a0_0).wf = true → (Lit.int .i64 a0_1).wf = true → (Lit.int .i64 a0_2).wf = true → (Lit.int .i64 a1_0).wf = true → (Lit.int .i64 a1_1).wf = true → (Lit.int .i64 a1_2).wf = true → (Lit.int .i64 a2_0).wf = true → (Lit.int .i64 a2_1).wf = true → (Lit.int .i64 a2_2).wf = true → ∃ k, trivetlaw05_CountTurns.f k a0_0 a0_1 a0_2 a1_0 a1_1 a1_2 a2_0 a2_1 a2_2 a3 = some true
theorem trivetlaw05_CountTurns.walk (P : trivetlaw05_CountTurns.Pure) (a0_0 : Int) (a0_1 : Int) (a0_2 : Int) (a1_0 : Int) (a1_1 : Int) (a1_2 : Int) (a2_0 : Int) (a2_1 : Int) (a2_2 : Int) (a3 : Bool) (w : World) (w0_0 : (Lit.int .i64 a0_0).wf = true) (w0_1 : (Lit.int .i64 a0_1).wf = true) (w0_2 : (Lit.int .i64 a0_2).wf = true) (w1_0 : (Lit.int .i64 a1_0).wf = true) (w1_1 : (Lit.int .i64 a1_1).wf = true) (w1_2 : (Lit.int .i64 a1_2).wf = true) (w2_0 : (Lit.int .i64 a2_0).wf = true) (w2_1 : (Lit.int .i64 a2_1).wf = true) (w2_2 : (Lit.int .i64 a2_2).wf = true) :
    Calls Try.prog 6 #[.agg #[.int .i64 a0_0, .int .i64 a0_1, .int .i64 a0_2], .agg #[.int .i64 a1_0, .int .i64 a1_1, .int .i64 a1_2], .agg #[.int .i64 a2_0, .int .i64 a2_1, .int .i64 a2_2], .bool a3] w fun e w' => e = .returned (.bool true) ∧ Below w.heap.size w w' := by
  obtain ⟨k, h⟩ := P a0_0 a0_1 a0_2 a1_0 a1_1 a1_2 a2_0 a2_1 a2_2 a3 w0_0 w0_1 w0_2 w1_0 w1_1 w1_2 w2_0 w2_1 w2_2
  refine (trivetlaw05_CountTurns.calls k a0_0 a0_1 a0_2 a1_0 a1_1 a1_2 a2_0 a2_1 a2_2 a3 true w h).mono ?_
  rintro e w' ⟨rfl, hd⟩
  exact ⟨rfl, hd⟩

end Go.Proofs.Ytonjhfneeejdaaa.P
