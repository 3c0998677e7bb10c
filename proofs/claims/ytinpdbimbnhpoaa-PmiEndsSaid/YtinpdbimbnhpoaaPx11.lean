-- Written by a program of this session out of the translation of the seat: Lean functions and the proofs that the Go functions come to them.
import Derived.Test.YtinpdbimbnhpoaaPx0
import Derived.Test.YtinpdbimbnhpoaaPx10
namespace Go.Proofs.Ytinpdbimbnhpoaa.P
open Go.RowKit Go.Proofs.YtinpdbimbnhpoaaW.PrintWords Go.Proofs.YtinpdbimbnhpoaaW.PrintLast Go.Proofs.YtinpdbimbnhpoaaW.PrintMore
attribute [local go_sem] max2_int min2_int max_two min_two max_three min_three max_four min_four   -- for this text's walks alone
set_option linter.unusedVariables false
set_option linter.unusedSimpArgs false

/-! ### trivetref11_May: function 14 -/
mutual
def trivetref11_May.j0 : Nat → Bool → Int → Int → Int → Int → Int → Int → Int → Int → Int → Int → Int → Int → Option (Bool)
  | 0, _, _, _, _, _, _, _, _, _, _, _, _, _ => none
  | k + 1, x31, x240000, x240001, x240002, x240003, x240004, x240005, x240006, x240007, x240008, x245000, x245001, x245002 => if x31 = true then (some false) else ((trivetref04_Months_s.f x245000 x245001 x245002 x240002).bind fun bt245 => (if x240000 ≥ 1 then (if x240000 ≤ 10000000000000 then (if x240004 ≥ 0 then (trivetref11_May.j1 k bt245.2.2.2 (decide (x240004 ≤ 10000000000000)) x240000 x240001 x240002 x240003 x240004 x240005 x240006 x240007 x240008) else (trivetref11_May.j1 k bt245.2.2.2 false x240000 x240001 x240002 x240003 x240004 x240005 x240006 x240007 x240008)) else (trivetref11_May.j1 k bt245.2.2.2 false x240000 x240001 x240002 x240003 x240004 x240005 x240006 x240007 x240008)) else (trivetref11_May.j1 k bt245.2.2.2 false x240000 x240001 x240002 x240003 x240004 x240005 x240006 x240007 x240008)))
def trivetref11_May.j1 : Nat → Bool → Bool → Int → Int → Int → Int → Int → Int → Int → Int → Int → Option (Bool)
  | 0, _, _, _, _, _, _, _, _, _, _, _ => none
  | k + 1, x6, x7, x240000, x240001, x240002, x240003, x240004, x240005, x240006, x240007, x240008 => if x240001 ≥ 0 then (if x240001 ≤ 300000 then (if x240007 ≥ 0 then (if x240008 ≥ 0 then (if x240007 ≤ 300000 then (if x240008 ≤ 300000 then (trivetref11_May.j2 k x6 x7 (decide ((wrap64 (x240007 + x240008)) ≤ x240001)) x240000 x240001 x240002 x240003 x240004 x240005 x240006 x240007 x240008) else (trivetref11_May.j2 k x6 x7 false x240000 x240001 x240002 x240003 x240004 x240005 x240006 x240007 x240008)) else (trivetref11_May.j2 k x6 x7 false x240000 x240001 x240002 x240003 x240004 x240005 x240006 x240007 x240008)) else (trivetref11_May.j2 k x6 x7 false x240000 x240001 x240002 x240003 x240004 x240005 x240006 x240007 x240008)) else (trivetref11_May.j2 k x6 x7 false x240000 x240001 x240002 x240003 x240004 x240005 x240006 x240007 x240008)) else (trivetref11_May.j2 k x6 x7 false x240000 x240001 x240002 x240003 x240004 x240005 x240006 x240007 x240008)) else (trivetref11_May.j2 k x6 x7 false x240000 x240001 x240002 x240003 x240004 x240005 x240006 x240007 x240008)
def trivetref11_May.j2 : Nat → Bool → Bool → Bool → Int → Int → Int → Int → Int → Int → Int → Int → Int → Option (Bool)
  | 0, _, _, _, _, _, _, _, _, _, _, _, _ => none
  | k + 1, x6, x7, x8, x240000, x240001, x240002, x240003, x240004, x240005, x240006, x240007, x240008 => if x6 = true then (if x7 = true then (if x8 = true then (if x240005 ≥ 1 then (if x240005 ≤ 64 then (if x240006 ≥ 1 then (trivetref11_May.j3 k (decide (x240006 ≤ 3))) else (trivetref11_May.j3 k false)) else (trivetref11_May.j3 k false)) else (trivetref11_May.j3 k false)) else (trivetref11_May.j3 k false)) else (trivetref11_May.j3 k false)) else (trivetref11_May.j3 k false)
def trivetref11_May.j3 : Nat → Bool → Option (Bool)
  | 0, _ => none
  | k + 1, x2 => some x2
end
def trivetref11_May.f (k : Nat) (a0_0 : Int) (a0_1 : Int) (a0_2 : Int) (a0_3 : Int) (a0_4 : Int) (a0_5 : Int) (a0_6 : Int) (a0_7 : Int) (a0_8 : Int) : Option (Bool) := (trivetref04_Of_s.f a0_3).bind fun bt240 => (if bt240.2.2.2 = true then (if bt240.2.2.1 = 1 then (if a0_2 < 1 then (trivetref11_May.j0 k true a0_0 a0_1 a0_2 a0_3 a0_4 a0_5 a0_6 a0_7 a0_8 bt240.1 bt240.2.1 bt240.2.2.1) else (trivetref11_May.j0 k (decide (a0_2 > 480)) a0_0 a0_1 a0_2 a0_3 a0_4 a0_5 a0_6 a0_7 a0_8 bt240.1 bt240.2.1 bt240.2.2.1)) else (trivetref11_May.j0 k true a0_0 a0_1 a0_2 a0_3 a0_4 a0_5 a0_6 a0_7 a0_8 bt240.1 bt240.2.1 bt240.2.2.1)) else (trivetref11_May.j0 k true a0_0 a0_1 a0_2 a0_3 a0_4 a0_5 a0_6 a0_7 a0_8 bt240.1 bt240.2.1 bt240.2.2.1))
theorem trivetref11_May.mono_l : ∀ k, (∀ y0 y1 y2 y3 y4 y5 y6 y7 y8 y9 y10 y11 y12, LeO (trivetref11_May.j0 k y0 y1 y2 y3 y4 y5 y6 y7 y8 y9 y10 y11 y12) (trivetref11_May.j0 (k + 1) y0 y1 y2 y3 y4 y5 y6 y7 y8 y9 y10 y11 y12)) ∧ (∀ y0 y1 y2 y3 y4 y5 y6 y7 y8 y9 y10, LeO (trivetref11_May.j1 k y0 y1 y2 y3 y4 y5 y6 y7 y8 y9 y10) (trivetref11_May.j1 (k + 1) y0 y1 y2 y3 y4 y5 y6 y7 y8 y9 y10)) ∧ (∀ y0 y1 y2 y3 y4 y5 y6 y7 y8 y9 y10 y11, LeO (trivetref11_May.j2 k y0 y1 y2 y3 y4 y5 y6 y7 y8 y9 y10 y11) (trivetref11_May.j2 (k + 1) y0 y1 y2 y3 y4 y5 y6 y7 y8 y9 y10 y11)) ∧ (∀ y0, LeO (trivetref11_May.j3 k y0) (trivetref11_May.j3 (k + 1) y0))
  | 0 => ⟨fun _ _ _ _ _ _ _ _ _ _ _ _ _ r h => by simp [trivetref11_May.j0] at h, fun _ _ _ _ _ _ _ _ _ _ _ r h => by simp [trivetref11_May.j1] at h, fun _ _ _ _ _ _ _ _ _ _ _ _ r h => by simp [trivetref11_May.j2] at h, fun _ r h => by simp [trivetref11_May.j3] at h⟩
  | k + 1 => by
    obtain ⟨ih0, ih1, ih2, ih3⟩ := trivetref11_May.mono_l k
    refine ⟨?_, ?_, ?_, ?_⟩
    · intro y0 y1 y2 y3 y4 y5 y6 y7 y8 y9 y10 y11 y12
      unfold trivetref11_May.j0
      repeat' first
      | (with_reducible exact ih0 _ _ _ _ _ _ _ _ _ _ _ _ _)
      | (with_reducible exact ih1 _ _ _ _ _ _ _ _ _ _ _)
      | (with_reducible exact ih2 _ _ _ _ _ _ _ _ _ _ _ _)
      | (with_reducible exact ih3 _)
      | (with_reducible exact LeO.refl _)
      | (with_reducible exact LeO.none _)
      | (with_reducible refine LeO.ite ?_ ?_)
      | (with_reducible refine LeO.bind ?_ (fun _ => ?_))
      | exact ih0 _ _ _ _ _ _ _ _ _ _ _ _ _
      | exact ih1 _ _ _ _ _ _ _ _ _ _ _
      | exact ih2 _ _ _ _ _ _ _ _ _ _ _ _
      | exact ih3 _
      | exact LeO.none _
      | refine LeO.ite ?_ ?_
      | refine LeO.bind ?_ (fun _ => ?_)
    · intro y0 y1 y2 y3 y4 y5 y6 y7 y8 y9 y10
      unfold trivetref11_May.j1
      repeat' first
      | (with_reducible exact ih0 _ _ _ _ _ _ _ _ _ _ _ _ _)
      | (with_reducible exact ih1 _ _ _ _ _ _ _ _ _ _ _)
      | (with_reducible exact ih2 _ _ _ _ _ _ _ _ _ _ _ _)
      | (with_reducible exact ih3 _)
      | (with_reducible exact LeO.refl _)
      | (with_reducible exact LeO.none _)
      | (with_reducible refine LeO.ite ?_ ?_)
      | (with_reducible refine LeO.bind ?_ (fun _ => ?_))
      | exact ih0 _ _ _ _ _ _ _ _ _ _ _ _ _
      | exact ih1 _ _ _ _ _ _ _ _ _ _ _
      | exact ih2 _ _ _ _ _ _ _ _ _ _ _ _
      | exact ih3 _
      | exact LeO.none _
      | refine LeO.ite ?_ ?_
      | refine LeO.bind ?_ (fun _ => ?_)
    · intro y0 y1 y2 y3 y4 y5 y6 y7 y8 y9 y10 y11
      unfold trivetref11_May.j2
      repeat' first
      | (with_reducible exact ih0 _ _ _ _ _ _ _ _ _ _ _ _ _)
      | (with_reducible exact ih1 _ _ _ _ _ _ _ _ _ _ _)
      | (with_reducible exact ih2 _ _ _ _ _ _ _ _ _ _ _ _)
      | (with_reducible exact ih3 _)
      | (with_reducible exact LeO.refl _)
      | (with_reducible exact LeO.none _)
      | (with_reducible refine LeO.ite ?_ ?_)
      | (with_reducible refine LeO.bind ?_ (fun _ => ?_))
      | exact ih0 _ _ _ _ _ _ _ _ _ _ _ _ _
      | exact ih1 _ _ _ _ _ _ _ _ _ _ _
      | exact ih2 _ _ _ _ _ _ _ _ _ _ _ _
      | exact ih3 _
      | exact LeO.none _
      | refine LeO.ite ?_ ?_
      | refine LeO.bind ?_ (fun _ => ?_)
    · intro y0
      unfold trivetref11_May.j3
      repeat' first
      | (with_reducible exact ih0 _ _ _ _ _ _ _ _ _ _ _ _ _)
      | (with_reducible exact ih1 _ _ _ _ _ _ _ _ _ _ _)
      | (with_reducible exact ih2 _ _ _ _ _ _ _ _ _ _ _ _)
      | (with_reducible exact ih3 _)
      | (with_reducible exact LeO.refl _)
      | (with_reducible exact LeO.none _)
      | (with_reducible refine LeO.ite ?_ ?_)
      | (with_reducible refine LeO.bind ?_ (fun _ => ?_))
      | exact ih0 _ _ _ _ _ _ _ _ _ _ _ _ _
      | exact ih1 _ _ _ _ _ _ _ _ _ _ _
      | exact ih2 _ _ _ _ _ _ _ _ _ _ _ _
      | exact ih3 _
      | exact LeO.none _
      | refine LeO.ite ?_ ?_
      | refine LeO.bind ?_ (fun _ => ?_)
theorem trivetref11_May.mono : ∀ a0 a1 a2 a3 a4 a5 a6 a7 a8 k, LeO (trivetref11_May.f k a0 a1 a2 a3 a4 a5 a6 a7 a8) (trivetref11_May.f (k + 1) a0 a1 a2 a3 a4 a5 a6 a7 a8) := by
  intro a0 a1 a2 a3 a4 a5 a6 a7 a8 k
  obtain ⟨ih0, ih1, ih2, ih3⟩ := trivetref11_May.mono_l k
  unfold trivetref11_May.f
  repeat' first
      | (with_reducible exact ih0 _ _ _ _ _ _ _ _ _ _ _ _ _)
      | (with_reducible exact ih1 _ _ _ _ _ _ _ _ _ _ _)
      | (with_reducible exact ih2 _ _ _ _ _ _ _ _ _ _ _ _)
      | (with_reducible exact ih3 _)
      | (with_reducible exact LeO.refl _)
      | (with_reducible exact LeO.none _)
      | (with_reducible refine LeO.ite ?_ ?_)
      | (with_reducible refine LeO.bind ?_ (fun _ => ?_))
      | exact ih0 _ _ _ _ _ _ _ _ _ _ _ _ _
      | exact ih1 _ _ _ _ _ _ _ _ _ _ _
      | exact ih2 _ _ _ _ _ _ _ _ _ _ _ _
      | exact ih3 _
      | exact LeO.none _
      | refine LeO.ite ?_ ?_
      | refine LeO.bind ?_ (fun _ => ?_)
set_option maxHeartbeats 8000000 in
set_option maxRecDepth 100000 in
theorem trivetref11_May.calls (k : Nat) (a0_0 : Int) (a0_1 : Int) (a0_2 : Int) (a0_3 : Int) (a0_4 : Int) (a0_5 : Int) (a0_6 : Int) (a0_7 : Int) (a0_8 : Int) (r : Bool) (w : World) (h : trivetref11_May.f k a0_0 a0_1 a0_2 a0_3 a0_4 a0_5 a0_6 a0_7 a0_8 = some r) :
    Calls Try.prog 14 #[.agg #[.int .i64 a0_0, .int .i64 a0_1, .int .i64 a0_2, .int .i64 a0_3, .int .i64 a0_4, .int .i64 a0_5, .int .i64 a0_6, .int .i64 a0_7, .int .i64 a0_8]] w fun e w' => e = .returned (.bool r) ∧ Below w.heap.size w w' := by
  have hu23 := Try.underlying23
  have hu56 := Try.underlying56
  have HB := Aside0.mk (Below.refl w.heap.size w)
  have H : ((trivetref04_Of_s.f a0_3).bind fun bt240 => (if bt240.2.2.2 = true then (if bt240.2.2.1 = 1 then (if a0_2 < 1 then (trivetref11_May.j0 k true a0_0 a0_1 a0_2 a0_3 a0_4 a0_5 a0_6 a0_7 a0_8 bt240.1 bt240.2.1 bt240.2.2.1) else (trivetref11_May.j0 k (decide (a0_2 > 480)) a0_0 a0_1 a0_2 a0_3 a0_4 a0_5 a0_6 a0_7 a0_8 bt240.1 bt240.2.1 bt240.2.2.1)) else (trivetref11_May.j0 k true a0_0 a0_1 a0_2 a0_3 a0_4 a0_5 a0_6 a0_7 a0_8 bt240.1 bt240.2.1 bt240.2.2.1)) else (trivetref11_May.j0 k true a0_0 a0_1 a0_2 a0_3 a0_4 a0_5 a0_6 a0_7 a0_8 bt240.1 bt240.2.1 bt240.2.2.1))) = some r := h
  clear h
  replace H := Option.bind_eq_some_iff.mp H
  obtain ⟨⟨t240, t241, t242, t243⟩, A20, H⟩ := H
  replace H : (if t243 = true then (if t242 = 1 then (if a0_2 < 1 then (trivetref11_May.j0 k true a0_0 a0_1 a0_2 a0_3 a0_4 a0_5 a0_6 a0_7 a0_8 t240 t241 t242) else (trivetref11_May.j0 k (decide (a0_2 > 480)) a0_0 a0_1 a0_2 a0_3 a0_4 a0_5 a0_6 a0_7 a0_8 t240 t241 t242)) else (trivetref11_May.j0 k true a0_0 a0_1 a0_2 a0_3 a0_4 a0_5 a0_6 a0_7 a0_8 t240 t241 t242)) else (trivetref11_May.j0 k true a0_0 a0_1 a0_2 a0_3 a0_4 a0_5 a0_6 a0_7 a0_8 t240 t241 t242)) = some r := H
  have A2 := Aside0.mk A20
  clear A20
  have HC3 := Aside0.mk H
  clear H
  go_enter Try.func14, Try.ntmps14
  go_upto_region 2 with (first | ((with_reducible refine gate_dst (N := 1) rfl ?_); refine box_event ?hg (N := 1) ?hd (cs := #[.int .i64 a0_0, .int .i64 a0_1, .int .i64 a0_2, .int .i64 a0_3, .int .i64 a0_4, .int .i64 a0_5, .int .i64 a0_6, .int .i64 a0_7, .int .i64 a0_8]) (t := 23) ?hr ?_; (case hd => rfl); (case hg => rfl); (case hr => first | (go_simp; done) | (go_simp; rfl)); intro gb239 hg w4 hbox hb; have n0_ := Aside0.mk (below_step (by repeat (first | (with_reducible first | exact HB.out | apply below_alloc | apply pw_below_drewN | apply below_drew1) | exact HB.out)) hb); have n1_ := Aside0.mk (hbox); have n2_ := Aside0.mk ((by rw [hg]; exact (below_size (by repeat (first | (with_reducible first | exact HB.out | apply below_alloc | apply pw_below_drewN | apply below_drew1) | exact HB.out))) : w.heap.size ≤ gb239)); have n3_ := Aside0.mk ((by rw [hg]; exact (below_size (by repeat (first | (with_reducible first | exact HB.out | apply below_alloc | apply pw_below_drewN | apply below_drew1) | exact HB.out))) : w.heap.size ≤ gb239)); clear HB; have HB := n0_; have BK239 := n1_; have GW239 := n2_; have GE239 := n3_; clear n0_ n1_ n2_ n3_; clear hb hbox hg; have hcz5_0 : w4.cell? ⟨gb239, 0, none⟩ = some (.int .i64 a0_0) := (blk_cell BK239.out 0).trans rfl; have hcz5_1 : w4.cell? ⟨gb239, 1, none⟩ = some (.int .i64 a0_1) := (blk_cell BK239.out 1).trans rfl; have hcz5_2 : w4.cell? ⟨gb239, 2, none⟩ = some (.int .i64 a0_2) := (blk_cell BK239.out 2).trans rfl; have hcz5_3 : w4.cell? ⟨gb239, 3, none⟩ = some (.int .i64 a0_3) := (blk_cell BK239.out 3).trans rfl; have hcz5_4 : w4.cell? ⟨gb239, 4, none⟩ = some (.int .i64 a0_4) := (blk_cell BK239.out 4).trans rfl; have hcz5_5 : w4.cell? ⟨gb239, 5, none⟩ = some (.int .i64 a0_5) := (blk_cell BK239.out 5).trans rfl; have hcz5_6 : w4.cell? ⟨gb239, 6, none⟩ = some (.int .i64 a0_6) := (blk_cell BK239.out 6).trans rfl; have hcz5_7 : w4.cell? ⟨gb239, 7, none⟩ = some (.int .i64 a0_7) := (blk_cell BK239.out 7).trans rfl; have hcz5_8 : w4.cell? ⟨gb239, 8, none⟩ = some (.int .i64 a0_8) := (blk_cell BK239.out 8).trans rfl; have hfz5_0 := blk_frozen BK239.out 0; have hfz5_1 := blk_frozen BK239.out 1; have hfz5_2 := blk_frozen BK239.out 2; have hfz5_3 := blk_frozen BK239.out 3; have hfz5_4 := blk_frozen BK239.out 4; have hfz5_5 := blk_frozen BK239.out 5; have hfz5_6 := blk_frozen BK239.out 6; have hfz5_7 := blk_frozen BK239.out 7; have hfz5_8 := blk_frozen BK239.out 8) | ((with_reducible refine gate_callee (f := 22) rfl ?_); refine goesL_ (some 12) rfl rfl Try.func22 (by kernel_rfl) rfl #[.int .i64 a0_3] rfl (by (try simp only [List.map_toArray, List.map_cons, List.map_nil]); first | done | rfl | (simp only [List.length_drop, List.length_take]; rfl)) ?_; (with_reducible refine (trivetref04_Of_s.calls a0_3 t240 t241 t242 t243 _ A2.out).mono ?_); rintro e w6 ⟨rfl, hb⟩; refine ⟨_, rfl, ?_⟩; have n0_ := Aside0.mk (blk_below (g := gb239) (o := .cells #[.int .i64 a0_0, .int .i64 a0_1, .int .i64 a0_2, .int .i64 a0_3, .int .i64 a0_4, .int .i64 a0_5, .int .i64 a0_6, .int .i64 a0_7, .int .i64 a0_8] 23 (0, 0)) (by (with_reducible repeat (first | refine blk_drewN ?_ _ | refine blk_drew ?_ | refine blk_alloc ?_ _)); exact BK239.out) hb); have n1_ := Aside0.mk (below_step (by repeat (first | (with_reducible first | exact HB.out | apply below_alloc | apply pw_below_drewN | apply below_drew1 | refine below_set ?_ GE239.out) | exact HB.out)) hb); clear BK239; clear HB; have BK239 := n0_; have HB := n1_; clear n0_ n1_; (try clear hb); (try clear hb2); (try clear hk); (try clear hi)) | ((with_reducible refine gate_dst (N := 3) rfl ?_); refine box_event ?hg (N := 3) ?hd (cs := #[.int .i64 0, .int .i64 0, .int .i64 0]) (t := 56) ?hr ?_; (case hd => rfl); (case hg => rfl); (case hr => first | (go_simp; done) | (go_simp; rfl)); intro gb244 hg w7 hbox hb; have n0_ := Aside0.mk (blk_below (g := gb239) (o := .cells #[.int .i64 a0_0, .int .i64 a0_1, .int .i64 a0_2, .int .i64 a0_3, .int .i64 a0_4, .int .i64 a0_5, .int .i64 a0_6, .int .i64 a0_7, .int .i64 a0_8] 23 (0, 0)) (by (with_reducible repeat (first | refine blk_drewN ?_ _ | refine blk_drew ?_ | refine blk_alloc ?_ _)); exact BK239.out) hb); have n1_ := Aside0.mk (below_step (by repeat (first | (with_reducible first | exact HB.out | apply below_alloc | apply pw_below_drewN | apply below_drew1 | refine below_set ?_ GE239.out) | exact HB.out)) hb); have n2_ := Aside0.mk (hbox); have n3_ := Aside0.mk ((by rw [hg]; exact (below_size (by repeat (first | (with_reducible first | exact HB.out | apply below_alloc | apply pw_below_drewN | apply below_drew1 | refine below_set ?_ GE239.out) | exact HB.out))) : w.heap.size ≤ gb244)); have n4_ := Aside0.mk ((by rw [hg]; exact (below_size (by repeat (first | (with_reducible first | exact HB.out | apply below_alloc | apply pw_below_drewN | apply below_drew1 | refine below_set ?_ GE239.out) | exact HB.out))) : w.heap.size ≤ gb244)); have n5_ := Aside0.mk ((by rw [hg]; exact Nat.ne_of_lt (blk_lt (g := gb239) (o := .cells #[.int .i64 a0_0, .int .i64 a0_1, .int .i64 a0_2, .int .i64 a0_3, .int .i64 a0_4, .int .i64 a0_5, .int .i64 a0_6, .int .i64 a0_7, .int .i64 a0_8] 23 (0, 0)) (by (with_reducible repeat (first | refine blk_drewN ?_ _ | refine blk_drew ?_ | refine blk_alloc ?_ _)); exact BK239.out)) : gb239 ≠ gb244)); have n6_ := Aside0.mk ((by rw [hg]; exact Nat.ne_of_gt (blk_lt (g := gb239) (o := .cells #[.int .i64 a0_0, .int .i64 a0_1, .int .i64 a0_2, .int .i64 a0_3, .int .i64 a0_4, .int .i64 a0_5, .int .i64 a0_6, .int .i64 a0_7, .int .i64 a0_8] 23 (0, 0)) (by (with_reducible repeat (first | refine blk_drewN ?_ _ | refine blk_drew ?_ | refine blk_alloc ?_ _)); exact BK239.out)) : gb244 ≠ gb239)); clear BK239; clear HB; have BK239 := n0_; have HB := n1_; have BK244 := n2_; have GW244 := n3_; have GE244 := n4_; have NB239_244 := n5_; have NB244_239 := n6_; clear n0_ n1_ n2_ n3_ n4_ n5_ n6_; clear hb hbox hg; have hnb8 := NB244_239.out; have hnc8 := NB239_244.out; have hcz9_0 : w7.cell? ⟨gb244, 0, none⟩ = some (.int .i64 0) := (blk_cell BK244.out 0).trans rfl; have hcz9_1 : w7.cell? ⟨gb244, 1, none⟩ = some (.int .i64 0) := (blk_cell BK244.out 1).trans rfl; have hcz9_2 : w7.cell? ⟨gb244, 2, none⟩ = some (.int .i64 0) := (blk_cell BK244.out 2).trans rfl; have hfz9_0 := blk_frozen BK244.out 0; have hfz9_1 := blk_frozen BK244.out 1; have hfz9_2 := blk_frozen BK244.out 2))
  (try simp only [Act.put, List.setIfInBounds_toArray, List.set_cons_zero, List.set_cons_succ])
  go_cut [31] (fun v31 wc => ∃ (kq : Nat) (x31_2 : Bool), v31 = .bool x31_2 ∧ Aside0 (trivetref11_May.j0 kq x31_2 a0_0 a0_1 a0_2 a0_3 a0_4 a0_5 a0_6 a0_7 a0_8 t240 t241 t242 = some r) ∧ Aside0 (kq ≤ k) ∧ Aside0 (wc.heap[gb239]? = some (.cells #[.int .i64 a0_0, .int .i64 a0_1, .int .i64 a0_2, .int .i64 a0_3, .int .i64 a0_4, .int .i64 a0_5, .int .i64 a0_6, .int .i64 a0_7, .int .i64 a0_8] 23 (0, 0))) ∧ Aside0 (wc.heap[gb244]? = some (.cells #[.int .i64 t240, .int .i64 t241, .int .i64 t242] 56 (0, 0))) ∧ Aside0 (Below w.heap.size w wc))
  case first =>
    have H := HC3.out
    clear HC3
    by_cases c10 : t243 = true
    · subst c10
      have H1 : (if t242 = 1 then (if a0_2 < 1 then (trivetref11_May.j0 k true a0_0 a0_1 a0_2 a0_3 a0_4 a0_5 a0_6 a0_7 a0_8 t240 t241 t242) else (trivetref11_May.j0 k (decide (a0_2 > 480)) a0_0 a0_1 a0_2 a0_3 a0_4 a0_5 a0_6 a0_7 a0_8 t240 t241 t242)) else (trivetref11_May.j0 k true a0_0 a0_1 a0_2 a0_3 a0_4 a0_5 a0_6 a0_7 a0_8 t240 t241 t242)) = some r := by rw [if_pos rfl] at H; exact H
      clear H
      have H := H1
      clear H1
      by_cases c11 : t242 = 1
      · rw [if_pos c11] at H
        have c11b0 : (t242 == 1) = true := beq_iff_eq.mpr c11
        have c11b1 : (t242 != 1) = false := bne_eq_false_iff_eq.mpr c11
        clear c11
        (first | rw [c11b0] | (simp only [i64_w, i32_w]; rw [c11b0]) | skip)
        by_cases c12 : a0_2 < 1
        · rw [if_pos c12] at H
          have c12b0 : decide (a0_2 < 1) = true := decide_eq_true c12
          clear c12
          have H' := Aside0.mk H
          clear H
          have hnb13 := NB244_239.out
          have hnc13 := NB239_244.out
          have hcz14_0 : w7.cell? ⟨gb244, 0, none⟩ = some (.int .i64 0) := (blk_cell BK244.out 0).trans rfl
          have hcz14_1 : w7.cell? ⟨gb244, 1, none⟩ = some (.int .i64 0) := (blk_cell BK244.out 1).trans rfl
          have hcz14_2 : w7.cell? ⟨gb244, 2, none⟩ = some (.int .i64 0) := (blk_cell BK244.out 2).trans rfl
          have hfz14_0 := blk_frozen BK244.out 0
          have hfz14_1 := blk_frozen BK244.out 1
          have hfz14_2 := blk_frozen BK244.out 2
          have hcz15_0 : w7.cell? ⟨gb239, 0, none⟩ = some (.int .i64 a0_0) := (blk_cell BK239.out 0).trans rfl
          have hcz15_1 : w7.cell? ⟨gb239, 1, none⟩ = some (.int .i64 a0_1) := (blk_cell BK239.out 1).trans rfl
          have hcz15_2 : w7.cell? ⟨gb239, 2, none⟩ = some (.int .i64 a0_2) := (blk_cell BK239.out 2).trans rfl
          have hcz15_3 : w7.cell? ⟨gb239, 3, none⟩ = some (.int .i64 a0_3) := (blk_cell BK239.out 3).trans rfl
          have hcz15_4 : w7.cell? ⟨gb239, 4, none⟩ = some (.int .i64 a0_4) := (blk_cell BK239.out 4).trans rfl
          have hcz15_5 : w7.cell? ⟨gb239, 5, none⟩ = some (.int .i64 a0_5) := (blk_cell BK239.out 5).trans rfl
          have hcz15_6 : w7.cell? ⟨gb239, 6, none⟩ = some (.int .i64 a0_6) := (blk_cell BK239.out 6).trans rfl
          have hcz15_7 : w7.cell? ⟨gb239, 7, none⟩ = some (.int .i64 a0_7) := (blk_cell BK239.out 7).trans rfl
          have hcz15_8 : w7.cell? ⟨gb239, 8, none⟩ = some (.int .i64 a0_8) := (blk_cell BK239.out 8).trans rfl
          have hfz15_0 := blk_frozen BK239.out 0
          have hfz15_1 := blk_frozen BK239.out 1
          have hfz15_2 := blk_frozen BK239.out 2
          have hfz15_3 := blk_frozen BK239.out 3
          have hfz15_4 := blk_frozen BK239.out 4
          have hfz15_5 := blk_frozen BK239.out 5
          have hfz15_6 := blk_frozen BK239.out 6
          have hfz15_7 := blk_frozen BK239.out 7
          have hfz15_8 := blk_frozen BK239.out 8
          go_wp2
          go_meet
          case rel => exact ⟨_, (true), (by first | rfl | (simp; done) | (simp [*]; done)), H', ⟨by first | omega | exact Nat.le_refl _⟩, ⟨by (with_reducible repeat (first | refine blk_drewN ?_ _ | refine blk_drew ?_ | refine blk_alloc ?_ _)); refine blk_far ?_ NB239_244.out _; (with_reducible repeat (first | refine blk_drewN ?_ _ | refine blk_drew ?_ | refine blk_alloc ?_ _)); refine blk_far ?_ NB239_244.out _; (with_reducible repeat (first | refine blk_drewN ?_ _ | refine blk_drew ?_ | refine blk_alloc ?_ _)); refine blk_far ?_ NB239_244.out _; (with_reducible repeat (first | refine blk_drewN ?_ _ | refine blk_drew ?_ | refine blk_alloc ?_ _)); exact BK239.out⟩, ⟨by (with_reducible repeat (first | refine blk_drewN ?_ _ | refine blk_drew ?_ | refine blk_alloc ?_ _)); refine blk_put (cs := #[.int .i64 t240, .int .i64 t241, .int .i64 0]) ?_ 2 _ rfl; (with_reducible repeat (first | refine blk_drewN ?_ _ | refine blk_drew ?_ | refine blk_alloc ?_ _)); refine blk_put (cs := #[.int .i64 t240, .int .i64 0, .int .i64 0]) ?_ 1 _ rfl; (with_reducible repeat (first | refine blk_drewN ?_ _ | refine blk_drew ?_ | refine blk_alloc ?_ _)); refine blk_put (cs := #[.int .i64 0, .int .i64 0, .int .i64 0]) ?_ 0 _ rfl; (with_reducible repeat (first | refine blk_drewN ?_ _ | refine blk_drew ?_ | refine blk_alloc ?_ _)); exact BK244.out⟩, ⟨by repeat (first | (with_reducible first | exact HB.out | apply below_alloc | apply pw_below_drewN | apply below_drew1 | refine below_set ?_ GE239.out | refine below_set ?_ GE244.out) | exact HB.out)⟩⟩
        · rw [if_neg c12] at H
          have c12b0 : decide (a0_2 < 1) = false := decide_eq_false c12
          clear c12
          have H' := Aside0.mk H
          clear H
          have hnb16 := NB244_239.out
          have hnc16 := NB239_244.out
          have hcz17_0 : w7.cell? ⟨gb244, 0, none⟩ = some (.int .i64 0) := (blk_cell BK244.out 0).trans rfl
          have hcz17_1 : w7.cell? ⟨gb244, 1, none⟩ = some (.int .i64 0) := (blk_cell BK244.out 1).trans rfl
          have hcz17_2 : w7.cell? ⟨gb244, 2, none⟩ = some (.int .i64 0) := (blk_cell BK244.out 2).trans rfl
          have hfz17_0 := blk_frozen BK244.out 0
          have hfz17_1 := blk_frozen BK244.out 1
          have hfz17_2 := blk_frozen BK244.out 2
          have hcz18_0 : w7.cell? ⟨gb239, 0, none⟩ = some (.int .i64 a0_0) := (blk_cell BK239.out 0).trans rfl
          have hcz18_1 : w7.cell? ⟨gb239, 1, none⟩ = some (.int .i64 a0_1) := (blk_cell BK239.out 1).trans rfl
          have hcz18_2 : w7.cell? ⟨gb239, 2, none⟩ = some (.int .i64 a0_2) := (blk_cell BK239.out 2).trans rfl
          have hcz18_3 : w7.cell? ⟨gb239, 3, none⟩ = some (.int .i64 a0_3) := (blk_cell BK239.out 3).trans rfl
          have hcz18_4 : w7.cell? ⟨gb239, 4, none⟩ = some (.int .i64 a0_4) := (blk_cell BK239.out 4).trans rfl
          have hcz18_5 : w7.cell? ⟨gb239, 5, none⟩ = some (.int .i64 a0_5) := (blk_cell BK239.out 5).trans rfl
          have hcz18_6 : w7.cell? ⟨gb239, 6, none⟩ = some (.int .i64 a0_6) := (blk_cell BK239.out 6).trans rfl
          have hcz18_7 : w7.cell? ⟨gb239, 7, none⟩ = some (.int .i64 a0_7) := (blk_cell BK239.out 7).trans rfl
          have hcz18_8 : w7.cell? ⟨gb239, 8, none⟩ = some (.int .i64 a0_8) := (blk_cell BK239.out 8).trans rfl
          have hfz18_0 := blk_frozen BK239.out 0
          have hfz18_1 := blk_frozen BK239.out 1
          have hfz18_2 := blk_frozen BK239.out 2
          have hfz18_3 := blk_frozen BK239.out 3
          have hfz18_4 := blk_frozen BK239.out 4
          have hfz18_5 := blk_frozen BK239.out 5
          have hfz18_6 := blk_frozen BK239.out 6
          have hfz18_7 := blk_frozen BK239.out 7
          have hfz18_8 := blk_frozen BK239.out 8
          go_wp2
          go_meet
          case rel => exact ⟨_, (decide (a0_2 > 480)), (by first | rfl | (simp; done) | (simp [*]; done)), H', ⟨by first | omega | exact Nat.le_refl _⟩, ⟨by (with_reducible repeat (first | refine blk_drewN ?_ _ | refine blk_drew ?_ | refine blk_alloc ?_ _)); refine blk_far ?_ NB239_244.out _; (with_reducible repeat (first | refine blk_drewN ?_ _ | refine blk_drew ?_ | refine blk_alloc ?_ _)); refine blk_far ?_ NB239_244.out _; (with_reducible repeat (first | refine blk_drewN ?_ _ | refine blk_drew ?_ | refine blk_alloc ?_ _)); refine blk_far ?_ NB239_244.out _; (with_reducible repeat (first | refine blk_drewN ?_ _ | refine blk_drew ?_ | refine blk_alloc ?_ _)); exact BK239.out⟩, ⟨by (with_reducible repeat (first | refine blk_drewN ?_ _ | refine blk_drew ?_ | refine blk_alloc ?_ _)); refine blk_put (cs := #[.int .i64 t240, .int .i64 t241, .int .i64 0]) ?_ 2 _ rfl; (with_reducible repeat (first | refine blk_drewN ?_ _ | refine blk_drew ?_ | refine blk_alloc ?_ _)); refine blk_put (cs := #[.int .i64 t240, .int .i64 0, .int .i64 0]) ?_ 1 _ rfl; (with_reducible repeat (first | refine blk_drewN ?_ _ | refine blk_drew ?_ | refine blk_alloc ?_ _)); refine blk_put (cs := #[.int .i64 0, .int .i64 0, .int .i64 0]) ?_ 0 _ rfl; (with_reducible repeat (first | refine blk_drewN ?_ _ | refine blk_drew ?_ | refine blk_alloc ?_ _)); exact BK244.out⟩, ⟨by repeat (first | (with_reducible first | exact HB.out | apply below_alloc | apply pw_below_drewN | apply below_drew1 | refine below_set ?_ GE239.out | refine below_set ?_ GE244.out) | exact HB.out)⟩⟩
      · rw [if_neg c11] at H
        have c11b0 : (t242 == 1) = false := beq_eq_false_iff_ne.mpr c11
        have c11b1 : (t242 != 1) = true := bne_iff_ne.mpr c11
        (first | rw [c11b0] | (simp only [i64_w, i32_w]; rw [c11b0]) | skip)
        have H' := Aside0.mk H
        clear H
        have hnb19 := NB244_239.out
        have hnc19 := NB239_244.out
        have hcz20_0 : w7.cell? ⟨gb244, 0, none⟩ = some (.int .i64 0) := (blk_cell BK244.out 0).trans rfl
        have hcz20_1 : w7.cell? ⟨gb244, 1, none⟩ = some (.int .i64 0) := (blk_cell BK244.out 1).trans rfl
        have hcz20_2 : w7.cell? ⟨gb244, 2, none⟩ = some (.int .i64 0) := (blk_cell BK244.out 2).trans rfl
        have hfz20_0 := blk_frozen BK244.out 0
        have hfz20_1 := blk_frozen BK244.out 1
        have hfz20_2 := blk_frozen BK244.out 2
        go_wp2
        go_meet
        case rel => exact ⟨_, (true), (by first | rfl | (simp; done) | (simp [*]; done)), H', ⟨by first | omega | exact Nat.le_refl _⟩, ⟨by (with_reducible repeat (first | refine blk_drewN ?_ _ | refine blk_drew ?_ | refine blk_alloc ?_ _)); refine blk_far ?_ NB239_244.out _; (with_reducible repeat (first | refine blk_drewN ?_ _ | refine blk_drew ?_ | refine blk_alloc ?_ _)); refine blk_far ?_ NB239_244.out _; (with_reducible repeat (first | refine blk_drewN ?_ _ | refine blk_drew ?_ | refine blk_alloc ?_ _)); refine blk_far ?_ NB239_244.out _; (with_reducible repeat (first | refine blk_drewN ?_ _ | refine blk_drew ?_ | refine blk_alloc ?_ _)); exact BK239.out⟩, ⟨by (with_reducible repeat (first | refine blk_drewN ?_ _ | refine blk_drew ?_ | refine blk_alloc ?_ _)); refine blk_put (cs := #[.int .i64 t240, .int .i64 t241, .int .i64 0]) ?_ 2 _ rfl; (with_reducible repeat (first | refine blk_drewN ?_ _ | refine blk_drew ?_ | refine blk_alloc ?_ _)); refine blk_put (cs := #[.int .i64 t240, .int .i64 0, .int .i64 0]) ?_ 1 _ rfl; (with_reducible repeat (first | refine blk_drewN ?_ _ | refine blk_drew ?_ | refine blk_alloc ?_ _)); refine blk_put (cs := #[.int .i64 0, .int .i64 0, .int .i64 0]) ?_ 0 _ rfl; (with_reducible repeat (first | refine blk_drewN ?_ _ | refine blk_drew ?_ | refine blk_alloc ?_ _)); exact BK244.out⟩, ⟨by repeat (first | (with_reducible first | exact HB.out | apply below_alloc | apply pw_below_drewN | apply below_drew1 | refine below_set ?_ GE239.out | refine below_set ?_ GE244.out) | exact HB.out)⟩⟩
    · replace c10 := Bool.eq_false_iff.mpr c10
      subst c10
      have H1 : (trivetref11_May.j0 k true a0_0 a0_1 a0_2 a0_3 a0_4 a0_5 a0_6 a0_7 a0_8 t240 t241 t242) = some r := by rw [if_neg (show ¬ (false = true) by decide)] at H; exact H
      clear H
      have H := H1
      clear H1
      have H' := Aside0.mk H
      clear H
      go_wp2
      go_meet
      case rel => exact ⟨_, (true), (by first | rfl | (simp; done) | (simp [*]; done)), H', ⟨by first | omega | exact Nat.le_refl _⟩, ⟨by (with_reducible repeat (first | refine blk_drewN ?_ _ | refine blk_drew ?_ | refine blk_alloc ?_ _)); refine blk_far ?_ NB239_244.out _; (with_reducible repeat (first | refine blk_drewN ?_ _ | refine blk_drew ?_ | refine blk_alloc ?_ _)); refine blk_far ?_ NB239_244.out _; (with_reducible repeat (first | refine blk_drewN ?_ _ | refine blk_drew ?_ | refine blk_alloc ?_ _)); refine blk_far ?_ NB239_244.out _; (with_reducible repeat (first | refine blk_drewN ?_ _ | refine blk_drew ?_ | refine blk_alloc ?_ _)); exact BK239.out⟩, ⟨by (with_reducible repeat (first | refine blk_drewN ?_ _ | refine blk_drew ?_ | refine blk_alloc ?_ _)); refine blk_put (cs := #[.int .i64 t240, .int .i64 t241, .int .i64 0]) ?_ 2 _ rfl; (with_reducible repeat (first | refine blk_drewN ?_ _ | refine blk_drew ?_ | refine blk_alloc ?_ _)); refine blk_put (cs := #[.int .i64 t240, .int .i64 0, .int .i64 0]) ?_ 1 _ rfl; (with_reducible repeat (first | refine blk_drewN ?_ _ | refine blk_drew ?_ | refine blk_alloc ?_ _)); refine blk_put (cs := #[.int .i64 0, .int .i64 0, .int .i64 0]) ?_ 0 _ rfl; (with_reducible repeat (first | refine blk_drewN ?_ _ | refine blk_drew ?_ | refine blk_alloc ?_ _)); exact BK244.out⟩, ⟨by repeat (first | (with_reducible first | exact HB.out | apply below_alloc | apply pw_below_drewN | apply below_drew1 | refine below_set ?_ GE239.out | refine below_set ?_ GE244.out) | exact HB.out)⟩⟩
  case rest =>
    clear HC3
    try clear c1
    try clear c2
    try clear p2
    try clear c8
    try clear c10
    try clear c11
    try clear c11b0
    try clear c11b1
    try clear c12
    try clear c12b0
    try clear c13
    try clear c14
    try clear c16
    try clear c19
    try clear hcz14_0
    try clear hcz14_1
    try clear hcz14_2
    try clear hcz15_0
    try clear hcz15_1
    try clear hcz15_2
    try clear hcz15_3
    try clear hcz15_4
    try clear hcz15_5
    try clear hcz15_6
    try clear hcz15_7
    try clear hcz15_8
    try clear hcz17_0
    try clear hcz17_1
    try clear hcz17_2
    try clear hcz18_0
    try clear hcz18_1
    try clear hcz18_2
    try clear hcz18_3
    try clear hcz18_4
    try clear hcz18_5
    try clear hcz18_6
    try clear hcz18_7
    try clear hcz18_8
    try clear hcz20_0
    try clear hcz20_1
    try clear hcz20_2
    try clear hcz5_0
    try clear hcz5_1
    try clear hcz5_2
    try clear hcz5_3
    try clear hcz5_4
    try clear hcz5_5
    try clear hcz5_6
    try clear hcz5_7
    try clear hcz5_8
    try clear hcz9_0
    try clear hcz9_1
    try clear hcz9_2
    try clear hfz14_0
    try clear hfz14_1
    try clear hfz14_2
    try clear hfz15_0
    try clear hfz15_1
    try clear hfz15_2
    try clear hfz15_3
    try clear hfz15_4
    try clear hfz15_5
    try clear hfz15_6
    try clear hfz15_7
    try clear hfz15_8
    try clear hfz17_0
    try clear hfz17_1
    try clear hfz17_2
    try clear hfz18_0
    try clear hfz18_1
    try clear hfz18_2
    try clear hfz18_3
    try clear hfz18_4
    try clear hfz18_5
    try clear hfz18_6
    try clear hfz18_7
    try clear hfz18_8
    try clear hfz20_0
    try clear hfz20_1
    try clear hfz20_2
    try clear hfz5_0
    try clear hfz5_1
    try clear hfz5_2
    try clear hfz5_3
    try clear hfz5_4
    try clear hfz5_5
    try clear hfz5_6
    try clear hfz5_7
    try clear hfz5_8
    try clear hfz9_0
    try clear hfz9_1
    try clear hfz9_2
    obtain ⟨kq, x31_2, rfl, HA, HJ2, BK239, BK244, HB⟩ := hcut
    cases kq with
    | zero => exact absurd HA.out (by simp [trivetref11_May.j0])
    | succ kj2 =>
      have H := HA.out
      clear HA
      simp only [trivetref11_May.j0] at H
      by_cases c21 : x31_2 = true
      · subst c21
        have H1 : (some false) = some r := by rw [if_pos rfl] at H; exact H
        clear H
        have H := H1
        clear H1
        obtain rfl := Option.some.inj H
        go_wp2
        go_ret
        exact ⟨by first | rfl | (simp [errW_none, errW_some] <;> rfl) | (simp [*, errW_none, errW_some] <;> rfl), by repeat (first | (with_reducible first | exact HB.out | apply below_alloc | apply pw_below_drewN | apply below_drew1 | refine below_set ?_ GE239.out | refine below_set ?_ GE244.out) | exact HB.out)⟩
      · replace c21 := Bool.eq_false_iff.mpr c21
        subst c21
        have H1 : ((trivetref04_Months_s.f t240 t241 t242 a0_2).bind fun bt245 => (if a0_0 ≥ 1 then (if a0_0 ≤ 10000000000000 then (if a0_4 ≥ 0 then (trivetref11_May.j1 kj2 bt245.2.2.2 (decide (a0_4 ≤ 10000000000000)) a0_0 a0_1 a0_2 a0_3 a0_4 a0_5 a0_6 a0_7 a0_8) else (trivetref11_May.j1 kj2 bt245.2.2.2 false a0_0 a0_1 a0_2 a0_3 a0_4 a0_5 a0_6 a0_7 a0_8)) else (trivetref11_May.j1 kj2 bt245.2.2.2 false a0_0 a0_1 a0_2 a0_3 a0_4 a0_5 a0_6 a0_7 a0_8)) else (trivetref11_May.j1 kj2 bt245.2.2.2 false a0_0 a0_1 a0_2 a0_3 a0_4 a0_5 a0_6 a0_7 a0_8))) = some r := by rw [if_neg (show ¬ (false = true) by decide)] at H; exact H
        clear H
        have H := H1
        clear H1
        replace H := Option.bind_eq_some_iff.mp H
        obtain ⟨⟨t245, t246, t247, t248⟩, A220, H⟩ := H
        replace H : (if a0_0 ≥ 1 then (if a0_0 ≤ 10000000000000 then (if a0_4 ≥ 0 then (trivetref11_May.j1 kj2 t248 (decide (a0_4 ≤ 10000000000000)) a0_0 a0_1 a0_2 a0_3 a0_4 a0_5 a0_6 a0_7 a0_8) else (trivetref11_May.j1 kj2 t248 false a0_0 a0_1 a0_2 a0_3 a0_4 a0_5 a0_6 a0_7 a0_8)) else (trivetref11_May.j1 kj2 t248 false a0_0 a0_1 a0_2 a0_3 a0_4 a0_5 a0_6 a0_7 a0_8)) else (trivetref11_May.j1 kj2 t248 false a0_0 a0_1 a0_2 a0_3 a0_4 a0_5 a0_6 a0_7 a0_8)) = some r := H
        have A22 := Aside0.mk A220
        clear A220
        have HC23 := Aside0.mk H
        clear H
        have hnb24 := NB244_239.out
        have hnc24 := NB239_244.out
        have hcz25_0 : wc.cell? ⟨gb244, 0, none⟩ = some (.int .i64 t240) := (blk_cell BK244.out 0).trans rfl
        have hcz25_1 : wc.cell? ⟨gb244, 1, none⟩ = some (.int .i64 t241) := (blk_cell BK244.out 1).trans rfl
        have hcz25_2 : wc.cell? ⟨gb244, 2, none⟩ = some (.int .i64 t242) := (blk_cell BK244.out 2).trans rfl
        have hfz25_0 := blk_frozen BK244.out 0
        have hfz25_1 := blk_frozen BK244.out 1
        have hfz25_2 := blk_frozen BK244.out 2
        have hcz26_0 : wc.cell? ⟨gb239, 0, none⟩ = some (.int .i64 a0_0) := (blk_cell BK239.out 0).trans rfl
        have hcz26_1 : wc.cell? ⟨gb239, 1, none⟩ = some (.int .i64 a0_1) := (blk_cell BK239.out 1).trans rfl
        have hcz26_2 : wc.cell? ⟨gb239, 2, none⟩ = some (.int .i64 a0_2) := (blk_cell BK239.out 2).trans rfl
        have hcz26_3 : wc.cell? ⟨gb239, 3, none⟩ = some (.int .i64 a0_3) := (blk_cell BK239.out 3).trans rfl
        have hcz26_4 : wc.cell? ⟨gb239, 4, none⟩ = some (.int .i64 a0_4) := (blk_cell BK239.out 4).trans rfl
        have hcz26_5 : wc.cell? ⟨gb239, 5, none⟩ = some (.int .i64 a0_5) := (blk_cell BK239.out 5).trans rfl
        have hcz26_6 : wc.cell? ⟨gb239, 6, none⟩ = some (.int .i64 a0_6) := (blk_cell BK239.out 6).trans rfl
        have hcz26_7 : wc.cell? ⟨gb239, 7, none⟩ = some (.int .i64 a0_7) := (blk_cell BK239.out 7).trans rfl
        have hcz26_8 : wc.cell? ⟨gb239, 8, none⟩ = some (.int .i64 a0_8) := (blk_cell BK239.out 8).trans rfl
        have hfz26_0 := blk_frozen BK239.out 0
        have hfz26_1 := blk_frozen BK239.out 1
        have hfz26_2 := blk_frozen BK239.out 2
        have hfz26_3 := blk_frozen BK239.out 3
        have hfz26_4 := blk_frozen BK239.out 4
        have hfz26_5 := blk_frozen BK239.out 5
        have hfz26_6 := blk_frozen BK239.out 6
        have hfz26_7 := blk_frozen BK239.out 7
        have hfz26_8 := blk_frozen BK239.out 8
        go_upto_region 5 with (first | ((with_reducible refine gate_callee (f := 23) rfl ?_); refine goesL_ (some 36) rfl rfl Try.func23 (by kernel_rfl) rfl #[.agg #[.int .i64 t240, .int .i64 t241, .int .i64 t242], .int .i64 a0_2] rfl (by (try simp only [List.map_toArray, List.map_cons, List.map_nil]); first | done | rfl | (simp only [List.length_drop, List.length_take]; rfl)) ?_; (with_reducible refine (trivetref04_Months_s.calls t240 t241 t242 a0_2 t245 t246 t247 t248 _ A22.out).mono ?_); rintro e w27 ⟨rfl, hb⟩; refine ⟨_, rfl, ?_⟩; have n0_ := Aside0.mk (blk_below (g := gb239) (o := .cells #[.int .i64 a0_0, .int .i64 a0_1, .int .i64 a0_2, .int .i64 a0_3, .int .i64 a0_4, .int .i64 a0_5, .int .i64 a0_6, .int .i64 a0_7, .int .i64 a0_8] 23 (0, 0)) (by (with_reducible repeat (first | refine blk_drewN ?_ _ | refine blk_drew ?_ | refine blk_alloc ?_ _)); exact BK239.out) hb); have n1_ := Aside0.mk (blk_below (g := gb244) (o := .cells #[.int .i64 t240, .int .i64 t241, .int .i64 t242] 56 (0, 0)) (by (with_reducible repeat (first | refine blk_drewN ?_ _ | refine blk_drew ?_ | refine blk_alloc ?_ _)); exact BK244.out) hb); have n2_ := Aside0.mk (below_step (by repeat (first | (with_reducible first | exact HB.out | apply below_alloc | apply pw_below_drewN | apply below_drew1 | refine below_set ?_ GE239.out | refine below_set ?_ GE244.out) | exact HB.out)) hb); clear BK239; clear BK244; clear HB; have BK239 := n0_; have BK244 := n1_; have HB := n2_; clear n0_ n1_ n2_; (try clear hb); (try clear hb2); (try clear hk); (try clear hi)) | ((with_reducible refine gate_dst (N := 5) rfl ?_); refine box_event ?hg (N := 5) ?hd (cs := #[.int .i64 0, .int .i64 0, .int .i64 0]) (t := 56) ?hr ?_; (case hd => rfl); (case hg => rfl); (case hr => first | (go_simp; done) | (go_simp; rfl)); intro gb249 hg w28 hbox hb; have n0_ := Aside0.mk (blk_below (g := gb239) (o := .cells #[.int .i64 a0_0, .int .i64 a0_1, .int .i64 a0_2, .int .i64 a0_3, .int .i64 a0_4, .int .i64 a0_5, .int .i64 a0_6, .int .i64 a0_7, .int .i64 a0_8] 23 (0, 0)) (by (with_reducible repeat (first | refine blk_drewN ?_ _ | refine blk_drew ?_ | refine blk_alloc ?_ _)); exact BK239.out) hb); have n1_ := Aside0.mk (blk_below (g := gb244) (o := .cells #[.int .i64 t240, .int .i64 t241, .int .i64 t242] 56 (0, 0)) (by (with_reducible repeat (first | refine blk_drewN ?_ _ | refine blk_drew ?_ | refine blk_alloc ?_ _)); exact BK244.out) hb); have n2_ := Aside0.mk (below_step (by repeat (first | (with_reducible first | exact HB.out | apply below_alloc | apply pw_below_drewN | apply below_drew1 | refine below_set ?_ GE239.out | refine below_set ?_ GE244.out) | exact HB.out)) hb); have n3_ := Aside0.mk (hbox); have n4_ := Aside0.mk ((by rw [hg]; exact (below_size (by repeat (first | (with_reducible first | exact HB.out | apply below_alloc | apply pw_below_drewN | apply below_drew1 | refine below_set ?_ GE239.out | refine below_set ?_ GE244.out) | exact HB.out))) : w.heap.size ≤ gb249)); have n5_ := Aside0.mk ((by rw [hg]; exact (below_size (by repeat (first | (with_reducible first | exact HB.out | apply below_alloc | apply pw_below_drewN | apply below_drew1 | refine below_set ?_ GE239.out | refine below_set ?_ GE244.out) | exact HB.out))) : w.heap.size ≤ gb249)); have n6_ := Aside0.mk ((by rw [hg]; exact Nat.ne_of_lt (blk_lt (g := gb239) (o := .cells #[.int .i64 a0_0, .int .i64 a0_1, .int .i64 a0_2, .int .i64 a0_3, .int .i64 a0_4, .int .i64 a0_5, .int .i64 a0_6, .int .i64 a0_7, .int .i64 a0_8] 23 (0, 0)) (by (with_reducible repeat (first | refine blk_drewN ?_ _ | refine blk_drew ?_ | refine blk_alloc ?_ _)); exact BK239.out)) : gb239 ≠ gb249)); have n7_ := Aside0.mk ((by rw [hg]; exact Nat.ne_of_gt (blk_lt (g := gb239) (o := .cells #[.int .i64 a0_0, .int .i64 a0_1, .int .i64 a0_2, .int .i64 a0_3, .int .i64 a0_4, .int .i64 a0_5, .int .i64 a0_6, .int .i64 a0_7, .int .i64 a0_8] 23 (0, 0)) (by (with_reducible repeat (first | refine blk_drewN ?_ _ | refine blk_drew ?_ | refine blk_alloc ?_ _)); exact BK239.out)) : gb249 ≠ gb239)); have n8_ := Aside0.mk ((by rw [hg]; exact Nat.ne_of_lt (blk_lt (g := gb244) (o := .cells #[.int .i64 t240, .int .i64 t241, .int .i64 t242] 56 (0, 0)) (by (with_reducible repeat (first | refine blk_drewN ?_ _ | refine blk_drew ?_ | refine blk_alloc ?_ _)); exact BK244.out)) : gb244 ≠ gb249)); have n9_ := Aside0.mk ((by rw [hg]; exact Nat.ne_of_gt (blk_lt (g := gb244) (o := .cells #[.int .i64 t240, .int .i64 t241, .int .i64 t242] 56 (0, 0)) (by (with_reducible repeat (first | refine blk_drewN ?_ _ | refine blk_drew ?_ | refine blk_alloc ?_ _)); exact BK244.out)) : gb249 ≠ gb244)); clear BK239; clear BK244; clear HB; have BK239 := n0_; have BK244 := n1_; have HB := n2_; have BK249 := n3_; have GW249 := n4_; have GE249 := n5_; have NB239_249 := n6_; have NB249_239 := n7_; have NB244_249 := n8_; have NB249_244 := n9_; clear n0_ n1_ n2_ n3_ n4_ n5_ n6_ n7_ n8_ n9_; clear hb hbox hg; have hnb29 := NB249_239.out; have hnc29 := NB239_249.out; have hnb30 := NB249_244.out; have hnc30 := NB244_249.out; have hcz31_0 : w28.cell? ⟨gb249, 0, none⟩ = some (.int .i64 0) := (blk_cell BK249.out 0).trans rfl; have hcz31_1 : w28.cell? ⟨gb249, 1, none⟩ = some (.int .i64 0) := (blk_cell BK249.out 1).trans rfl; have hcz31_2 : w28.cell? ⟨gb249, 2, none⟩ = some (.int .i64 0) := (blk_cell BK249.out 2).trans rfl; have hfz31_0 := blk_frozen BK249.out 0; have hfz31_1 := blk_frozen BK249.out 1; have hfz31_2 := blk_frozen BK249.out 2))
        (try simp only [Act.put, List.setIfInBounds_toArray, List.set_cons_zero, List.set_cons_succ])
        go_cut [7] (fun v7 wc => ∃ (kq : Nat) (x7_22 : Bool), v7 = .bool x7_22 ∧ Aside0 (trivetref11_May.j1 kq t248 x7_22 a0_0 a0_1 a0_2 a0_3 a0_4 a0_5 a0_6 a0_7 a0_8 = some r) ∧ Aside0 (kq ≤ kj2) ∧ Aside0 (wc.heap[gb239]? = some (.cells #[.int .i64 a0_0, .int .i64 a0_1, .int .i64 a0_2, .int .i64 a0_3, .int .i64 a0_4, .int .i64 a0_5, .int .i64 a0_6, .int .i64 a0_7, .int .i64 a0_8] 23 (0, 0))) ∧ Aside0 (wc.heap[gb244]? = some (.cells #[.int .i64 t240, .int .i64 t241, .int .i64 t242] 56 (0, 0))) ∧ Aside0 (wc.heap[gb249]? = some (.cells #[.int .i64 t245, .int .i64 t246, .int .i64 t247] 56 (0, 0))) ∧ Aside0 (Below w.heap.size w wc))
        case first =>
          have H := HC23.out
          clear HC23
          by_cases c32 : a0_0 ≥ 1
          · rw [if_pos c32] at H
            have c32b0 : decide (1 ≤ a0_0) = true := decide_eq_true c32
            clear c32
            (first | rw [c32b0] | (simp only [i64_w, i32_w]; rw [c32b0]) | skip)
            by_cases c33 : a0_0 ≤ 10000000000000
            · rw [if_pos c33] at H
              have c33b0 : decide (a0_0 ≤ 10000000000000) = true := decide_eq_true c33
              clear c33
              by_cases c34 : a0_4 ≥ 0
              · rw [if_pos c34] at H
                have c34b0 : decide (0 ≤ a0_4) = true := decide_eq_true c34
                clear c34
                have H' := Aside0.mk H
                clear H
                have hnb35 := NB239_244.out
                have hnc35 := NB244_239.out
                have hnb36 := NB239_249.out
                have hnc36 := NB249_239.out
                have hcz37_0 : w28.cell? ⟨gb239, 0, none⟩ = some (.int .i64 a0_0) := (blk_cell BK239.out 0).trans rfl
                have hcz37_1 : w28.cell? ⟨gb239, 1, none⟩ = some (.int .i64 a0_1) := (blk_cell BK239.out 1).trans rfl
                have hcz37_2 : w28.cell? ⟨gb239, 2, none⟩ = some (.int .i64 a0_2) := (blk_cell BK239.out 2).trans rfl
                have hcz37_3 : w28.cell? ⟨gb239, 3, none⟩ = some (.int .i64 a0_3) := (blk_cell BK239.out 3).trans rfl
                have hcz37_4 : w28.cell? ⟨gb239, 4, none⟩ = some (.int .i64 a0_4) := (blk_cell BK239.out 4).trans rfl
                have hcz37_5 : w28.cell? ⟨gb239, 5, none⟩ = some (.int .i64 a0_5) := (blk_cell BK239.out 5).trans rfl
                have hcz37_6 : w28.cell? ⟨gb239, 6, none⟩ = some (.int .i64 a0_6) := (blk_cell BK239.out 6).trans rfl
                have hcz37_7 : w28.cell? ⟨gb239, 7, none⟩ = some (.int .i64 a0_7) := (blk_cell BK239.out 7).trans rfl
                have hcz37_8 : w28.cell? ⟨gb239, 8, none⟩ = some (.int .i64 a0_8) := (blk_cell BK239.out 8).trans rfl
                have hfz37_0 := blk_frozen BK239.out 0
                have hfz37_1 := blk_frozen BK239.out 1
                have hfz37_2 := blk_frozen BK239.out 2
                have hfz37_3 := blk_frozen BK239.out 3
                have hfz37_4 := blk_frozen BK239.out 4
                have hfz37_5 := blk_frozen BK239.out 5
                have hfz37_6 := blk_frozen BK239.out 6
                have hfz37_7 := blk_frozen BK239.out 7
                have hfz37_8 := blk_frozen BK239.out 8
                go_wp2
                go_meet
                case rel => exact ⟨_, (decide (a0_4 ≤ 10000000000000)), (by first | rfl | (simp; done) | (simp [*]; done)), H', ⟨by have := HJ2.out; first | omega | exact Nat.le_refl _⟩, ⟨by (with_reducible repeat (first | refine blk_drewN ?_ _ | refine blk_drew ?_ | refine blk_alloc ?_ _)); refine blk_far ?_ NB239_249.out _; (with_reducible repeat (first | refine blk_drewN ?_ _ | refine blk_drew ?_ | refine blk_alloc ?_ _)); refine blk_far ?_ NB239_249.out _; (with_reducible repeat (first | refine blk_drewN ?_ _ | refine blk_drew ?_ | refine blk_alloc ?_ _)); refine blk_far ?_ NB239_249.out _; (with_reducible repeat (first | refine blk_drewN ?_ _ | refine blk_drew ?_ | refine blk_alloc ?_ _)); exact BK239.out⟩, ⟨by (with_reducible repeat (first | refine blk_drewN ?_ _ | refine blk_drew ?_ | refine blk_alloc ?_ _)); refine blk_far ?_ NB244_249.out _; (with_reducible repeat (first | refine blk_drewN ?_ _ | refine blk_drew ?_ | refine blk_alloc ?_ _)); refine blk_far ?_ NB244_249.out _; (with_reducible repeat (first | refine blk_drewN ?_ _ | refine blk_drew ?_ | refine blk_alloc ?_ _)); refine blk_far ?_ NB244_249.out _; (with_reducible repeat (first | refine blk_drewN ?_ _ | refine blk_drew ?_ | refine blk_alloc ?_ _)); exact BK244.out⟩, ⟨by (with_reducible repeat (first | refine blk_drewN ?_ _ | refine blk_drew ?_ | refine blk_alloc ?_ _)); refine blk_put (cs := #[.int .i64 t245, .int .i64 t246, .int .i64 0]) ?_ 2 _ rfl; (with_reducible repeat (first | refine blk_drewN ?_ _ | refine blk_drew ?_ | refine blk_alloc ?_ _)); refine blk_put (cs := #[.int .i64 t245, .int .i64 0, .int .i64 0]) ?_ 1 _ rfl; (with_reducible repeat (first | refine blk_drewN ?_ _ | refine blk_drew ?_ | refine blk_alloc ?_ _)); refine blk_put (cs := #[.int .i64 0, .int .i64 0, .int .i64 0]) ?_ 0 _ rfl; (with_reducible repeat (first | refine blk_drewN ?_ _ | refine blk_drew ?_ | refine blk_alloc ?_ _)); exact BK249.out⟩, ⟨by repeat (first | (with_reducible first | exact HB.out | apply below_alloc | apply pw_below_drewN | apply below_drew1 | refine below_set ?_ GE239.out | refine below_set ?_ GE244.out | refine below_set ?_ GE249.out) | exact HB.out)⟩⟩
              · rw [if_neg c34] at H
                have c34b0 : decide (0 ≤ a0_4) = false := decide_eq_false c34
                clear c34
                have H' := Aside0.mk H
                clear H
                have hnb38 := NB239_244.out
                have hnc38 := NB244_239.out
                have hnb39 := NB239_249.out
                have hnc39 := NB249_239.out
                have hcz40_0 : w28.cell? ⟨gb239, 0, none⟩ = some (.int .i64 a0_0) := (blk_cell BK239.out 0).trans rfl
                have hcz40_1 : w28.cell? ⟨gb239, 1, none⟩ = some (.int .i64 a0_1) := (blk_cell BK239.out 1).trans rfl
                have hcz40_2 : w28.cell? ⟨gb239, 2, none⟩ = some (.int .i64 a0_2) := (blk_cell BK239.out 2).trans rfl
                have hcz40_3 : w28.cell? ⟨gb239, 3, none⟩ = some (.int .i64 a0_3) := (blk_cell BK239.out 3).trans rfl
                have hcz40_4 : w28.cell? ⟨gb239, 4, none⟩ = some (.int .i64 a0_4) := (blk_cell BK239.out 4).trans rfl
                have hcz40_5 : w28.cell? ⟨gb239, 5, none⟩ = some (.int .i64 a0_5) := (blk_cell BK239.out 5).trans rfl
                have hcz40_6 : w28.cell? ⟨gb239, 6, none⟩ = some (.int .i64 a0_6) := (blk_cell BK239.out 6).trans rfl
                have hcz40_7 : w28.cell? ⟨gb239, 7, none⟩ = some (.int .i64 a0_7) := (blk_cell BK239.out 7).trans rfl
                have hcz40_8 : w28.cell? ⟨gb239, 8, none⟩ = some (.int .i64 a0_8) := (blk_cell BK239.out 8).trans rfl
                have hfz40_0 := blk_frozen BK239.out 0
                have hfz40_1 := blk_frozen BK239.out 1
                have hfz40_2 := blk_frozen BK239.out 2
                have hfz40_3 := blk_frozen BK239.out 3
                have hfz40_4 := blk_frozen BK239.out 4
                have hfz40_5 := blk_frozen BK239.out 5
                have hfz40_6 := blk_frozen BK239.out 6
                have hfz40_7 := blk_frozen BK239.out 7
                have hfz40_8 := blk_frozen BK239.out 8
                go_wp2
                go_meet
                case rel => exact ⟨_, (false), (by first | rfl | (simp; done) | (simp [*]; done)), H', ⟨by have := HJ2.out; first | omega | exact Nat.le_refl _⟩, ⟨by (with_reducible repeat (first | refine blk_drewN ?_ _ | refine blk_drew ?_ | refine blk_alloc ?_ _)); refine blk_far ?_ NB239_249.out _; (with_reducible repeat (first | refine blk_drewN ?_ _ | refine blk_drew ?_ | refine blk_alloc ?_ _)); refine blk_far ?_ NB239_249.out _; (with_reducible repeat (first | refine blk_drewN ?_ _ | refine blk_drew ?_ | refine blk_alloc ?_ _)); refine blk_far ?_ NB239_249.out _; (with_reducible repeat (first | refine blk_drewN ?_ _ | refine blk_drew ?_ | refine blk_alloc ?_ _)); exact BK239.out⟩, ⟨by (with_reducible repeat (first | refine blk_drewN ?_ _ | refine blk_drew ?_ | refine blk_alloc ?_ _)); refine blk_far ?_ NB244_249.out _; (with_reducible repeat (first | refine blk_drewN ?_ _ | refine blk_drew ?_ | refine blk_alloc ?_ _)); refine blk_far ?_ NB244_249.out _; (with_reducible repeat (first | refine blk_drewN ?_ _ | refine blk_drew ?_ | refine blk_alloc ?_ _)); refine blk_far ?_ NB244_249.out _; (with_reducible repeat (first | refine blk_drewN ?_ _ | refine blk_drew ?_ | refine blk_alloc ?_ _)); exact BK244.out⟩, ⟨by (with_reducible repeat (first | refine blk_drewN ?_ _ | refine blk_drew ?_ | refine blk_alloc ?_ _)); refine blk_put (cs := #[.int .i64 t245, .int .i64 t246, .int .i64 0]) ?_ 2 _ rfl; (with_reducible repeat (first | refine blk_drewN ?_ _ | refine blk_drew ?_ | refine blk_alloc ?_ _)); refine blk_put (cs := #[.int .i64 t245, .int .i64 0, .int .i64 0]) ?_ 1 _ rfl; (with_reducible repeat (first | refine blk_drewN ?_ _ | refine blk_drew ?_ | refine blk_alloc ?_ _)); refine blk_put (cs := #[.int .i64 0, .int .i64 0, .int .i64 0]) ?_ 0 _ rfl; (with_reducible repeat (first | refine blk_drewN ?_ _ | refine blk_drew ?_ | refine blk_alloc ?_ _)); exact BK249.out⟩, ⟨by repeat (first | (with_reducible first | exact HB.out | apply below_alloc | apply pw_below_drewN | apply below_drew1 | refine below_set ?_ GE239.out | refine below_set ?_ GE244.out | refine below_set ?_ GE249.out) | exact HB.out)⟩⟩
            · rw [if_neg c33] at H
              have c33b0 : decide (a0_0 ≤ 10000000000000) = false := decide_eq_false c33
              clear c33
              have H' := Aside0.mk H
              clear H
              have hnb41 := NB239_244.out
              have hnc41 := NB244_239.out
              have hnb42 := NB239_249.out
              have hnc42 := NB249_239.out
              have hcz43_0 : w28.cell? ⟨gb239, 0, none⟩ = some (.int .i64 a0_0) := (blk_cell BK239.out 0).trans rfl
              have hcz43_1 : w28.cell? ⟨gb239, 1, none⟩ = some (.int .i64 a0_1) := (blk_cell BK239.out 1).trans rfl
              have hcz43_2 : w28.cell? ⟨gb239, 2, none⟩ = some (.int .i64 a0_2) := (blk_cell BK239.out 2).trans rfl
              have hcz43_3 : w28.cell? ⟨gb239, 3, none⟩ = some (.int .i64 a0_3) := (blk_cell BK239.out 3).trans rfl
              have hcz43_4 : w28.cell? ⟨gb239, 4, none⟩ = some (.int .i64 a0_4) := (blk_cell BK239.out 4).trans rfl
              have hcz43_5 : w28.cell? ⟨gb239, 5, none⟩ = some (.int .i64 a0_5) := (blk_cell BK239.out 5).trans rfl
              have hcz43_6 : w28.cell? ⟨gb239, 6, none⟩ = some (.int .i64 a0_6) := (blk_cell BK239.out 6).trans rfl
              have hcz43_7 : w28.cell? ⟨gb239, 7, none⟩ = some (.int .i64 a0_7) := (blk_cell BK239.out 7).trans rfl
              have hcz43_8 : w28.cell? ⟨gb239, 8, none⟩ = some (.int .i64 a0_8) := (blk_cell BK239.out 8).trans rfl
              have hfz43_0 := blk_frozen BK239.out 0
              have hfz43_1 := blk_frozen BK239.out 1
              have hfz43_2 := blk_frozen BK239.out 2
              have hfz43_3 := blk_frozen BK239.out 3
              have hfz43_4 := blk_frozen BK239.out 4
              have hfz43_5 := blk_frozen BK239.out 5
              have hfz43_6 := blk_frozen BK239.out 6
              have hfz43_7 := blk_frozen BK239.out 7
              have hfz43_8 := blk_frozen BK239.out 8
              go_wp2
              go_meet
              case rel => exact ⟨_, (false), (by first | rfl | (simp; done) | (simp [*]; done)), H', ⟨by have := HJ2.out; first | omega | exact Nat.le_refl _⟩, ⟨by (with_reducible repeat (first | refine blk_drewN ?_ _ | refine blk_drew ?_ | refine blk_alloc ?_ _)); refine blk_far ?_ NB239_249.out _; (with_reducible repeat (first | refine blk_drewN ?_ _ | refine blk_drew ?_ | refine blk_alloc ?_ _)); refine blk_far ?_ NB239_249.out _; (with_reducible repeat (first | refine blk_drewN ?_ _ | refine blk_drew ?_ | refine blk_alloc ?_ _)); refine blk_far ?_ NB239_249.out _; (with_reducible repeat (first | refine blk_drewN ?_ _ | refine blk_drew ?_ | refine blk_alloc ?_ _)); exact BK239.out⟩, ⟨by (with_reducible repeat (first | refine blk_drewN ?_ _ | refine blk_drew ?_ | refine blk_alloc ?_ _)); refine blk_far ?_ NB244_249.out _; (with_reducible repeat (first | refine blk_drewN ?_ _ | refine blk_drew ?_ | refine blk_alloc ?_ _)); refine blk_far ?_ NB244_249.out _; (with_reducible repeat (first | refine blk_drewN ?_ _ | refine blk_drew ?_ | refine blk_alloc ?_ _)); refine blk_far ?_ NB244_249.out _; (with_reducible repeat (first | refine blk_drewN ?_ _ | refine blk_drew ?_ | refine blk_alloc ?_ _)); exact BK244.out⟩, ⟨by (with_reducible repeat (first | refine blk_drewN ?_ _ | refine blk_drew ?_ | refine blk_alloc ?_ _)); refine blk_put (cs := #[.int .i64 t245, .int .i64 t246, .int .i64 0]) ?_ 2 _ rfl; (with_reducible repeat (first | refine blk_drewN ?_ _ | refine blk_drew ?_ | refine blk_alloc ?_ _)); refine blk_put (cs := #[.int .i64 t245, .int .i64 0, .int .i64 0]) ?_ 1 _ rfl; (with_reducible repeat (first | refine blk_drewN ?_ _ | refine blk_drew ?_ | refine blk_alloc ?_ _)); refine blk_put (cs := #[.int .i64 0, .int .i64 0, .int .i64 0]) ?_ 0 _ rfl; (with_reducible repeat (first | refine blk_drewN ?_ _ | refine blk_drew ?_ | refine blk_alloc ?_ _)); exact BK249.out⟩, ⟨by repeat (first | (with_reducible first | exact HB.out | apply below_alloc | apply pw_below_drewN | apply below_drew1 | refine below_set ?_ GE239.out | refine below_set ?_ GE244.out | refine below_set ?_ GE249.out) | exact HB.out)⟩⟩
          · rw [if_neg c32] at H
            have c32b0 : decide (1 ≤ a0_0) = false := decide_eq_false c32
            clear c32
            (first | rw [c32b0] | (simp only [i64_w, i32_w]; rw [c32b0]) | skip)
            have H' := Aside0.mk H
            clear H
            have hnb44 := NB239_244.out
            have hnc44 := NB244_239.out
            have hnb45 := NB239_249.out
            have hnc45 := NB249_239.out
            have hcz46_0 : w28.cell? ⟨gb239, 0, none⟩ = some (.int .i64 a0_0) := (blk_cell BK239.out 0).trans rfl
            have hcz46_1 : w28.cell? ⟨gb239, 1, none⟩ = some (.int .i64 a0_1) := (blk_cell BK239.out 1).trans rfl
            have hcz46_2 : w28.cell? ⟨gb239, 2, none⟩ = some (.int .i64 a0_2) := (blk_cell BK239.out 2).trans rfl
            have hcz46_3 : w28.cell? ⟨gb239, 3, none⟩ = some (.int .i64 a0_3) := (blk_cell BK239.out 3).trans rfl
            have hcz46_4 : w28.cell? ⟨gb239, 4, none⟩ = some (.int .i64 a0_4) := (blk_cell BK239.out 4).trans rfl
            have hcz46_5 : w28.cell? ⟨gb239, 5, none⟩ = some (.int .i64 a0_5) := (blk_cell BK239.out 5).trans rfl
            have hcz46_6 : w28.cell? ⟨gb239, 6, none⟩ = some (.int .i64 a0_6) := (blk_cell BK239.out 6).trans rfl
            have hcz46_7 : w28.cell? ⟨gb239, 7, none⟩ = some (.int .i64 a0_7) := (blk_cell BK239.out 7).trans rfl
            have hcz46_8 : w28.cell? ⟨gb239, 8, none⟩ = some (.int .i64 a0_8) := (blk_cell BK239.out 8).trans rfl
            have hfz46_0 := blk_frozen BK239.out 0
            have hfz46_1 := blk_frozen BK239.out 1
            have hfz46_2 := blk_frozen BK239.out 2
            have hfz46_3 := blk_frozen BK239.out 3
            have hfz46_4 := blk_frozen BK239.out 4
            have hfz46_5 := blk_frozen BK239.out 5
            have hfz46_6 := blk_frozen BK239.out 6
            have hfz46_7 := blk_frozen BK239.out 7
            have hfz46_8 := blk_frozen BK239.out 8
            go_wp2
            go_meet
            case rel => exact ⟨_, (false), (by first | rfl | (simp; done) | (simp [*]; done)), H', ⟨by have := HJ2.out; first | omega | exact Nat.le_refl _⟩, ⟨by (with_reducible repeat (first | refine blk_drewN ?_ _ | refine blk_drew ?_ | refine blk_alloc ?_ _)); refine blk_far ?_ NB239_249.out _; (with_reducible repeat (first | refine blk_drewN ?_ _ | refine blk_drew ?_ | refine blk_alloc ?_ _)); refine blk_far ?_ NB239_249.out _; (with_reducible repeat (first | refine blk_drewN ?_ _ | refine blk_drew ?_ | refine blk_alloc ?_ _)); refine blk_far ?_ NB239_249.out _; (with_reducible repeat (first | refine blk_drewN ?_ _ | refine blk_drew ?_ | refine blk_alloc ?_ _)); exact BK239.out⟩, ⟨by (with_reducible repeat (first | refine blk_drewN ?_ _ | refine blk_drew ?_ | refine blk_alloc ?_ _)); refine blk_far ?_ NB244_249.out _; (with_reducible repeat (first | refine blk_drewN ?_ _ | refine blk_drew ?_ | refine blk_alloc ?_ _)); refine blk_far ?_ NB244_249.out _; (with_reducible repeat (first | refine blk_drewN ?_ _ | refine blk_drew ?_ | refine blk_alloc ?_ _)); refine blk_far ?_ NB244_249.out _; (with_reducible repeat (first | refine blk_drewN ?_ _ | refine blk_drew ?_ | refine blk_alloc ?_ _)); exact BK244.out⟩, ⟨by (with_reducible repeat (first | refine blk_drewN ?_ _ | refine blk_drew ?_ | refine blk_alloc ?_ _)); refine blk_put (cs := #[.int .i64 t245, .int .i64 t246, .int .i64 0]) ?_ 2 _ rfl; (with_reducible repeat (first | refine blk_drewN ?_ _ | refine blk_drew ?_ | refine blk_alloc ?_ _)); refine blk_put (cs := #[.int .i64 t245, .int .i64 0, .int .i64 0]) ?_ 1 _ rfl; (with_reducible repeat (first | refine blk_drewN ?_ _ | refine blk_drew ?_ | refine blk_alloc ?_ _)); refine blk_put (cs := #[.int .i64 0, .int .i64 0, .int .i64 0]) ?_ 0 _ rfl; (with_reducible repeat (first | refine blk_drewN ?_ _ | refine blk_drew ?_ | refine blk_alloc ?_ _)); exact BK249.out⟩, ⟨by repeat (first | (with_reducible first | exact HB.out | apply below_alloc | apply pw_below_drewN | apply below_drew1 | refine below_set ?_ GE239.out | refine below_set ?_ GE244.out | refine below_set ?_ GE249.out) | exact HB.out)⟩⟩
        case rest =>
          clear HC23
          try clear c1
          try clear c2
          try clear p2
          try clear c3
          try clear c4
          try clear c8
          try clear c10
          try clear c11
          try clear c11b0
          try clear c11b1
          try clear c12
          try clear c12b0
          try clear c13
          try clear c14
          try clear c16
          try clear c19
          try clear c21
          try clear c22
          try clear c23
          try clear c24
          try clear c29
          try clear c30
          try clear c32
          try clear c32b0
          try clear c33
          try clear c33b0
          try clear c34
          try clear c34b0
          try clear c35
          try clear c36
          try clear c38
          try clear c39
          try clear c41
          try clear c42
          try clear c44
          try clear c45
          try clear hcz14_0
          try clear hcz14_1
          try clear hcz14_2
          try clear hcz15_0
          try clear hcz15_1
          try clear hcz15_2
          try clear hcz15_3
          try clear hcz15_4
          try clear hcz15_5
          try clear hcz15_6
          try clear hcz15_7
          try clear hcz15_8
          try clear hcz17_0
          try clear hcz17_1
          try clear hcz17_2
          try clear hcz18_0
          try clear hcz18_1
          try clear hcz18_2
          try clear hcz18_3
          try clear hcz18_4
          try clear hcz18_5
          try clear hcz18_6
          try clear hcz18_7
          try clear hcz18_8
          try clear hcz20_0
          try clear hcz20_1
          try clear hcz20_2
          try clear hcz25_0
          try clear hcz25_1
          try clear hcz25_2
          try clear hcz26_0
          try clear hcz26_1
          try clear hcz26_2
          try clear hcz26_3
          try clear hcz26_4
          try clear hcz26_5
          try clear hcz26_6
          try clear hcz26_7
          try clear hcz26_8
          try clear hcz31_0
          try clear hcz31_1
          try clear hcz31_2
          try clear hcz37_0
          try clear hcz37_1
          try clear hcz37_2
          try clear hcz37_3
          try clear hcz37_4
          try clear hcz37_5
          try clear hcz37_6
          try clear hcz37_7
          try clear hcz37_8
          try clear hcz40_0
          try clear hcz40_1
          try clear hcz40_2
          try clear hcz40_3
          try clear hcz40_4
          try clear hcz40_5
          try clear hcz40_6
          try clear hcz40_7
          try clear hcz40_8
          try clear hcz43_0
          try clear hcz43_1
          try clear hcz43_2
          try clear hcz43_3
          try clear hcz43_4
          try clear hcz43_5
          try clear hcz43_6
          try clear hcz43_7
          try clear hcz43_8
          try clear hcz46_0
          try clear hcz46_1
          try clear hcz46_2
          try clear hcz46_3
          try clear hcz46_4
          try clear hcz46_5
          try clear hcz46_6
          try clear hcz46_7
          try clear hcz46_8
          try clear hcz5_0
          try clear hcz5_1
          try clear hcz5_2
          try clear hcz5_3
          try clear hcz5_4
          try clear hcz5_5
          try clear hcz5_6
          try clear hcz5_7
          try clear hcz5_8
          try clear hcz9_0
          try clear hcz9_1
          try clear hcz9_2
          try clear hfz14_0
          try clear hfz14_1
          try clear hfz14_2
          try clear hfz15_0
          try clear hfz15_1
          try clear hfz15_2
          try clear hfz15_3
          try clear hfz15_4
          try clear hfz15_5
          try clear hfz15_6
          try clear hfz15_7
          try clear hfz15_8
          try clear hfz17_0
          try clear hfz17_1
          try clear hfz17_2
          try clear hfz18_0
          try clear hfz18_1
          try clear hfz18_2
          try clear hfz18_3
          try clear hfz18_4
          try clear hfz18_5
          try clear hfz18_6
          try clear hfz18_7
          try clear hfz18_8
          try clear hfz20_0
          try clear hfz20_1
          try clear hfz20_2
          try clear hfz25_0
          try clear hfz25_1
          try clear hfz25_2
          try clear hfz26_0
          try clear hfz26_1
          try clear hfz26_2
          try clear hfz26_3
          try clear hfz26_4
          try clear hfz26_5
          try clear hfz26_6
          try clear hfz26_7
          try clear hfz26_8
          try clear hfz31_0
          try clear hfz31_1
          try clear hfz31_2
          try clear hfz37_0
          try clear hfz37_1
          try clear hfz37_2
          try clear hfz37_3
          try clear hfz37_4
          try clear hfz37_5
          try clear hfz37_6
          try clear hfz37_7
          try clear hfz37_8
          try clear hfz40_0
          try clear hfz40_1
          try clear hfz40_2
          try clear hfz40_3
          try clear hfz40_4
          try clear hfz40_5
          try clear hfz40_6
          try clear hfz40_7
          try clear hfz40_8
          try clear hfz43_0
          try clear hfz43_1
          try clear hfz43_2
          try clear hfz43_3
          try clear hfz43_4
          try clear hfz43_5
          try clear hfz43_6
          try clear hfz43_7
          try clear hfz43_8
          try clear hfz46_0
          try clear hfz46_1
          try clear hfz46_2
          try clear hfz46_3
          try clear hfz46_4
          try clear hfz46_5
          try clear hfz46_6
          try clear hfz46_7
          try clear hfz46_8
          try clear hfz5_0
          try clear hfz5_1
          try clear hfz5_2
          try clear hfz5_3
          try clear hfz5_4
          try clear hfz5_5
          try clear hfz5_6
          try clear hfz5_7
          try clear hfz5_8
          try clear hfz9_0
          try clear hfz9_1
          try clear hfz9_2
          try clear p2
          obtain ⟨kq, x7_22, rfl, HA, HJ22, BK239, BK244, BK249, HB⟩ := hcut
          cases kq with
          | zero => exact absurd HA.out (by simp [trivetref11_May.j1])
          | succ kj22 =>
            have H := HA.out
            clear HA
            simp only [trivetref11_May.j1] at H
            have HC47 := Aside0.mk H
            clear H
            go_upto_region 6 with (fail)
            go_cut [8] (fun v8 wc => ∃ (kq : Nat) (x8_46 : Bool), v8 = .bool x8_46 ∧ Aside0 (trivetref11_May.j2 kq t248 x7_22 x8_46 a0_0 a0_1 a0_2 a0_3 a0_4 a0_5 a0_6 a0_7 a0_8 = some r) ∧ Aside0 (kq ≤ kj22) ∧ Aside0 (wc.heap[gb239]? = some (.cells #[.int .i64 a0_0, .int .i64 a0_1, .int .i64 a0_2, .int .i64 a0_3, .int .i64 a0_4, .int .i64 a0_5, .int .i64 a0_6, .int .i64 a0_7, .int .i64 a0_8] 23 (0, 0))) ∧ Aside0 (wc.heap[gb244]? = some (.cells #[.int .i64 t240, .int .i64 t241, .int .i64 t242] 56 (0, 0))) ∧ Aside0 (wc.heap[gb249]? = some (.cells #[.int .i64 t245, .int .i64 t246, .int .i64 t247] 56 (0, 0))) ∧ Aside0 (Below w.heap.size w wc))
            case first =>
              have H := HC47.out
              clear HC47
              by_cases c48 : a0_1 ≥ 0
              · rw [if_pos c48] at H
                have c48b0 : decide (0 ≤ a0_1) = true := decide_eq_true c48
                clear c48
                (first | rw [c48b0] | (simp only [i64_w, i32_w]; rw [c48b0]) | skip)
                by_cases c49 : a0_1 ≤ 300000
                · rw [if_pos c49] at H
                  have c49b0 : decide (a0_1 ≤ 300000) = true := decide_eq_true c49
                  clear c49
                  by_cases c50 : a0_7 ≥ 0
                  · rw [if_pos c50] at H
                    have c50b0 : decide (0 ≤ a0_7) = true := decide_eq_true c50
                    clear c50
                    by_cases c51 : a0_8 ≥ 0
                    · rw [if_pos c51] at H
                      have c51b0 : decide (0 ≤ a0_8) = true := decide_eq_true c51
                      clear c51
                      by_cases c52 : a0_7 ≤ 300000
                      · rw [if_pos c52] at H
                        have c52b0 : decide (a0_7 ≤ 300000) = true := decide_eq_true c52
                        clear c52
                        by_cases c53 : a0_8 ≤ 300000
                        · rw [if_pos c53] at H
                          have c53b0 : decide (a0_8 ≤ 300000) = true := decide_eq_true c53
                          clear c53
                          have H' := Aside0.mk H
                          clear H
                          have hnb54 := NB239_244.out
                          have hnc54 := NB244_239.out
                          have hnb55 := NB239_249.out
                          have hnc55 := NB249_239.out
                          have hcz56_0 : wc.cell? ⟨gb239, 0, none⟩ = some (.int .i64 a0_0) := (blk_cell BK239.out 0).trans rfl
                          have hcz56_1 : wc.cell? ⟨gb239, 1, none⟩ = some (.int .i64 a0_1) := (blk_cell BK239.out 1).trans rfl
                          have hcz56_2 : wc.cell? ⟨gb239, 2, none⟩ = some (.int .i64 a0_2) := (blk_cell BK239.out 2).trans rfl
                          have hcz56_3 : wc.cell? ⟨gb239, 3, none⟩ = some (.int .i64 a0_3) := (blk_cell BK239.out 3).trans rfl
                          have hcz56_4 : wc.cell? ⟨gb239, 4, none⟩ = some (.int .i64 a0_4) := (blk_cell BK239.out 4).trans rfl
                          have hcz56_5 : wc.cell? ⟨gb239, 5, none⟩ = some (.int .i64 a0_5) := (blk_cell BK239.out 5).trans rfl
                          have hcz56_6 : wc.cell? ⟨gb239, 6, none⟩ = some (.int .i64 a0_6) := (blk_cell BK239.out 6).trans rfl
                          have hcz56_7 : wc.cell? ⟨gb239, 7, none⟩ = some (.int .i64 a0_7) := (blk_cell BK239.out 7).trans rfl
                          have hcz56_8 : wc.cell? ⟨gb239, 8, none⟩ = some (.int .i64 a0_8) := (blk_cell BK239.out 8).trans rfl
                          have hfz56_0 := blk_frozen BK239.out 0
                          have hfz56_1 := blk_frozen BK239.out 1
                          have hfz56_2 := blk_frozen BK239.out 2
                          have hfz56_3 := blk_frozen BK239.out 3
                          have hfz56_4 := blk_frozen BK239.out 4
                          have hfz56_5 := blk_frozen BK239.out 5
                          have hfz56_6 := blk_frozen BK239.out 6
                          have hfz56_7 := blk_frozen BK239.out 7
                          have hfz56_8 := blk_frozen BK239.out 8
                          go_wp2
                          go_meet
                          case rel => exact ⟨_, (decide ((wrap64 (a0_7 + a0_8)) ≤ a0_1)), (by first | rfl | (simp; done) | (simp [*]; done)), H', ⟨by have := HJ2.out; have := HJ22.out; first | omega | exact Nat.le_refl _⟩, ⟨by (with_reducible repeat (first | refine blk_drewN ?_ _ | refine blk_drew ?_ | refine blk_alloc ?_ _)); exact BK239.out⟩, ⟨by (with_reducible repeat (first | refine blk_drewN ?_ _ | refine blk_drew ?_ | refine blk_alloc ?_ _)); exact BK244.out⟩, ⟨by (with_reducible repeat (first | refine blk_drewN ?_ _ | refine blk_drew ?_ | refine blk_alloc ?_ _)); exact BK249.out⟩, ⟨by repeat (first | (with_reducible first | exact HB.out | apply below_alloc | apply pw_below_drewN | apply below_drew1 | refine below_set ?_ GE239.out | refine below_set ?_ GE244.out | refine below_set ?_ GE249.out) | exact HB.out)⟩⟩
                        · rw [if_neg c53] at H
                          have c53b0 : decide (a0_8 ≤ 300000) = false := decide_eq_false c53
                          clear c53
                          have H' := Aside0.mk H
                          clear H
                          have hnb57 := NB239_244.out
                          have hnc57 := NB244_239.out
                          have hnb58 := NB239_249.out
                          have hnc58 := NB249_239.out
                          have hcz59_0 : wc.cell? ⟨gb239, 0, none⟩ = some (.int .i64 a0_0) := (blk_cell BK239.out 0).trans rfl
                          have hcz59_1 : wc.cell? ⟨gb239, 1, none⟩ = some (.int .i64 a0_1) := (blk_cell BK239.out 1).trans rfl
                          have hcz59_2 : wc.cell? ⟨gb239, 2, none⟩ = some (.int .i64 a0_2) := (blk_cell BK239.out 2).trans rfl
                          have hcz59_3 : wc.cell? ⟨gb239, 3, none⟩ = some (.int .i64 a0_3) := (blk_cell BK239.out 3).trans rfl
                          have hcz59_4 : wc.cell? ⟨gb239, 4, none⟩ = some (.int .i64 a0_4) := (blk_cell BK239.out 4).trans rfl
                          have hcz59_5 : wc.cell? ⟨gb239, 5, none⟩ = some (.int .i64 a0_5) := (blk_cell BK239.out 5).trans rfl
                          have hcz59_6 : wc.cell? ⟨gb239, 6, none⟩ = some (.int .i64 a0_6) := (blk_cell BK239.out 6).trans rfl
                          have hcz59_7 : wc.cell? ⟨gb239, 7, none⟩ = some (.int .i64 a0_7) := (blk_cell BK239.out 7).trans rfl
                          have hcz59_8 : wc.cell? ⟨gb239, 8, none⟩ = some (.int .i64 a0_8) := (blk_cell BK239.out 8).trans rfl
                          have hfz59_0 := blk_frozen BK239.out 0
                          have hfz59_1 := blk_frozen BK239.out 1
                          have hfz59_2 := blk_frozen BK239.out 2
                          have hfz59_3 := blk_frozen BK239.out 3
                          have hfz59_4 := blk_frozen BK239.out 4
                          have hfz59_5 := blk_frozen BK239.out 5
                          have hfz59_6 := blk_frozen BK239.out 6
                          have hfz59_7 := blk_frozen BK239.out 7
                          have hfz59_8 := blk_frozen BK239.out 8
                          go_wp2
                          go_meet
                          case rel => exact ⟨_, (false), (by first | rfl | (simp; done) | (simp [*]; done)), H', ⟨by have := HJ2.out; have := HJ22.out; first | omega | exact Nat.le_refl _⟩, ⟨by (with_reducible repeat (first | refine blk_drewN ?_ _ | refine blk_drew ?_ | refine blk_alloc ?_ _)); exact BK239.out⟩, ⟨by (with_reducible repeat (first | refine blk_drewN ?_ _ | refine blk_drew ?_ | refine blk_alloc ?_ _)); exact BK244.out⟩, ⟨by (with_reducible repeat (first | refine blk_drewN ?_ _ | refine blk_drew ?_ | refine blk_alloc ?_ _)); exact BK249.out⟩, ⟨by repeat (first | (with_reducible first | exact HB.out | apply below_alloc | apply pw_below_drewN | apply below_drew1 | refine below_set ?_ GE239.out | refine below_set ?_ GE244.out | refine below_set ?_ GE249.out) | exact HB.out)⟩⟩
                      · rw [if_neg c52] at H
                        have c52b0 : decide (a0_7 ≤ 300000) = false := decide_eq_false c52
                        clear c52
                        have H' := Aside0.mk H
                        clear H
                        have hnb60 := NB239_244.out
                        have hnc60 := NB244_239.out
                        have hnb61 := NB239_249.out
                        have hnc61 := NB249_239.out
                        have hcz62_0 : wc.cell? ⟨gb239, 0, none⟩ = some (.int .i64 a0_0) := (blk_cell BK239.out 0).trans rfl
                        have hcz62_1 : wc.cell? ⟨gb239, 1, none⟩ = some (.int .i64 a0_1) := (blk_cell BK239.out 1).trans rfl
                        have hcz62_2 : wc.cell? ⟨gb239, 2, none⟩ = some (.int .i64 a0_2) := (blk_cell BK239.out 2).trans rfl
                        have hcz62_3 : wc.cell? ⟨gb239, 3, none⟩ = some (.int .i64 a0_3) := (blk_cell BK239.out 3).trans rfl
                        have hcz62_4 : wc.cell? ⟨gb239, 4, none⟩ = some (.int .i64 a0_4) := (blk_cell BK239.out 4).trans rfl
                        have hcz62_5 : wc.cell? ⟨gb239, 5, none⟩ = some (.int .i64 a0_5) := (blk_cell BK239.out 5).trans rfl
                        have hcz62_6 : wc.cell? ⟨gb239, 6, none⟩ = some (.int .i64 a0_6) := (blk_cell BK239.out 6).trans rfl
                        have hcz62_7 : wc.cell? ⟨gb239, 7, none⟩ = some (.int .i64 a0_7) := (blk_cell BK239.out 7).trans rfl
                        have hcz62_8 : wc.cell? ⟨gb239, 8, none⟩ = some (.int .i64 a0_8) := (blk_cell BK239.out 8).trans rfl
                        have hfz62_0 := blk_frozen BK239.out 0
                        have hfz62_1 := blk_frozen BK239.out 1
                        have hfz62_2 := blk_frozen BK239.out 2
                        have hfz62_3 := blk_frozen BK239.out 3
                        have hfz62_4 := blk_frozen BK239.out 4
                        have hfz62_5 := blk_frozen BK239.out 5
                        have hfz62_6 := blk_frozen BK239.out 6
                        have hfz62_7 := blk_frozen BK239.out 7
                        have hfz62_8 := blk_frozen BK239.out 8
                        go_wp2
                        go_meet
                        case rel => exact ⟨_, (false), (by first | rfl | (simp; done) | (simp [*]; done)), H', ⟨by have := HJ2.out; have := HJ22.out; first | omega | exact Nat.le_refl _⟩, ⟨by (with_reducible repeat (first | refine blk_drewN ?_ _ | refine blk_drew ?_ | refine blk_alloc ?_ _)); exact BK239.out⟩, ⟨by (with_reducible repeat (first | refine blk_drewN ?_ _ | refine blk_drew ?_ | refine blk_alloc ?_ _)); exact BK244.out⟩, ⟨by (with_reducible repeat (first | refine blk_drewN ?_ _ | refine blk_drew ?_ | refine blk_alloc ?_ _)); exact BK249.out⟩, ⟨by repeat (first | (with_reducible first | exact HB.out | apply below_alloc | apply pw_below_drewN | apply below_drew1 | refine below_set ?_ GE239.out | refine below_set ?_ GE244.out | refine below_set ?_ GE249.out) | exact HB.out)⟩⟩
                    · rw [if_neg c51] at H
                      have c51b0 : decide (0 ≤ a0_8) = false := decide_eq_false c51
                      clear c51
                      have H' := Aside0.mk H
                      clear H
                      have hnb63 := NB239_244.out
                      have hnc63 := NB244_239.out
                      have hnb64 := NB239_249.out
                      have hnc64 := NB249_239.out
                      have hcz65_0 : wc.cell? ⟨gb239, 0, none⟩ = some (.int .i64 a0_0) := (blk_cell BK239.out 0).trans rfl
                      have hcz65_1 : wc.cell? ⟨gb239, 1, none⟩ = some (.int .i64 a0_1) := (blk_cell BK239.out 1).trans rfl
                      have hcz65_2 : wc.cell? ⟨gb239, 2, none⟩ = some (.int .i64 a0_2) := (blk_cell BK239.out 2).trans rfl
                      have hcz65_3 : wc.cell? ⟨gb239, 3, none⟩ = some (.int .i64 a0_3) := (blk_cell BK239.out 3).trans rfl
                      have hcz65_4 : wc.cell? ⟨gb239, 4, none⟩ = some (.int .i64 a0_4) := (blk_cell BK239.out 4).trans rfl
                      have hcz65_5 : wc.cell? ⟨gb239, 5, none⟩ = some (.int .i64 a0_5) := (blk_cell BK239.out 5).trans rfl
                      have hcz65_6 : wc.cell? ⟨gb239, 6, none⟩ = some (.int .i64 a0_6) := (blk_cell BK239.out 6).trans rfl
                      have hcz65_7 : wc.cell? ⟨gb239, 7, none⟩ = some (.int .i64 a0_7) := (blk_cell BK239.out 7).trans rfl
                      have hcz65_8 : wc.cell? ⟨gb239, 8, none⟩ = some (.int .i64 a0_8) := (blk_cell BK239.out 8).trans rfl
                      have hfz65_0 := blk_frozen BK239.out 0
                      have hfz65_1 := blk_frozen BK239.out 1
                      have hfz65_2 := blk_frozen BK239.out 2
                      have hfz65_3 := blk_frozen BK239.out 3
                      have hfz65_4 := blk_frozen BK239.out 4
                      have hfz65_5 := blk_frozen BK239.out 5
                      have hfz65_6 := blk_frozen BK239.out 6
                      have hfz65_7 := blk_frozen BK239.out 7
                      have hfz65_8 := blk_frozen BK239.out 8
                      go_wp2
                      go_meet
                      case rel => exact ⟨_, (false), (by first | rfl | (simp; done) | (simp [*]; done)), H', ⟨by have := HJ2.out; have := HJ22.out; first | omega | exact Nat.le_refl _⟩, ⟨by (with_reducible repeat (first | refine blk_drewN ?_ _ | refine blk_drew ?_ | refine blk_alloc ?_ _)); exact BK239.out⟩, ⟨by (with_reducible repeat (first | refine blk_drewN ?_ _ | refine blk_drew ?_ | refine blk_alloc ?_ _)); exact BK244.out⟩, ⟨by (with_reducible repeat (first | refine blk_drewN ?_ _ | refine blk_drew ?_ | refine blk_alloc ?_ _)); exact BK249.out⟩, ⟨by repeat (first | (with_reducible first | exact HB.out | apply below_alloc | apply pw_below_drewN | apply below_drew1 | refine below_set ?_ GE239.out | refine below_set ?_ GE244.out | refine below_set ?_ GE249.out) | exact HB.out)⟩⟩
                  · rw [if_neg c50] at H
                    have c50b0 : decide (0 ≤ a0_7) = false := decide_eq_false c50
                    clear c50
                    have H' := Aside0.mk H
                    clear H
                    have hnb66 := NB239_244.out
                    have hnc66 := NB244_239.out
                    have hnb67 := NB239_249.out
                    have hnc67 := NB249_239.out
                    have hcz68_0 : wc.cell? ⟨gb239, 0, none⟩ = some (.int .i64 a0_0) := (blk_cell BK239.out 0).trans rfl
                    have hcz68_1 : wc.cell? ⟨gb239, 1, none⟩ = some (.int .i64 a0_1) := (blk_cell BK239.out 1).trans rfl
                    have hcz68_2 : wc.cell? ⟨gb239, 2, none⟩ = some (.int .i64 a0_2) := (blk_cell BK239.out 2).trans rfl
                    have hcz68_3 : wc.cell? ⟨gb239, 3, none⟩ = some (.int .i64 a0_3) := (blk_cell BK239.out 3).trans rfl
                    have hcz68_4 : wc.cell? ⟨gb239, 4, none⟩ = some (.int .i64 a0_4) := (blk_cell BK239.out 4).trans rfl
                    have hcz68_5 : wc.cell? ⟨gb239, 5, none⟩ = some (.int .i64 a0_5) := (blk_cell BK239.out 5).trans rfl
                    have hcz68_6 : wc.cell? ⟨gb239, 6, none⟩ = some (.int .i64 a0_6) := (blk_cell BK239.out 6).trans rfl
                    have hcz68_7 : wc.cell? ⟨gb239, 7, none⟩ = some (.int .i64 a0_7) := (blk_cell BK239.out 7).trans rfl
                    have hcz68_8 : wc.cell? ⟨gb239, 8, none⟩ = some (.int .i64 a0_8) := (blk_cell BK239.out 8).trans rfl
                    have hfz68_0 := blk_frozen BK239.out 0
                    have hfz68_1 := blk_frozen BK239.out 1
                    have hfz68_2 := blk_frozen BK239.out 2
                    have hfz68_3 := blk_frozen BK239.out 3
                    have hfz68_4 := blk_frozen BK239.out 4
                    have hfz68_5 := blk_frozen BK239.out 5
                    have hfz68_6 := blk_frozen BK239.out 6
                    have hfz68_7 := blk_frozen BK239.out 7
                    have hfz68_8 := blk_frozen BK239.out 8
                    go_wp2
                    go_meet
                    case rel => exact ⟨_, (false), (by first | rfl | (simp; done) | (simp [*]; done)), H', ⟨by have := HJ2.out; have := HJ22.out; first | omega | exact Nat.le_refl _⟩, ⟨by (with_reducible repeat (first | refine blk_drewN ?_ _ | refine blk_drew ?_ | refine blk_alloc ?_ _)); exact BK239.out⟩, ⟨by (with_reducible repeat (first | refine blk_drewN ?_ _ | refine blk_drew ?_ | refine blk_alloc ?_ _)); exact BK244.out⟩, ⟨by (with_reducible repeat (first | refine blk_drewN ?_ _ | refine blk_drew ?_ | refine blk_alloc ?_ _)); exact BK249.out⟩, ⟨by repeat (first | (with_reducible first | exact HB.out | apply below_alloc | apply pw_below_drewN | apply below_drew1 | refine below_set ?_ GE239.out | refine below_set ?_ GE244.out | refine below_set ?_ GE249.out) | exact HB.out)⟩⟩
                · rw [if_neg c49] at H
                  have c49b0 : decide (a0_1 ≤ 300000) = false := decide_eq_false c49
                  clear c49
                  have H' := Aside0.mk H
                  clear H
                  have hnb69 := NB239_244.out
                  have hnc69 := NB244_239.out
                  have hnb70 := NB239_249.out
                  have hnc70 := NB249_239.out
                  have hcz71_0 : wc.cell? ⟨gb239, 0, none⟩ = some (.int .i64 a0_0) := (blk_cell BK239.out 0).trans rfl
                  have hcz71_1 : wc.cell? ⟨gb239, 1, none⟩ = some (.int .i64 a0_1) := (blk_cell BK239.out 1).trans rfl
                  have hcz71_2 : wc.cell? ⟨gb239, 2, none⟩ = some (.int .i64 a0_2) := (blk_cell BK239.out 2).trans rfl
                  have hcz71_3 : wc.cell? ⟨gb239, 3, none⟩ = some (.int .i64 a0_3) := (blk_cell BK239.out 3).trans rfl
                  have hcz71_4 : wc.cell? ⟨gb239, 4, none⟩ = some (.int .i64 a0_4) := (blk_cell BK239.out 4).trans rfl
                  have hcz71_5 : wc.cell? ⟨gb239, 5, none⟩ = some (.int .i64 a0_5) := (blk_cell BK239.out 5).trans rfl
                  have hcz71_6 : wc.cell? ⟨gb239, 6, none⟩ = some (.int .i64 a0_6) := (blk_cell BK239.out 6).trans rfl
                  have hcz71_7 : wc.cell? ⟨gb239, 7, none⟩ = some (.int .i64 a0_7) := (blk_cell BK239.out 7).trans rfl
                  have hcz71_8 : wc.cell? ⟨gb239, 8, none⟩ = some (.int .i64 a0_8) := (blk_cell BK239.out 8).trans rfl
                  have hfz71_0 := blk_frozen BK239.out 0
                  have hfz71_1 := blk_frozen BK239.out 1
                  have hfz71_2 := blk_frozen BK239.out 2
                  have hfz71_3 := blk_frozen BK239.out 3
                  have hfz71_4 := blk_frozen BK239.out 4
                  have hfz71_5 := blk_frozen BK239.out 5
                  have hfz71_6 := blk_frozen BK239.out 6
                  have hfz71_7 := blk_frozen BK239.out 7
                  have hfz71_8 := blk_frozen BK239.out 8
                  go_wp2
                  go_meet
                  case rel => exact ⟨_, (false), (by first | rfl | (simp; done) | (simp [*]; done)), H', ⟨by have := HJ2.out; have := HJ22.out; first | omega | exact Nat.le_refl _⟩, ⟨by (with_reducible repeat (first | refine blk_drewN ?_ _ | refine blk_drew ?_ | refine blk_alloc ?_ _)); exact BK239.out⟩, ⟨by (with_reducible repeat (first | refine blk_drewN ?_ _ | refine blk_drew ?_ | refine blk_alloc ?_ _)); exact BK244.out⟩, ⟨by (with_reducible repeat (first | refine blk_drewN ?_ _ | refine blk_drew ?_ | refine blk_alloc ?_ _)); exact BK249.out⟩, ⟨by repeat (first | (with_reducible first | exact HB.out | apply below_alloc | apply pw_below_drewN | apply below_drew1 | refine below_set ?_ GE239.out | refine below_set ?_ GE244.out | refine below_set ?_ GE249.out) | exact HB.out)⟩⟩
              · rw [if_neg c48] at H
                have c48b0 : decide (0 ≤ a0_1) = false := decide_eq_false c48
                clear c48
                (first | rw [c48b0] | (simp only [i64_w, i32_w]; rw [c48b0]) | skip)
                have H' := Aside0.mk H
                clear H
                have hnb72 := NB239_244.out
                have hnc72 := NB244_239.out
                have hnb73 := NB239_249.out
                have hnc73 := NB249_239.out
                have hcz74_0 : wc.cell? ⟨gb239, 0, none⟩ = some (.int .i64 a0_0) := (blk_cell BK239.out 0).trans rfl
                have hcz74_1 : wc.cell? ⟨gb239, 1, none⟩ = some (.int .i64 a0_1) := (blk_cell BK239.out 1).trans rfl
                have hcz74_2 : wc.cell? ⟨gb239, 2, none⟩ = some (.int .i64 a0_2) := (blk_cell BK239.out 2).trans rfl
                have hcz74_3 : wc.cell? ⟨gb239, 3, none⟩ = some (.int .i64 a0_3) := (blk_cell BK239.out 3).trans rfl
                have hcz74_4 : wc.cell? ⟨gb239, 4, none⟩ = some (.int .i64 a0_4) := (blk_cell BK239.out 4).trans rfl
                have hcz74_5 : wc.cell? ⟨gb239, 5, none⟩ = some (.int .i64 a0_5) := (blk_cell BK239.out 5).trans rfl
                have hcz74_6 : wc.cell? ⟨gb239, 6, none⟩ = some (.int .i64 a0_6) := (blk_cell BK239.out 6).trans rfl
                have hcz74_7 : wc.cell? ⟨gb239, 7, none⟩ = some (.int .i64 a0_7) := (blk_cell BK239.out 7).trans rfl
                have hcz74_8 : wc.cell? ⟨gb239, 8, none⟩ = some (.int .i64 a0_8) := (blk_cell BK239.out 8).trans rfl
                have hfz74_0 := blk_frozen BK239.out 0
                have hfz74_1 := blk_frozen BK239.out 1
                have hfz74_2 := blk_frozen BK239.out 2
                have hfz74_3 := blk_frozen BK239.out 3
                have hfz74_4 := blk_frozen BK239.out 4
                have hfz74_5 := blk_frozen BK239.out 5
                have hfz74_6 := blk_frozen BK239.out 6
                have hfz74_7 := blk_frozen BK239.out 7
                have hfz74_8 := blk_frozen BK239.out 8
                go_wp2
                go_meet
                case rel => exact ⟨_, (false), (by first | rfl | (simp; done) | (simp [*]; done)), H', ⟨by have := HJ2.out; have := HJ22.out; first | omega | exact Nat.le_refl _⟩, ⟨by (with_reducible repeat (first | refine blk_drewN ?_ _ | refine blk_drew ?_ | refine blk_alloc ?_ _)); exact BK239.out⟩, ⟨by (with_reducible repeat (first | refine blk_drewN ?_ _ | refine blk_drew ?_ | refine blk_alloc ?_ _)); exact BK244.out⟩, ⟨by (with_reducible repeat (first | refine blk_drewN ?_ _ | refine blk_drew ?_ | refine blk_alloc ?_ _)); exact BK249.out⟩, ⟨by repeat (first | (with_reducible first | exact HB.out | apply below_alloc | apply pw_below_drewN | apply below_drew1 | refine below_set ?_ GE239.out | refine below_set ?_ GE244.out | refine below_set ?_ GE249.out) | exact HB.out)⟩⟩
            case rest =>
              clear HC47
              try clear c1
              try clear c2
              try clear p2
              try clear c3
              try clear c4
              try clear c5
              try clear c6
              try clear p6
              try clear c7
              try clear c8
              try clear c10
              try clear c11
              try clear c11b0
              try clear c11b1
              try clear c12
              try clear c12b0
              try clear c13
              try clear c14
              try clear c16
              try clear c19
              try clear c21
              try clear c22
              try clear c23
              try clear c24
              try clear c29
              try clear c30
              try clear c32
              try clear c32b0
              try clear c33
              try clear c33b0
              try clear c34
              try clear c34b0
              try clear c35
              try clear c36
              try clear c38
              try clear c39
              try clear c41
              try clear c42
              try clear c44
              try clear c45
              try clear c48
              try clear c48b0
              try clear c49
              try clear c49b0
              try clear c50
              try clear c50b0
              try clear c51
              try clear c51b0
              try clear c52
              try clear c52b0
              try clear c53
              try clear c53b0
              try clear c54
              try clear c55
              try clear c57
              try clear c58
              try clear c60
              try clear c61
              try clear c63
              try clear c64
              try clear p64
              try clear c66
              try clear c67
              try clear c69
              try clear c70
              try clear c72
              try clear c73
              try clear hcz14_0
              try clear hcz14_1
              try clear hcz14_2
              try clear hcz15_0
              try clear hcz15_1
              try clear hcz15_2
              try clear hcz15_3
              try clear hcz15_4
              try clear hcz15_5
              try clear hcz15_6
              try clear hcz15_7
              try clear hcz15_8
              try clear hcz17_0
              try clear hcz17_1
              try clear hcz17_2
              try clear hcz18_0
              try clear hcz18_1
              try clear hcz18_2
              try clear hcz18_3
              try clear hcz18_4
              try clear hcz18_5
              try clear hcz18_6
              try clear hcz18_7
              try clear hcz18_8
              try clear hcz20_0
              try clear hcz20_1
              try clear hcz20_2
              try clear hcz25_0
              try clear hcz25_1
              try clear hcz25_2
              try clear hcz26_0
              try clear hcz26_1
              try clear hcz26_2
              try clear hcz26_3
              try clear hcz26_4
              try clear hcz26_5
              try clear hcz26_6
              try clear hcz26_7
              try clear hcz26_8
              try clear hcz31_0
              try clear hcz31_1
              try clear hcz31_2
              try clear hcz37_0
              try clear hcz37_1
              try clear hcz37_2
              try clear hcz37_3
              try clear hcz37_4
              try clear hcz37_5
              try clear hcz37_6
              try clear hcz37_7
              try clear hcz37_8
              try clear hcz40_0
              try clear hcz40_1
              try clear hcz40_2
              try clear hcz40_3
              try clear hcz40_4
              try clear hcz40_5
              try clear hcz40_6
              try clear hcz40_7
              try clear hcz40_8
              try clear hcz43_0
              try clear hcz43_1
              try clear hcz43_2
              try clear hcz43_3
              try clear hcz43_4
              try clear hcz43_5
              try clear hcz43_6
              try clear hcz43_7
              try clear hcz43_8
              try clear hcz46_0
              try clear hcz46_1
              try clear hcz46_2
              try clear hcz46_3
              try clear hcz46_4
              try clear hcz46_5
              try clear hcz46_6
              try clear hcz46_7
              try clear hcz46_8
              try clear hcz56_0
              try clear hcz56_1
              try clear hcz56_2
              try clear hcz56_3
              try clear hcz56_4
              try clear hcz56_5
              try clear hcz56_6
              try clear hcz56_7
              try clear hcz56_8
              try clear hcz59_0
              try clear hcz59_1
              try clear hcz59_2
              try clear hcz59_3
              try clear hcz59_4
              try clear hcz59_5
              try clear hcz59_6
              try clear hcz59_7
              try clear hcz59_8
              try clear hcz5_0
              try clear hcz5_1
              try clear hcz5_2
              try clear hcz5_3
              try clear hcz5_4
              try clear hcz5_5
              try clear hcz5_6
              try clear hcz5_7
              try clear hcz5_8
              try clear hcz62_0
              try clear hcz62_1
              try clear hcz62_2
              try clear hcz62_3
              try clear hcz62_4
              try clear hcz62_5
              try clear hcz62_6
              try clear hcz62_7
              try clear hcz62_8
              try clear hcz65_0
              try clear hcz65_1
              try clear hcz65_2
              try clear hcz65_3
              try clear hcz65_4
              try clear hcz65_5
              try clear hcz65_6
              try clear hcz65_7
              try clear hcz65_8
              try clear hcz68_0
              try clear hcz68_1
              try clear hcz68_2
              try clear hcz68_3
              try clear hcz68_4
              try clear hcz68_5
              try clear hcz68_6
              try clear hcz68_7
              try clear hcz68_8
              try clear hcz71_0
              try clear hcz71_1
              try clear hcz71_2
              try clear hcz71_3
              try clear hcz71_4
              try clear hcz71_5
              try clear hcz71_6
              try clear hcz71_7
              try clear hcz71_8
              try clear hcz74_0
              try clear hcz74_1
              try clear hcz74_2
              try clear hcz74_3
              try clear hcz74_4
              try clear hcz74_5
              try clear hcz74_6
              try clear hcz74_7
              try clear hcz74_8
              try clear hcz9_0
              try clear hcz9_1
              try clear hcz9_2
              try clear hfz14_0
              try clear hfz14_1
              try clear hfz14_2
              try clear hfz15_0
              try clear hfz15_1
              try clear hfz15_2
              try clear hfz15_3
              try clear hfz15_4
              try clear hfz15_5
              try clear hfz15_6
              try clear hfz15_7
              try clear hfz15_8
              try clear hfz17_0
              try clear hfz17_1
              try clear hfz17_2
              try clear hfz18_0
              try clear hfz18_1
              try clear hfz18_2
              try clear hfz18_3
              try clear hfz18_4
              try clear hfz18_5
              try clear hfz18_6
              try clear hfz18_7
              try clear hfz18_8
              try clear hfz20_0
              try clear hfz20_1
              try clear hfz20_2
              try clear hfz25_0
              try clear hfz25_1
              try clear hfz25_2
              try clear hfz26_0
              try clear hfz26_1
              try clear hfz26_2
              try clear hfz26_3
              try clear hfz26_4
              try clear hfz26_5
              try clear hfz26_6
              try clear hfz26_7
              try clear hfz26_8
              try clear hfz31_0
              try clear hfz31_1
              try clear hfz31_2
              try clear hfz37_0
              try clear hfz37_1
              try clear hfz37_2
              try clear hfz37_3
              try clear hfz37_4
              try clear hfz37_5
              try clear hfz37_6
              try clear hfz37_7
              try clear hfz37_8
              try clear hfz40_0
              try clear hfz40_1
              try clear hfz40_2
              try clear hfz40_3
              try clear hfz40_4
              try clear hfz40_5
              try clear hfz40_6
              try clear hfz40_7
              try clear hfz40_8
              try clear hfz43_0
              try clear hfz43_1
              try clear hfz43_2
              try clear hfz43_3
              try clear hfz43_4
              try clear hfz43_5
              try clear hfz43_6
              try clear hfz43_7
              try clear hfz43_8
              try clear hfz46_0
              try clear hfz46_1
              try clear hfz46_2
              try clear hfz46_3
              try clear hfz46_4
              try clear hfz46_5
              try clear hfz46_6
              try clear hfz46_7
              try clear hfz46_8
              try clear hfz56_0
              try clear hfz56_1
              try clear hfz56_2
              try clear hfz56_3
              try clear hfz56_4
              try clear hfz56_5
              try clear hfz56_6
              try clear hfz56_7
              try clear hfz56_8
              try clear hfz59_0
              try clear hfz59_1
              try clear hfz59_2
              try clear hfz59_3
              try clear hfz59_4
              try clear hfz59_5
              try clear hfz59_6
              try clear hfz59_7
              try clear hfz59_8
              try clear hfz5_0
              try clear hfz5_1
              try clear hfz5_2
              try clear hfz5_3
              try clear hfz5_4
              try clear hfz5_5
              try clear hfz5_6
              try clear hfz5_7
              try clear hfz5_8
              try clear hfz62_0
              try clear hfz62_1
              try clear hfz62_2
              try clear hfz62_3
              try clear hfz62_4
              try clear hfz62_5
              try clear hfz62_6
              try clear hfz62_7
              try clear hfz62_8
              try clear hfz65_0
              try clear hfz65_1
              try clear hfz65_2
              try clear hfz65_3
              try clear hfz65_4
              try clear hfz65_5
              try clear hfz65_6
              try clear hfz65_7
              try clear hfz65_8
              try clear hfz68_0
              try clear hfz68_1
              try clear hfz68_2
              try clear hfz68_3
              try clear hfz68_4
              try clear hfz68_5
              try clear hfz68_6
              try clear hfz68_7
              try clear hfz68_8
              try clear hfz71_0
              try clear hfz71_1
              try clear hfz71_2
              try clear hfz71_3
              try clear hfz71_4
              try clear hfz71_5
              try clear hfz71_6
              try clear hfz71_7
              try clear hfz71_8
              try clear hfz74_0
              try clear hfz74_1
              try clear hfz74_2
              try clear hfz74_3
              try clear hfz74_4
              try clear hfz74_5
              try clear hfz74_6
              try clear hfz74_7
              try clear hfz74_8
              try clear hfz9_0
              try clear hfz9_1
              try clear hfz9_2
              try clear p2
              obtain ⟨kq, x8_46, rfl, HA, HJ46, BK239, BK244, BK249, HB⟩ := hcut
              cases kq with
              | zero => exact absurd HA.out (by simp [trivetref11_May.j2])
              | succ kj46 =>
                have H := HA.out
                clear HA
                simp only [trivetref11_May.j2] at H
                have HC75 := Aside0.mk H
                clear H
                go_upto_region 7 with (fail)
                go_cut [2] (fun v2 wc => ∃ (kq : Nat) (x2_74 : Bool), v2 = .bool x2_74 ∧ Aside0 (trivetref11_May.j3 kq x2_74 = some r) ∧ Aside0 (kq ≤ kj46) ∧ Aside0 (wc.heap[gb239]? = some (.cells #[.int .i64 a0_0, .int .i64 a0_1, .int .i64 a0_2, .int .i64 a0_3, .int .i64 a0_4, .int .i64 a0_5, .int .i64 a0_6, .int .i64 a0_7, .int .i64 a0_8] 23 (0, 0))) ∧ Aside0 (wc.heap[gb244]? = some (.cells #[.int .i64 t240, .int .i64 t241, .int .i64 t242] 56 (0, 0))) ∧ Aside0 (wc.heap[gb249]? = some (.cells #[.int .i64 t245, .int .i64 t246, .int .i64 t247] 56 (0, 0))) ∧ Aside0 (Below w.heap.size w wc))
                case first =>
                  have H := HC75.out
                  clear HC75
                  by_cases c76 : t248 = true
                  · subst c76
                    have H1 : (if x7_22 = true then (if x8_46 = true then (if a0_5 ≥ 1 then (if a0_5 ≤ 64 then (if a0_6 ≥ 1 then (trivetref11_May.j3 kj46 (decide (a0_6 ≤ 3))) else (trivetref11_May.j3 kj46 false)) else (trivetref11_May.j3 kj46 false)) else (trivetref11_May.j3 kj46 false)) else (trivetref11_May.j3 kj46 false)) else (trivetref11_May.j3 kj46 false)) = some r := by rw [if_pos rfl] at H; exact H
                    clear H
                    have H := H1
                    clear H1
                    by_cases c77 : x7_22 = true
                    · subst c77
                      have H1 : (if x8_46 = true then (if a0_5 ≥ 1 then (if a0_5 ≤ 64 then (if a0_6 ≥ 1 then (trivetref11_May.j3 kj46 (decide (a0_6 ≤ 3))) else (trivetref11_May.j3 kj46 false)) else (trivetref11_May.j3 kj46 false)) else (trivetref11_May.j3 kj46 false)) else (trivetref11_May.j3 kj46 false)) = some r := by rw [if_pos rfl] at H; exact H
                      clear H
                      have H := H1
                      clear H1
                      by_cases c78 : x8_46 = true
                      · subst c78
                        have H1 : (if a0_5 ≥ 1 then (if a0_5 ≤ 64 then (if a0_6 ≥ 1 then (trivetref11_May.j3 kj46 (decide (a0_6 ≤ 3))) else (trivetref11_May.j3 kj46 false)) else (trivetref11_May.j3 kj46 false)) else (trivetref11_May.j3 kj46 false)) = some r := by rw [if_pos rfl] at H; exact H
                        clear H
                        have H := H1
                        clear H1
                        by_cases c79 : a0_5 ≥ 1
                        · rw [if_pos c79] at H
                          have c79b0 : decide (1 ≤ a0_5) = true := decide_eq_true c79
                          clear c79
                          (first | rw [c79b0] | (simp only [i64_w, i32_w]; rw [c79b0]) | skip)
                          by_cases c80 : a0_5 ≤ 64
                          · rw [if_pos c80] at H
                            have c80b0 : decide (a0_5 ≤ 64) = true := decide_eq_true c80
                            clear c80
                            by_cases c81 : a0_6 ≥ 1
                            · rw [if_pos c81] at H
                              have c81b0 : decide (1 ≤ a0_6) = true := decide_eq_true c81
                              clear c81
                              have H' := Aside0.mk H
                              clear H
                              have hnb82 := NB239_244.out
                              have hnc82 := NB244_239.out
                              have hnb83 := NB239_249.out
                              have hnc83 := NB249_239.out
                              have hcz84_0 : wc.cell? ⟨gb239, 0, none⟩ = some (.int .i64 a0_0) := (blk_cell BK239.out 0).trans rfl
                              have hcz84_1 : wc.cell? ⟨gb239, 1, none⟩ = some (.int .i64 a0_1) := (blk_cell BK239.out 1).trans rfl
                              have hcz84_2 : wc.cell? ⟨gb239, 2, none⟩ = some (.int .i64 a0_2) := (blk_cell BK239.out 2).trans rfl
                              have hcz84_3 : wc.cell? ⟨gb239, 3, none⟩ = some (.int .i64 a0_3) := (blk_cell BK239.out 3).trans rfl
                              have hcz84_4 : wc.cell? ⟨gb239, 4, none⟩ = some (.int .i64 a0_4) := (blk_cell BK239.out 4).trans rfl
                              have hcz84_5 : wc.cell? ⟨gb239, 5, none⟩ = some (.int .i64 a0_5) := (blk_cell BK239.out 5).trans rfl
                              have hcz84_6 : wc.cell? ⟨gb239, 6, none⟩ = some (.int .i64 a0_6) := (blk_cell BK239.out 6).trans rfl
                              have hcz84_7 : wc.cell? ⟨gb239, 7, none⟩ = some (.int .i64 a0_7) := (blk_cell BK239.out 7).trans rfl
                              have hcz84_8 : wc.cell? ⟨gb239, 8, none⟩ = some (.int .i64 a0_8) := (blk_cell BK239.out 8).trans rfl
                              have hfz84_0 := blk_frozen BK239.out 0
                              have hfz84_1 := blk_frozen BK239.out 1
                              have hfz84_2 := blk_frozen BK239.out 2
                              have hfz84_3 := blk_frozen BK239.out 3
                              have hfz84_4 := blk_frozen BK239.out 4
                              have hfz84_5 := blk_frozen BK239.out 5
                              have hfz84_6 := blk_frozen BK239.out 6
                              have hfz84_7 := blk_frozen BK239.out 7
                              have hfz84_8 := blk_frozen BK239.out 8
                              go_wp2
                              go_meet
                              case rel => exact ⟨_, (decide (a0_6 ≤ 3)), (by first | rfl | (simp; done) | (simp [*]; done)), H', ⟨by have := HJ2.out; have := HJ22.out; have := HJ46.out; first | omega | exact Nat.le_refl _⟩, ⟨by (with_reducible repeat (first | refine blk_drewN ?_ _ | refine blk_drew ?_ | refine blk_alloc ?_ _)); exact BK239.out⟩, ⟨by (with_reducible repeat (first | refine blk_drewN ?_ _ | refine blk_drew ?_ | refine blk_alloc ?_ _)); exact BK244.out⟩, ⟨by (with_reducible repeat (first | refine blk_drewN ?_ _ | refine blk_drew ?_ | refine blk_alloc ?_ _)); exact BK249.out⟩, ⟨by repeat (first | (with_reducible first | exact HB.out | apply below_alloc | apply pw_below_drewN | apply below_drew1 | refine below_set ?_ GE239.out | refine below_set ?_ GE244.out | refine below_set ?_ GE249.out) | exact HB.out)⟩⟩
                            · rw [if_neg c81] at H
                              have c81b0 : decide (1 ≤ a0_6) = false := decide_eq_false c81
                              clear c81
                              have H' := Aside0.mk H
                              clear H
                              have hnb85 := NB239_244.out
                              have hnc85 := NB244_239.out
                              have hnb86 := NB239_249.out
                              have hnc86 := NB249_239.out
                              have hcz87_0 : wc.cell? ⟨gb239, 0, none⟩ = some (.int .i64 a0_0) := (blk_cell BK239.out 0).trans rfl
                              have hcz87_1 : wc.cell? ⟨gb239, 1, none⟩ = some (.int .i64 a0_1) := (blk_cell BK239.out 1).trans rfl
                              have hcz87_2 : wc.cell? ⟨gb239, 2, none⟩ = some (.int .i64 a0_2) := (blk_cell BK239.out 2).trans rfl
                              have hcz87_3 : wc.cell? ⟨gb239, 3, none⟩ = some (.int .i64 a0_3) := (blk_cell BK239.out 3).trans rfl
                              have hcz87_4 : wc.cell? ⟨gb239, 4, none⟩ = some (.int .i64 a0_4) := (blk_cell BK239.out 4).trans rfl
                              have hcz87_5 : wc.cell? ⟨gb239, 5, none⟩ = some (.int .i64 a0_5) := (blk_cell BK239.out 5).trans rfl
                              have hcz87_6 : wc.cell? ⟨gb239, 6, none⟩ = some (.int .i64 a0_6) := (blk_cell BK239.out 6).trans rfl
                              have hcz87_7 : wc.cell? ⟨gb239, 7, none⟩ = some (.int .i64 a0_7) := (blk_cell BK239.out 7).trans rfl
                              have hcz87_8 : wc.cell? ⟨gb239, 8, none⟩ = some (.int .i64 a0_8) := (blk_cell BK239.out 8).trans rfl
                              have hfz87_0 := blk_frozen BK239.out 0
                              have hfz87_1 := blk_frozen BK239.out 1
                              have hfz87_2 := blk_frozen BK239.out 2
                              have hfz87_3 := blk_frozen BK239.out 3
                              have hfz87_4 := blk_frozen BK239.out 4
                              have hfz87_5 := blk_frozen BK239.out 5
                              have hfz87_6 := blk_frozen BK239.out 6
                              have hfz87_7 := blk_frozen BK239.out 7
                              have hfz87_8 := blk_frozen BK239.out 8
                              go_wp2
                              go_meet
                              case rel => exact ⟨_, (false), (by first | rfl | (simp; done) | (simp [*]; done)), H', ⟨by have := HJ2.out; have := HJ22.out; have := HJ46.out; first | omega | exact Nat.le_refl _⟩, ⟨by (with_reducible repeat (first | refine blk_drewN ?_ _ | refine blk_drew ?_ | refine blk_alloc ?_ _)); exact BK239.out⟩, ⟨by (with_reducible repeat (first | refine blk_drewN ?_ _ | refine blk_drew ?_ | refine blk_alloc ?_ _)); exact BK244.out⟩, ⟨by (with_reducible repeat (first | refine blk_drewN ?_ _ | refine blk_drew ?_ | refine blk_alloc ?_ _)); exact BK249.out⟩, ⟨by repeat (first | (with_reducible first | exact HB.out | apply below_alloc | apply pw_below_drewN | apply below_drew1 | refine below_set ?_ GE239.out | refine below_set ?_ GE244.out | refine below_set ?_ GE249.out) | exact HB.out)⟩⟩
                          · rw [if_neg c80] at H
                            have c80b0 : decide (a0_5 ≤ 64) = false := decide_eq_false c80
                            clear c80
                            have H' := Aside0.mk H
                            clear H
                            have hnb88 := NB239_244.out
                            have hnc88 := NB244_239.out
                            have hnb89 := NB239_249.out
                            have hnc89 := NB249_239.out
                            have hcz90_0 : wc.cell? ⟨gb239, 0, none⟩ = some (.int .i64 a0_0) := (blk_cell BK239.out 0).trans rfl
                            have hcz90_1 : wc.cell? ⟨gb239, 1, none⟩ = some (.int .i64 a0_1) := (blk_cell BK239.out 1).trans rfl
                            have hcz90_2 : wc.cell? ⟨gb239, 2, none⟩ = some (.int .i64 a0_2) := (blk_cell BK239.out 2).trans rfl
                            have hcz90_3 : wc.cell? ⟨gb239, 3, none⟩ = some (.int .i64 a0_3) := (blk_cell BK239.out 3).trans rfl
                            have hcz90_4 : wc.cell? ⟨gb239, 4, none⟩ = some (.int .i64 a0_4) := (blk_cell BK239.out 4).trans rfl
                            have hcz90_5 : wc.cell? ⟨gb239, 5, none⟩ = some (.int .i64 a0_5) := (blk_cell BK239.out 5).trans rfl
                            have hcz90_6 : wc.cell? ⟨gb239, 6, none⟩ = some (.int .i64 a0_6) := (blk_cell BK239.out 6).trans rfl
                            have hcz90_7 : wc.cell? ⟨gb239, 7, none⟩ = some (.int .i64 a0_7) := (blk_cell BK239.out 7).trans rfl
                            have hcz90_8 : wc.cell? ⟨gb239, 8, none⟩ = some (.int .i64 a0_8) := (blk_cell BK239.out 8).trans rfl
                            have hfz90_0 := blk_frozen BK239.out 0
                            have hfz90_1 := blk_frozen BK239.out 1
                            have hfz90_2 := blk_frozen BK239.out 2
                            have hfz90_3 := blk_frozen BK239.out 3
                            have hfz90_4 := blk_frozen BK239.out 4
                            have hfz90_5 := blk_frozen BK239.out 5
                            have hfz90_6 := blk_frozen BK239.out 6
                            have hfz90_7 := blk_frozen BK239.out 7
                            have hfz90_8 := blk_frozen BK239.out 8
                            go_wp2
                            go_meet
                            case rel => exact ⟨_, (false), (by first | rfl | (simp; done) | (simp [*]; done)), H', ⟨by have := HJ2.out; have := HJ22.out; have := HJ46.out; first | omega | exact Nat.le_refl _⟩, ⟨by (with_reducible repeat (first | refine blk_drewN ?_ _ | refine blk_drew ?_ | refine blk_alloc ?_ _)); exact BK239.out⟩, ⟨by (with_reducible repeat (first | refine blk_drewN ?_ _ | refine blk_drew ?_ | refine blk_alloc ?_ _)); exact BK244.out⟩, ⟨by (with_reducible repeat (first | refine blk_drewN ?_ _ | refine blk_drew ?_ | refine blk_alloc ?_ _)); exact BK249.out⟩, ⟨by repeat (first | (with_reducible first | exact HB.out | apply below_alloc | apply pw_below_drewN | apply below_drew1 | refine below_set ?_ GE239.out | refine below_set ?_ GE244.out | refine below_set ?_ GE249.out) | exact HB.out)⟩⟩
                        · rw [if_neg c79] at H
                          have c79b0 : decide (1 ≤ a0_5) = false := decide_eq_false c79
                          clear c79
                          (first | rw [c79b0] | (simp only [i64_w, i32_w]; rw [c79b0]) | skip)
                          have H' := Aside0.mk H
                          clear H
                          have hnb91 := NB239_244.out
                          have hnc91 := NB244_239.out
                          have hnb92 := NB239_249.out
                          have hnc92 := NB249_239.out
                          have hcz93_0 : wc.cell? ⟨gb239, 0, none⟩ = some (.int .i64 a0_0) := (blk_cell BK239.out 0).trans rfl
                          have hcz93_1 : wc.cell? ⟨gb239, 1, none⟩ = some (.int .i64 a0_1) := (blk_cell BK239.out 1).trans rfl
                          have hcz93_2 : wc.cell? ⟨gb239, 2, none⟩ = some (.int .i64 a0_2) := (blk_cell BK239.out 2).trans rfl
                          have hcz93_3 : wc.cell? ⟨gb239, 3, none⟩ = some (.int .i64 a0_3) := (blk_cell BK239.out 3).trans rfl
                          have hcz93_4 : wc.cell? ⟨gb239, 4, none⟩ = some (.int .i64 a0_4) := (blk_cell BK239.out 4).trans rfl
                          have hcz93_5 : wc.cell? ⟨gb239, 5, none⟩ = some (.int .i64 a0_5) := (blk_cell BK239.out 5).trans rfl
                          have hcz93_6 : wc.cell? ⟨gb239, 6, none⟩ = some (.int .i64 a0_6) := (blk_cell BK239.out 6).trans rfl
                          have hcz93_7 : wc.cell? ⟨gb239, 7, none⟩ = some (.int .i64 a0_7) := (blk_cell BK239.out 7).trans rfl
                          have hcz93_8 : wc.cell? ⟨gb239, 8, none⟩ = some (.int .i64 a0_8) := (blk_cell BK239.out 8).trans rfl
                          have hfz93_0 := blk_frozen BK239.out 0
                          have hfz93_1 := blk_frozen BK239.out 1
                          have hfz93_2 := blk_frozen BK239.out 2
                          have hfz93_3 := blk_frozen BK239.out 3
                          have hfz93_4 := blk_frozen BK239.out 4
                          have hfz93_5 := blk_frozen BK239.out 5
                          have hfz93_6 := blk_frozen BK239.out 6
                          have hfz93_7 := blk_frozen BK239.out 7
                          have hfz93_8 := blk_frozen BK239.out 8
                          go_wp2
                          go_meet
                          case rel => exact ⟨_, (false), (by first | rfl | (simp; done) | (simp [*]; done)), H', ⟨by have := HJ2.out; have := HJ22.out; have := HJ46.out; first | omega | exact Nat.le_refl _⟩, ⟨by (with_reducible repeat (first | refine blk_drewN ?_ _ | refine blk_drew ?_ | refine blk_alloc ?_ _)); exact BK239.out⟩, ⟨by (with_reducible repeat (first | refine blk_drewN ?_ _ | refine blk_drew ?_ | refine blk_alloc ?_ _)); exact BK244.out⟩, ⟨by (with_reducible repeat (first | refine blk_drewN ?_ _ | refine blk_drew ?_ | refine blk_alloc ?_ _)); exact BK249.out⟩, ⟨by repeat (first | (with_reducible first | exact HB.out | apply below_alloc | apply pw_below_drewN | apply below_drew1 | refine below_set ?_ GE239.out | refine below_set ?_ GE244.out | refine below_set ?_ GE249.out) | exact HB.out)⟩⟩
                      · replace c78 := Bool.eq_false_iff.mpr c78
                        subst c78
                        have H1 : (trivetref11_May.j3 kj46 false) = some r := by rw [if_neg (show ¬ (false = true) by decide)] at H; exact H
                        clear H
                        have H := H1
                        clear H1
                        have H' := Aside0.mk H
                        clear H
                        go_wp2
                        go_meet
                        case rel => exact ⟨_, (false), (by first | rfl | (simp; done) | (simp [*]; done)), H', ⟨by have := HJ2.out; have := HJ22.out; have := HJ46.out; first | omega | exact Nat.le_refl _⟩, ⟨by (with_reducible repeat (first | refine blk_drewN ?_ _ | refine blk_drew ?_ | refine blk_alloc ?_ _)); exact BK239.out⟩, ⟨by (with_reducible repeat (first | refine blk_drewN ?_ _ | refine blk_drew ?_ | refine blk_alloc ?_ _)); exact BK244.out⟩, ⟨by (with_reducible repeat (first | refine blk_drewN ?_ _ | refine blk_drew ?_ | refine blk_alloc ?_ _)); exact BK249.out⟩, ⟨by repeat (first | (with_reducible first | exact HB.out | apply below_alloc | apply pw_below_drewN | apply below_drew1 | refine below_set ?_ GE239.out | refine below_set ?_ GE244.out | refine below_set ?_ GE249.out) | exact HB.out)⟩⟩
                    · replace c77 := Bool.eq_false_iff.mpr c77
                      subst c77
                      have H1 : (trivetref11_May.j3 kj46 false) = some r := by rw [if_neg (show ¬ (false = true) by decide)] at H; exact H
                      clear H
                      have H := H1
                      clear H1
                      have H' := Aside0.mk H
                      clear H
                      go_wp2
                      go_meet
                      case rel => exact ⟨_, (false), (by first | rfl | (simp; done) | (simp [*]; done)), H', ⟨by have := HJ2.out; have := HJ22.out; have := HJ46.out; first | omega | exact Nat.le_refl _⟩, ⟨by (with_reducible repeat (first | refine blk_drewN ?_ _ | refine blk_drew ?_ | refine blk_alloc ?_ _)); exact BK239.out⟩, ⟨by (with_reducible repeat (first | refine blk_drewN ?_ _ | refine blk_drew ?_ | refine blk_alloc ?_ _)); exact BK244.out⟩, ⟨by (with_reducible repeat (first | refine blk_drewN ?_ _ | refine blk_drew ?_ | refine blk_alloc ?_ _)); exact BK249.out⟩, ⟨by repeat (first | (with_reducible first | exact HB.out | apply below_alloc | apply pw_below_drewN | apply below_drew1 | refine below_set ?_ GE239.out | refine below_set ?_ GE244.out | refine below_set ?_ GE249.out) | exact HB.out)⟩⟩
                  · replace c76 := Bool.eq_false_iff.mpr c76
                    subst c76
                    have H1 : (trivetref11_May.j3 kj46 false) = some r := by rw [if_neg (show ¬ (false = true) by decide)] at H; exact H
                    clear H
                    have H := H1
                    clear H1
                    have H' := Aside0.mk H
                    clear H
                    go_wp2
                    go_meet
                    case rel => exact ⟨_, (false), (by first | rfl | (simp; done) | (simp [*]; done)), H', ⟨by have := HJ2.out; have := HJ22.out; have := HJ46.out; first | omega | exact Nat.le_refl _⟩, ⟨by (with_reducible repeat (first | refine blk_drewN ?_ _ | refine blk_drew ?_ | refine blk_alloc ?_ _)); exact BK239.out⟩, ⟨by (with_reducible repeat (first | refine blk_drewN ?_ _ | refine blk_drew ?_ | refine blk_alloc ?_ _)); exact BK244.out⟩, ⟨by (with_reducible repeat (first | refine blk_drewN ?_ _ | refine blk_drew ?_ | refine blk_alloc ?_ _)); exact BK249.out⟩, ⟨by repeat (first | (with_reducible first | exact HB.out | apply below_alloc | apply pw_below_drewN | apply below_drew1 | refine below_set ?_ GE239.out | refine below_set ?_ GE244.out | refine below_set ?_ GE249.out) | exact HB.out)⟩⟩
                case rest =>
                  clear HC75
                  try clear c1
                  try clear c2
                  try clear p2
                  try clear c3
                  try clear c4
                  try clear c5
                  try clear c6
                  try clear p6
                  try clear c7
                  try clear c8
                  try clear c9
                  try clear c10
                  try clear c11
                  try clear c11b0
                  try clear c11b1
                  try clear c12
                  try clear c12b0
                  try clear c13
                  try clear c14
                  try clear c16
                  try clear c19
                  try clear c21
                  try clear c22
                  try clear c23
                  try clear c24
                  try clear c29
                  try clear c30
                  try clear c32
                  try clear c32b0
                  try clear c33
                  try clear c33b0
                  try clear c34
                  try clear c34b0
                  try clear c35
                  try clear c36
                  try clear c38
                  try clear c39
                  try clear c41
                  try clear c42
                  try clear c44
                  try clear c45
                  try clear c48
                  try clear c48b0
                  try clear c49
                  try clear c49b0
                  try clear c50
                  try clear c50b0
                  try clear c51
                  try clear c51b0
                  try clear c52
                  try clear c52b0
                  try clear c53
                  try clear c53b0
                  try clear c54
                  try clear c55
                  try clear c57
                  try clear c58
                  try clear c60
                  try clear c61
                  try clear c63
                  try clear c64
                  try clear p64
                  try clear c66
                  try clear c67
                  try clear c69
                  try clear c70
                  try clear c72
                  try clear c73
                  try clear c76
                  try clear c77
                  try clear c78
                  try clear c79
                  try clear c79b0
                  try clear c80
                  try clear c80b0
                  try clear c81
                  try clear c81b0
                  try clear c82
                  try clear c83
                  try clear c85
                  try clear c86
                  try clear c88
                  try clear c89
                  try clear c91
                  try clear c92
                  try clear hcz14_0
                  try clear hcz14_1
                  try clear hcz14_2
                  try clear hcz15_0
                  try clear hcz15_1
                  try clear hcz15_2
                  try clear hcz15_3
                  try clear hcz15_4
                  try clear hcz15_5
                  try clear hcz15_6
                  try clear hcz15_7
                  try clear hcz15_8
                  try clear hcz17_0
                  try clear hcz17_1
                  try clear hcz17_2
                  try clear hcz18_0
                  try clear hcz18_1
                  try clear hcz18_2
                  try clear hcz18_3
                  try clear hcz18_4
                  try clear hcz18_5
                  try clear hcz18_6
                  try clear hcz18_7
                  try clear hcz18_8
                  try clear hcz20_0
                  try clear hcz20_1
                  try clear hcz20_2
                  try clear hcz25_0
                  try clear hcz25_1
                  try clear hcz25_2
                  try clear hcz26_0
                  try clear hcz26_1
                  try clear hcz26_2
                  try clear hcz26_3
                  try clear hcz26_4
                  try clear hcz26_5
                  try clear hcz26_6
                  try clear hcz26_7
                  try clear hcz26_8
                  try clear hcz31_0
                  try clear hcz31_1
                  try clear hcz31_2
                  try clear hcz37_0
                  try clear hcz37_1
                  try clear hcz37_2
                  try clear hcz37_3
                  try clear hcz37_4
                  try clear hcz37_5
                  try clear hcz37_6
                  try clear hcz37_7
                  try clear hcz37_8
                  try clear hcz40_0
                  try clear hcz40_1
                  try clear hcz40_2
                  try clear hcz40_3
                  try clear hcz40_4
                  try clear hcz40_5
                  try clear hcz40_6
                  try clear hcz40_7
                  try clear hcz40_8
                  try clear hcz43_0
                  try clear hcz43_1
                  try clear hcz43_2
                  try clear hcz43_3
                  try clear hcz43_4
                  try clear hcz43_5
                  try clear hcz43_6
                  try clear hcz43_7
                  try clear hcz43_8
                  try clear hcz46_0
                  try clear hcz46_1
                  try clear hcz46_2
                  try clear hcz46_3
                  try clear hcz46_4
                  try clear hcz46_5
                  try clear hcz46_6
                  try clear hcz46_7
                  try clear hcz46_8
                  try clear hcz56_0
                  try clear hcz56_1
                  try clear hcz56_2
                  try clear hcz56_3
                  try clear hcz56_4
                  try clear hcz56_5
                  try clear hcz56_6
                  try clear hcz56_7
                  try clear hcz56_8
                  try clear hcz59_0
                  try clear hcz59_1
                  try clear hcz59_2
                  try clear hcz59_3
                  try clear hcz59_4
                  try clear hcz59_5
                  try clear hcz59_6
                  try clear hcz59_7
                  try clear hcz59_8
                  try clear hcz5_0
                  try clear hcz5_1
                  try clear hcz5_2
                  try clear hcz5_3
                  try clear hcz5_4
                  try clear hcz5_5
                  try clear hcz5_6
                  try clear hcz5_7
                  try clear hcz5_8
                  try clear hcz62_0
                  try clear hcz62_1
                  try clear hcz62_2
                  try clear hcz62_3
                  try clear hcz62_4
                  try clear hcz62_5
                  try clear hcz62_6
                  try clear hcz62_7
                  try clear hcz62_8
                  try clear hcz65_0
                  try clear hcz65_1
                  try clear hcz65_2
                  try clear hcz65_3
                  try clear hcz65_4
                  try clear hcz65_5
                  try clear hcz65_6
                  try clear hcz65_7
                  try clear hcz65_8
                  try clear hcz68_0
                  try clear hcz68_1
                  try clear hcz68_2
                  try clear hcz68_3
                  try clear hcz68_4
                  try clear hcz68_5
                  try clear hcz68_6
                  try clear hcz68_7
                  try clear hcz68_8
                  try clear hcz71_0
                  try clear hcz71_1
                  try clear hcz71_2
                  try clear hcz71_3
                  try clear hcz71_4
                  try clear hcz71_5
                  try clear hcz71_6
                  try clear hcz71_7
                  try clear hcz71_8
                  try clear hcz74_0
                  try clear hcz74_1
                  try clear hcz74_2
                  try clear hcz74_3
                  try clear hcz74_4
                  try clear hcz74_5
                  try clear hcz74_6
                  try clear hcz74_7
                  try clear hcz74_8
                  try clear hcz84_0
                  try clear hcz84_1
                  try clear hcz84_2
                  try clear hcz84_3
                  try clear hcz84_4
                  try clear hcz84_5
                  try clear hcz84_6
                  try clear hcz84_7
                  try clear hcz84_8
                  try clear hcz87_0
                  try clear hcz87_1
                  try clear hcz87_2
                  try clear hcz87_3
                  try clear hcz87_4
                  try clear hcz87_5
                  try clear hcz87_6
                  try clear hcz87_7
                  try clear hcz87_8
                  try clear hcz90_0
                  try clear hcz90_1
                  try clear hcz90_2
                  try clear hcz90_3
                  try clear hcz90_4
                  try clear hcz90_5
                  try clear hcz90_6
                  try clear hcz90_7
                  try clear hcz90_8
                  try clear hcz93_0
                  try clear hcz93_1
                  try clear hcz93_2
                  try clear hcz93_3
                  try clear hcz93_4
                  try clear hcz93_5
                  try clear hcz93_6
                  try clear hcz93_7
                  try clear hcz93_8
                  try clear hcz9_0
                  try clear hcz9_1
                  try clear hcz9_2
                  try clear hfz14_0
                  try clear hfz14_1
                  try clear hfz14_2
                  try clear hfz15_0
                  try clear hfz15_1
                  try clear hfz15_2
                  try clear hfz15_3
                  try clear hfz15_4
                  try clear hfz15_5
                  try clear hfz15_6
                  try clear hfz15_7
                  try clear hfz15_8
                  try clear hfz17_0
                  try clear hfz17_1
                  try clear hfz17_2
                  try clear hfz18_0
                  try clear hfz18_1
                  try clear hfz18_2
                  try clear hfz18_3
                  try clear hfz18_4
                  try clear hfz18_5
                  try clear hfz18_6
                  try clear hfz18_7
                  try clear hfz18_8
                  try clear hfz20_0
                  try clear hfz20_1
                  try clear hfz20_2
                  try clear hfz25_0
                  try clear hfz25_1
                  try clear hfz25_2
                  try clear hfz26_0
                  try clear hfz26_1
                  try clear hfz26_2
                  try clear hfz26_3
                  try clear hfz26_4
                  try clear hfz26_5
                  try clear hfz26_6
                  try clear hfz26_7
                  try clear hfz26_8
                  try clear hfz31_0
                  try clear hfz31_1
                  try clear hfz31_2
                  try clear hfz37_0
                  try clear hfz37_1
                  try clear hfz37_2
                  try clear hfz37_3
                  try clear hfz37_4
                  try clear hfz37_5
                  try clear hfz37_6
                  try clear hfz37_7
                  try clear hfz37_8
                  try clear hfz40_0
                  try clear hfz40_1
                  try clear hfz40_2
                  try clear hfz40_3
                  try clear hfz40_4
                  try clear hfz40_5
                  try clear hfz40_6
                  try clear hfz40_7
                  try clear hfz40_8
                  try clear hfz43_0
                  try clear hfz43_1
                  try clear hfz43_2
                  try clear hfz43_3
                  try clear hfz43_4
                  try clear hfz43_5
                  try clear hfz43_6
                  try clear hfz43_7
                  try clear hfz43_8
                  try clear hfz46_0
                  try clear hfz46_1
                  try clear hfz46_2
                  try clear hfz46_3
                  try clear hfz46_4
                  try clear hfz46_5
                  try clear hfz46_6
                  try clear hfz46_7
                  try clear hfz46_8
                  try clear hfz56_0
                  try clear hfz56_1
                  try clear hfz56_2
                  try clear hfz56_3
                  try clear hfz56_4
                  try clear hfz56_5
                  try clear hfz56_6
                  try clear hfz56_7
                  try clear hfz56_8
                  try clear hfz59_0
                  try clear hfz59_1
                  try clear hfz59_2
                  try clear hfz59_3
                  try clear hfz59_4
                  try clear hfz59_5
                  try clear hfz59_6
                  try clear hfz59_7
                  try clear hfz59_8
                  try clear hfz5_0
                  try clear hfz5_1
                  try clear hfz5_2
                  try clear hfz5_3
                  try clear hfz5_4
                  try clear hfz5_5
                  try clear hfz5_6
                  try clear hfz5_7
                  try clear hfz5_8
                  try clear hfz62_0
                  try clear hfz62_1
                  try clear hfz62_2
                  try clear hfz62_3
                  try clear hfz62_4
                  try clear hfz62_5
                  try clear hfz62_6
                  try clear hfz62_7
                  try clear hfz62_8
                  try clear hfz65_0
                  try clear hfz65_1
                  try clear hfz65_2
                  try clear hfz65_3
                  try clear hfz65_4
                  try clear hfz65_5
                  try clear hfz65_6
                  try clear hfz65_7
                  try clear hfz65_8
                  try clear hfz68_0
                  try clear hfz68_1
                  try clear hfz68_2
                  try clear hfz68_3
                  try clear hfz68_4
                  try clear hfz68_5
                  try clear hfz68_6
                  try clear hfz68_7
                  try clear hfz68_8
                  try clear hfz71_0
                  try clear hfz71_1
                  try clear hfz71_2
                  try clear hfz71_3
                  try clear hfz71_4
                  try clear hfz71_5
                  try clear hfz71_6
                  try clear hfz71_7
                  try clear hfz71_8
                  try clear hfz74_0
                  try clear hfz74_1
                  try clear hfz74_2
                  try clear hfz74_3
                  try clear hfz74_4
                  try clear hfz74_5
                  try clear hfz74_6
                  try clear hfz74_7
                  try clear hfz74_8
                  try clear hfz84_0
                  try clear hfz84_1
                  try clear hfz84_2
                  try clear hfz84_3
                  try clear hfz84_4
                  try clear hfz84_5
                  try clear hfz84_6
                  try clear hfz84_7
                  try clear hfz84_8
                  try clear hfz87_0
                  try clear hfz87_1
                  try clear hfz87_2
                  try clear hfz87_3
                  try clear hfz87_4
                  try clear hfz87_5
                  try clear hfz87_6
                  try clear hfz87_7
                  try clear hfz87_8
                  try clear hfz90_0
                  try clear hfz90_1
                  try clear hfz90_2
                  try clear hfz90_3
                  try clear hfz90_4
                  try clear hfz90_5
                  try clear hfz90_6
                  try clear hfz90_7
                  try clear hfz90_8
                  try clear hfz93_0
                  try clear hfz93_1
                  try clear hfz93_2
                  try clear hfz93_3
                  try clear hfz93_4
                  try clear hfz93_5
                  try clear hfz93_6
                  try clear hfz93_7
                  try clear hfz93_8
                  try clear hfz9_0
                  try clear hfz9_1
                  try clear hfz9_2
                  try clear p2
                  try clear p6
                  try clear p64
                  obtain ⟨kq, x2_74, rfl, HA, HJ74, BK239, BK244, BK249, HB⟩ := hcut
                  cases kq with
                  | zero => exact absurd HA.out (by simp [trivetref11_May.j3])
                  | succ kj74 =>
                    have H := HA.out
                    clear HA
                    simp only [trivetref11_May.j3] at H
                    obtain rfl := Option.some.inj H
                    go_wp2
                    go_ret
                    exact ⟨by first | rfl | (simp [errW_none, errW_some] <;> rfl) | (simp [*, errW_none, errW_some] <;> rfl), by repeat (first | (with_reducible first | exact HB.out | apply below_alloc | apply pw_below_drewN | apply below_drew1 | refine below_set ?_ GE239.out | refine below_set ?_ GE244.out | refine below_set ?_ GE249.out) | exact HB.out)⟩

end Go.Proofs.Ytinpdbimbnhpoaa.P
