-- Written by a program of this session out of the translation of the seat: Lean functions and the proofs that the Go functions come to them.
import Derived.Test.YtinpdbimbnhpoaaPx0
import Derived.Test.YtinpdbimbnhpoaaPx12
namespace Go.Proofs.Ytinpdbimbnhpoaa.P
open Go.RowKit Go.Proofs.YtinpdbimbnhpoaaW.PrintWords Go.Proofs.YtinpdbimbnhpoaaW.PrintLast Go.Proofs.YtinpdbimbnhpoaaW.PrintMore
attribute [local go_sem] max2_int min2_int max_two min_two max_three min_three max_four min_four   -- for this text's walks alone
set_option linter.unusedVariables false
set_option linter.unusedSimpArgs false

/-! ### trivetref12_Rows: function 15 -/
mutual
def trivetref12_Rows.l0 : Nat → Int → List (S54) → Int → Int → Int → Int → Int → Int → Int → Int → Int → Int → Int → Option ((List (S54)))
  | 0, _, _, _, _, _, _, _, _, _, _, _, _, _ => none
  | k + 1, x3, x4, x5, x6, x270000, x270001, x270002, x270003, x270004, x270005, x270006, x270007, x270008 => if x6 < x270002 then (trivetref12_Rows.j1 k x3 x4 x5 x6 (decide (x5 > 0)) x270000 x270001 x270002 x270003 x270004 x270005 x270006 x270007 x270008) else (trivetref12_Rows.j1 k x3 x4 x5 x6 false x270000 x270001 x270002 x270003 x270004 x270005 x270006 x270007 x270008)
def trivetref12_Rows.j1 : Nat → Int → List (S54) → Int → Int → Bool → Int → Int → Int → Int → Int → Int → Int → Int → Int → Option ((List (S54)))
  | 0, _, _, _, _, _, _, _, _, _, _, _, _, _, _ => none
  | k + 1, x3, x4, x5, x6, x20, x270000, x270001, x270002, x270003, x270004, x270005, x270006, x270007, x270008 => if x20 = true then ((trivetref02_Month_s.f x5 x270001).bind fun t271 => (if (wrap64 (x3 - t271)) > x5 then ((trivetref11_Due_s.f x270000 x270001 x270002 x270003 x270004 x270005 x270006 x270007 x270008 x6).bind fun t272 => (if x4.length < 4398046511104 then (trivetref12_Rows.l0 k x3 (x4 ++ [(⟨t272, t271, x5, 0⟩ : S54)]) 0 (wrap64 (x6 + 1)) x270000 x270001 x270002 x270003 x270004 x270005 x270006 x270007 x270008) else (none))) else ((trivetref11_Due_s.f x270000 x270001 x270002 x270003 x270004 x270005 x270006 x270007 x270008 x6).bind fun t276 => (if x4.length < 4398046511104 then (trivetref12_Rows.l0 k x3 (x4 ++ [(⟨t276, t271, wrap64 (x3 - t271), wrap64 (x5 - (wrap64 (x3 - t271)))⟩ : S54)]) (wrap64 (x5 - (wrap64 (x3 - t271)))) (wrap64 (x6 + 1)) x270000 x270001 x270002 x270003 x270004 x270005 x270006 x270007 x270008) else (none))))) else (some x4)
end
def trivetref12_Rows.f (k : Nat) (a0_0 : Int) (a0_1 : Int) (a0_2 : Int) (a0_3 : Int) (a0_4 : Int) (a0_5 : Int) (a0_6 : Int) (a0_7 : Int) (a0_8 : Int) : Option ((List (S54))) := (trivetref12_Level_s.f a0_0 a0_1 a0_2 a0_3 a0_4 a0_5 a0_6 a0_7 a0_8).bind fun t270 => (trivetref12_Rows.l0 k t270 ([] : List (S54)) a0_0 0 a0_0 a0_1 a0_2 a0_3 a0_4 a0_5 a0_6 a0_7 a0_8)
theorem trivetref12_Rows.mono_l : ∀ k, (∀ y0 y1 y2 y3 y4 y5 y6 y7 y8 y9 y10 y11 y12, LeO (trivetref12_Rows.l0 k y0 y1 y2 y3 y4 y5 y6 y7 y8 y9 y10 y11 y12) (trivetref12_Rows.l0 (k + 1) y0 y1 y2 y3 y4 y5 y6 y7 y8 y9 y10 y11 y12)) ∧ (∀ y0 y1 y2 y3 y4 y5 y6 y7 y8 y9 y10 y11 y12 y13, LeO (trivetref12_Rows.j1 k y0 y1 y2 y3 y4 y5 y6 y7 y8 y9 y10 y11 y12 y13) (trivetref12_Rows.j1 (k + 1) y0 y1 y2 y3 y4 y5 y6 y7 y8 y9 y10 y11 y12 y13))
  | 0 => ⟨fun _ _ _ _ _ _ _ _ _ _ _ _ _ r h => by simp [trivetref12_Rows.l0] at h, fun _ _ _ _ _ _ _ _ _ _ _ _ _ _ r h => by simp [trivetref12_Rows.j1] at h⟩
  | k + 1 => by
    obtain ⟨ih0, ih1⟩ := trivetref12_Rows.mono_l k
    refine ⟨?_, ?_⟩
    · intro y0 y1 y2 y3 y4 y5 y6 y7 y8 y9 y10 y11 y12
      unfold trivetref12_Rows.l0
      repeat' first
      | (with_reducible exact ih0 _ _ _ _ _ _ _ _ _ _ _ _ _)
      | (with_reducible exact ih1 _ _ _ _ _ _ _ _ _ _ _ _ _ _)
      | (with_reducible exact LeO.refl _)
      | (with_reducible exact LeO.none _)
      | (with_reducible refine LeO.ite ?_ ?_)
      | (with_reducible refine LeO.bind ?_ (fun _ => ?_))
      | exact ih0 _ _ _ _ _ _ _ _ _ _ _ _ _
      | exact ih1 _ _ _ _ _ _ _ _ _ _ _ _ _ _
      | exact LeO.none _
      | refine LeO.ite ?_ ?_
      | refine LeO.bind ?_ (fun _ => ?_)
    · intro y0 y1 y2 y3 y4 y5 y6 y7 y8 y9 y10 y11 y12 y13
      unfold trivetref12_Rows.j1
      repeat' first
      | (with_reducible exact ih0 _ _ _ _ _ _ _ _ _ _ _ _ _)
      | (with_reducible exact ih1 _ _ _ _ _ _ _ _ _ _ _ _ _ _)
      | (with_reducible exact LeO.refl _)
      | (with_reducible exact LeO.none _)
      | (with_reducible refine LeO.ite ?_ ?_)
      | (with_reducible refine LeO.bind ?_ (fun _ => ?_))
      | exact ih0 _ _ _ _ _ _ _ _ _ _ _ _ _
      | exact ih1 _ _ _ _ _ _ _ _ _ _ _ _ _ _
      | exact LeO.none _
      | refine LeO.ite ?_ ?_
      | refine LeO.bind ?_ (fun _ => ?_)
theorem trivetref12_Rows.mono : ∀ a0 a1 a2 a3 a4 a5 a6 a7 a8 k, LeO (trivetref12_Rows.f k a0 a1 a2 a3 a4 a5 a6 a7 a8) (trivetref12_Rows.f (k + 1) a0 a1 a2 a3 a4 a5 a6 a7 a8) := by
  intro a0 a1 a2 a3 a4 a5 a6 a7 a8 k
  obtain ⟨ih0, ih1⟩ := trivetref12_Rows.mono_l k
  unfold trivetref12_Rows.f
  repeat' first
      | (with_reducible exact ih0 _ _ _ _ _ _ _ _ _ _ _ _ _)
      | (with_reducible exact ih1 _ _ _ _ _ _ _ _ _ _ _ _ _ _)
      | (with_reducible exact LeO.refl _)
      | (with_reducible exact LeO.none _)
      | (with_reducible refine LeO.ite ?_ ?_)
      | (with_reducible refine LeO.bind ?_ (fun _ => ?_))
      | exact ih0 _ _ _ _ _ _ _ _ _ _ _ _ _
      | exact ih1 _ _ _ _ _ _ _ _ _ _ _ _ _ _
      | exact LeO.none _
      | refine LeO.ite ?_ ?_
      | refine LeO.bind ?_ (fun _ => ?_)
set_option maxHeartbeats 8000000 in
set_option maxRecDepth 100000 in
theorem trivetref12_Rows.calls (k : Nat) (a0_0 : Int) (a0_1 : Int) (a0_2 : Int) (a0_3 : Int) (a0_4 : Int) (a0_5 : Int) (a0_6 : Int) (a0_7 : Int) (a0_8 : Int) (r : List (S54)) (w : World) (h : trivetref12_Rows.f k a0_0 a0_1 a0_2 a0_3 a0_4 a0_5 a0_6 a0_7 a0_8 = some r) :
    Calls Try.prog 15 #[.agg #[.int .i64 a0_0, .int .i64 a0_1, .int .i64 a0_2, .int .i64 a0_3, .int .i64 a0_4, .int .i64 a0_5, .int .i64 a0_6, .int .i64 a0_7, .int .i64 a0_8]] w fun e w' => ∃ v0_ : Value, e = .returned (v0_) ∧ Kd.R k54 54 w' w.heap.size (fun _ => True) v0_ r ∧ Below w.heap.size w w' := by
  have hu23 := Try.underlying23
  have hu54 := Try.underlying54
  have HB := Aside0.mk (Below.refl w.heap.size w)
  have H : ((trivetref12_Level_s.f a0_0 a0_1 a0_2 a0_3 a0_4 a0_5 a0_6 a0_7 a0_8).bind fun t270 => (trivetref12_Rows.l0 k t270 ([] : List (S54)) a0_0 0 a0_0 a0_1 a0_2 a0_3 a0_4 a0_5 a0_6 a0_7 a0_8)) = some r := h
  clear h
  replace H := Option.bind_eq_some_iff.mp H
  obtain ⟨t270, A20, H⟩ := H
  replace H : (trivetref12_Rows.l0 k t270 ([] : List (S54)) a0_0 0 a0_0 a0_1 a0_2 a0_3 a0_4 a0_5 a0_6 a0_7 a0_8) = some r := H
  have A2 := Aside0.mk A20
  clear A20
  have H' := Aside0.mk H
  clear H
  go_enter Try.func15, Try.ntmps15
  go_wp2_with (first | ((with_reducible refine gate_dst (N := 1) rfl ?_); refine box_event ?hg (N := 1) ?hd (cs := #[.int .i64 a0_0, .int .i64 a0_1, .int .i64 a0_2, .int .i64 a0_3, .int .i64 a0_4, .int .i64 a0_5, .int .i64 a0_6, .int .i64 a0_7, .int .i64 a0_8]) (t := 23) ?hr ?_; (case hd => rfl); (case hg => rfl); (case hr => first | (go_simp; done) | (go_simp; rfl)); intro gb269 hg w3 hbox hb; have n0_ := Aside0.mk (below_step (by repeat (first | (with_reducible first | exact HB.out | apply below_alloc | apply pw_below_drewN | apply below_drew1) | exact HB.out)) hb); have n1_ := Aside0.mk (hbox); have n2_ := Aside0.mk ((by rw [hg]; exact (below_size (by repeat (first | (with_reducible first | exact HB.out | apply below_alloc | apply pw_below_drewN | apply below_drew1) | exact HB.out))) : w.heap.size ≤ gb269)); have n3_ := Aside0.mk ((by rw [hg]; exact (below_size (by repeat (first | (with_reducible first | exact HB.out | apply below_alloc | apply pw_below_drewN | apply below_drew1) | exact HB.out))) : w.heap.size ≤ gb269)); clear HB; have HB := n0_; have BK269 := n1_; have GW269 := n2_; have GE269 := n3_; clear n0_ n1_ n2_ n3_; clear hb hbox hg; have hcz4 := blkAll9 BK269.out) | ((with_reducible refine gate_callee (f := 24) rfl ?_); refine goesL_ (some 10) rfl rfl Try.func24 (by kernel_rfl) rfl #[.agg #[.int .i64 a0_0, .int .i64 a0_1, .int .i64 a0_2, .int .i64 a0_3, .int .i64 a0_4, .int .i64 a0_5, .int .i64 a0_6, .int .i64 a0_7, .int .i64 a0_8]] rfl (by (try simp only [List.map_toArray, List.map_cons, List.map_nil]); first | done | rfl | (simp only [List.length_drop, List.length_take]; rfl)) ?_; (with_reducible refine (trivetref12_Level_s.calls a0_0 a0_1 a0_2 a0_3 a0_4 a0_5 a0_6 a0_7 a0_8 t270 _ A2.out).mono ?_); rintro e w5 ⟨rfl, hb⟩; refine ⟨_, rfl, ?_⟩; have n0_ := Aside0.mk (blk_below (g := gb269) (o := .cells #[.int .i64 a0_0, .int .i64 a0_1, .int .i64 a0_2, .int .i64 a0_3, .int .i64 a0_4, .int .i64 a0_5, .int .i64 a0_6, .int .i64 a0_7, .int .i64 a0_8] 23 (0, 0)) (by (with_reducible repeat (first | refine blk_drewN ?_ _ | refine blk_drew ?_ | refine blk_alloc ?_ _)); exact BK269.out) hb); have n1_ := Aside0.mk (below_step (by repeat (first | (with_reducible first | exact HB.out | apply below_alloc | apply pw_below_drewN | apply below_drew1 | refine below_set ?_ GE269.out) | exact HB.out)) hb); clear BK269; clear HB; have BK269 := n0_; have HB := n1_; clear n0_ n1_; (try clear hb); (try clear hb2); (try clear hk); (try clear hi); have hcz6 := blkAll9 BK269.out))
  (try simp only [Act.put, List.setIfInBounds_toArray, List.set_cons_zero, List.set_cons_succ])
  go_loopg [4, 5, 6] k (fun kq v4 v5 v6 w' => ∃ (x4_1 : List (S54)) (x5_1 : Int) (x6_1 : Int), v5 = .int .i64 x5_1 ∧ v6 = .int .i64 x6_1 ∧ Aside0 (trivetref12_Rows.l0 kq t270 x4_1 x5_1 x6_1 a0_0 a0_1 a0_2 a0_3 a0_4 a0_5 a0_6 a0_7 a0_8 = some r) ∧ Aside0 (kq ≤ k) ∧ Aside0 (Kd.R k54 54 w' w.heap.size (fun _ => True) v4 x4_1) ∧ Aside0 (w'.heap[gb269]? = some (.cells #[.int .i64 a0_0, .int .i64 a0_1, .int .i64 a0_2, .int .i64 a0_3, .int .i64 a0_4, .int .i64 a0_5, .int .i64 a0_6, .int .i64 a0_7, .int .i64 a0_8] 23 (0, 0))) ∧ Aside0 (Below w.heap.size w w'))
  case atStart => exact ⟨(([] : List (S54))), (a0_0), (0), (by first | rfl | (simp; done) | (simp [*]; done)), (by first | rfl | (simp; done) | (simp [*]; done)), H', ⟨Nat.le_refl _⟩, ⟨by first | exact Kd.R_nil _ _ _ _ _ | exact Kd.N_nil _ _ _ _ _ | exact Kd.V_nil _ _ _ _ _ | exact Kd.Q_nil _ _ _ _ _ | exact Kd.S_nil _ _ _ _ _⟩, ⟨by (with_reducible repeat (first | refine blk_drewN ?_ _ | refine blk_drew ?_ | refine blk_alloc ?_ _)); exact BK269.out⟩, ⟨by repeat (first | (with_reducible first | exact HB.out | apply below_alloc | apply pw_below_drewN | apply below_drew1 | refine below_set ?_ GE269.out) | exact HB.out)⟩⟩
  case round =>
    clear H'
    try clear c1
    try clear c2
    try clear p2
    try clear hcz4
    try clear hcz6
    obtain ⟨x4_1, x5_1, x6_1, rfl, rfl, HA, HK1, HO_4, BK269, HB⟩ := hrel
    cases gk with
    | zero => exact absurd HA.out (by simp [trivetref12_Rows.l0])
    | succ k1 =>
      have H := HA.out
      clear HA
      simp only [trivetref12_Rows.l0] at H
      have HC7 := Aside0.mk H
      clear H
      go_upto_region 5 with (fail)
      go_cut [20] (fun v20 wc => ∃ (kq : Nat) (x20_6 : Bool), v20 = .bool x20_6 ∧ Aside0 (trivetref12_Rows.j1 kq t270 x4_1 x5_1 x6_1 x20_6 a0_0 a0_1 a0_2 a0_3 a0_4 a0_5 a0_6 a0_7 a0_8 = some r) ∧ Aside0 (kq ≤ k1) ∧ Aside0 (Kd.R k54 54 wc w.heap.size (fun _ => True) u4 x4_1) ∧ Aside0 (wc.heap[gb269]? = some (.cells #[.int .i64 a0_0, .int .i64 a0_1, .int .i64 a0_2, .int .i64 a0_3, .int .i64 a0_4, .int .i64 a0_5, .int .i64 a0_6, .int .i64 a0_7, .int .i64 a0_8] 23 (0, 0))) ∧ Aside0 (Below w.heap.size w wc))
      case first =>
        have H := HC7.out
        clear HC7
        by_cases c8 : x6_1 < a0_2
        · rw [if_pos c8] at H
          have c8b0 : decide (x6_1 < a0_2) = true := decide_eq_true c8
          clear c8
          (first | rw [c8b0] | (simp only [i64_w, i32_w]; rw [c8b0]) | skip)
          have H' := Aside0.mk H
          clear H
          have hcz9 := blkAll9 BK269.out
          go_wp2
          go_meet
          case rel => exact ⟨_, (decide (x5_1 > 0)), (by first | rfl | (simp; done) | (simp [*]; done)), H', ⟨by have := HK1.out; first | omega | exact Nat.le_refl _⟩, ⟨by (with_reducible repeat (first | apply Kd.R_alloc | apply Kd.R_drewN | apply Kd.R_drew)); exact HO_4.out⟩, ⟨by (with_reducible repeat (first | refine blk_drewN ?_ _ | refine blk_drew ?_ | refine blk_alloc ?_ _)); exact BK269.out⟩, ⟨by repeat (first | (with_reducible first | exact HB.out | apply below_alloc | apply pw_below_drewN | apply below_drew1 | refine below_set ?_ GE269.out) | exact HB.out)⟩⟩
        · rw [if_neg c8] at H
          have c8b0 : decide (x6_1 < a0_2) = false := decide_eq_false c8
          clear c8
          (first | rw [c8b0] | (simp only [i64_w, i32_w]; rw [c8b0]) | skip)
          have H' := Aside0.mk H
          clear H
          have hcz10 := blkAll9 BK269.out
          go_wp2
          go_meet
          case rel => exact ⟨_, (false), (by first | rfl | (simp; done) | (simp [*]; done)), H', ⟨by have := HK1.out; first | omega | exact Nat.le_refl _⟩, ⟨by (with_reducible repeat (first | apply Kd.R_alloc | apply Kd.R_drewN | apply Kd.R_drew)); exact HO_4.out⟩, ⟨by (with_reducible repeat (first | refine blk_drewN ?_ _ | refine blk_drew ?_ | refine blk_alloc ?_ _)); exact BK269.out⟩, ⟨by repeat (first | (with_reducible first | exact HB.out | apply below_alloc | apply pw_below_drewN | apply below_drew1 | refine below_set ?_ GE269.out) | exact HB.out)⟩⟩
      case rest =>
        clear HC7
        try clear c1
        try clear c2
        try clear p2
        try clear c8
        try clear c8b0
        try clear hcz10
        try clear hcz4
        try clear hcz6
        try clear hcz9
        try clear p2
        obtain ⟨kq, x20_6, rfl, HA, HJ6, HO_4, BK269, HB⟩ := hcut
        cases kq with
        | zero => exact absurd HA.out (by simp [trivetref12_Rows.j1])
        | succ kj6 =>
          have H := HA.out
          clear HA
          simp only [trivetref12_Rows.j1] at H
          by_cases c11 : x20_6 = true
          · subst c11
            have H1 : ((trivetref02_Month_s.f x5_1 a0_1).bind fun t271 => (if (wrap64 (t270 - t271)) > x5_1 then ((trivetref11_Due_s.f a0_0 a0_1 a0_2 a0_3 a0_4 a0_5 a0_6 a0_7 a0_8 x6_1).bind fun t272 => (if x4_1.length < 4398046511104 then (trivetref12_Rows.l0 kj6 t270 (x4_1 ++ [(⟨t272, t271, x5_1, 0⟩ : S54)]) 0 (wrap64 (x6_1 + 1)) a0_0 a0_1 a0_2 a0_3 a0_4 a0_5 a0_6 a0_7 a0_8) else (none))) else ((trivetref11_Due_s.f a0_0 a0_1 a0_2 a0_3 a0_4 a0_5 a0_6 a0_7 a0_8 x6_1).bind fun t276 => (if x4_1.length < 4398046511104 then (trivetref12_Rows.l0 kj6 t270 (x4_1 ++ [(⟨t276, t271, wrap64 (t270 - t271), wrap64 (x5_1 - (wrap64 (t270 - t271)))⟩ : S54)]) (wrap64 (x5_1 - (wrap64 (t270 - t271)))) (wrap64 (x6_1 + 1)) a0_0 a0_1 a0_2 a0_3 a0_4 a0_5 a0_6 a0_7 a0_8) else (none))))) = some r := by rw [if_pos rfl] at H; exact H
            clear H
            have H := H1
            clear H1
            replace H := Option.bind_eq_some_iff.mp H
            obtain ⟨t271, A120, H⟩ := H
            replace H : (if (wrap64 (t270 - t271)) > x5_1 then ((trivetref11_Due_s.f a0_0 a0_1 a0_2 a0_3 a0_4 a0_5 a0_6 a0_7 a0_8 x6_1).bind fun t272 => (if x4_1.length < 4398046511104 then (trivetref12_Rows.l0 kj6 t270 (x4_1 ++ [(⟨t272, t271, x5_1, 0⟩ : S54)]) 0 (wrap64 (x6_1 + 1)) a0_0 a0_1 a0_2 a0_3 a0_4 a0_5 a0_6 a0_7 a0_8) else (none))) else ((trivetref11_Due_s.f a0_0 a0_1 a0_2 a0_3 a0_4 a0_5 a0_6 a0_7 a0_8 x6_1).bind fun t276 => (if x4_1.length < 4398046511104 then (trivetref12_Rows.l0 kj6 t270 (x4_1 ++ [(⟨t276, t271, wrap64 (t270 - t271), wrap64 (x5_1 - (wrap64 (t270 - t271)))⟩ : S54)]) (wrap64 (x5_1 - (wrap64 (t270 - t271)))) (wrap64 (x6_1 + 1)) a0_0 a0_1 a0_2 a0_3 a0_4 a0_5 a0_6 a0_7 a0_8) else (none)))) = some r := H
            have A12 := Aside0.mk A120
            clear A120
            by_cases c13 : (wrap64 (t270 - t271)) > x5_1
            · rw [if_pos c13] at H
              have c13b0 : decide (x5_1 < (wrap64 (t270 - t271))) = true := decide_eq_true c13
              clear c13
              replace H := Option.bind_eq_some_iff.mp H
              obtain ⟨t272, A140, H⟩ := H
              replace H : (if x4_1.length < 4398046511104 then (trivetref12_Rows.l0 kj6 t270 (x4_1 ++ [(⟨t272, t271, x5_1, 0⟩ : S54)]) 0 (wrap64 (x6_1 + 1)) a0_0 a0_1 a0_2 a0_3 a0_4 a0_5 a0_6 a0_7 a0_8) else (none)) = some r := H
              have A14 := Aside0.mk A140
              clear A140
              by_cases c15 : x4_1.length < 4398046511104
              · rw [if_pos c15] at H
                have LMc15 := Aside0.mk c15
                clear c15
                obtain ⟨y273, hy273⟩ : ∃ y_ : List (S54), y_ = (x4_1 ++ [(⟨t272, t271, x5_1, 0⟩ : S54)]) := ⟨_, rfl⟩
                replace H : (trivetref12_Rows.l0 kj6 t270 y273 0 (wrap64 (x6_1 + 1)) a0_0 a0_1 a0_2 a0_3 a0_4 a0_5 a0_6 a0_7 a0_8) = some r := by first | (rw [hy273]; with_reducible exact H) | (have H2_ := (Option.bind_some _ _).symm.trans H; rw [hy273]; with_reducible exact H2_) | (have H2_ := (Option.bind_some _ _).symm.trans H; with_reducible exact H2_) | with_reducible exact H | (rw [hy273]; exact H) | exact H
                have Ny273 := Aside0.mk hy273
                clear hy273
                have H' := Aside0.mk H
                clear H
                have hcz16 := blkAll9 BK269.out
                go_wp2_with (first | ((with_reducible refine gate_callee (f := 25) rfl ?_); refine goesL_ (some 26) rfl rfl Try.func25 (by kernel_rfl) rfl #[.int .i64 x5_1, .int .i64 a0_1] rfl (by (try simp only [List.map_toArray, List.map_cons, List.map_nil]); first | done | rfl | (simp only [List.length_drop, List.length_take]; rfl)) ?_; (with_reducible refine (trivetref02_Month_s.calls x5_1 a0_1 t271 _ A12.out).mono ?_); rintro e w' ⟨rfl, ⟨nd, rfl⟩⟩; refine ⟨_, rfl, ?_⟩) | ((with_reducible refine gate_callee (f := 26) rfl ?_); refine goesL_ (some 40) rfl rfl Try.func26 (by kernel_rfl) rfl #[.agg #[.int .i64 a0_0, .int .i64 a0_1, .int .i64 a0_2, .int .i64 a0_3, .int .i64 a0_4, .int .i64 a0_5, .int .i64 a0_6, .int .i64 a0_7, .int .i64 a0_8], .int .i64 x6_1] rfl (by (try simp only [List.map_toArray, List.map_cons, List.map_nil]); first | done | rfl | (simp only [List.length_drop, List.length_take]; rfl)) ?_; (with_reducible refine (trivetref11_Due_s.calls a0_0 a0_1 a0_2 a0_3 a0_4 a0_5 a0_6 a0_7 a0_8 x6_1 t272 _ A14.out).mono ?_); rintro e w17 ⟨rfl, hb⟩; refine ⟨_, rfl, ?_⟩; have n0_ := Aside0.mk (Kd.R_below (by (with_reducible repeat (first | apply Kd.R_alloc | apply Kd.R_drewN | apply Kd.R_drew)); exact HO_4.out) hb); have n1_ := Aside0.mk (blk_below (g := gb269) (o := .cells #[.int .i64 a0_0, .int .i64 a0_1, .int .i64 a0_2, .int .i64 a0_3, .int .i64 a0_4, .int .i64 a0_5, .int .i64 a0_6, .int .i64 a0_7, .int .i64 a0_8] 23 (0, 0)) (by (with_reducible repeat (first | refine blk_drewN ?_ _ | refine blk_drew ?_ | refine blk_alloc ?_ _)); exact BK269.out) hb); have n2_ := Aside0.mk (below_step (by repeat (first | (with_reducible first | exact HB.out | apply below_alloc | apply pw_below_drewN | apply below_drew1 | refine below_set ?_ GE269.out) | exact HB.out)) hb); clear HO_4; clear BK269; clear HB; have HO_4 := n0_; have BK269 := n1_; have HB := n2_; clear n0_ n1_ n2_; (try clear hb); (try clear hb2); (try clear hk); (try clear hi)) | ((with_reducible refine gate_builtin (b := .append) (xs := #[.tmp 37, .tmp 45]) rfl ?_); at_builtin; refine Kd.R_append k54 (w0 := w) w.heap.size rfl (.tmp 37) (.tmp 45) 40 54 (.agg #[(.int .i64 0), (.int .i64 0), (.int .i64 0), (.int .i64 0)]) 32 rfl Try.underlying40 info54 rfl (by decide) (by omega) u4 x4_1 (⟨t272, t271, x5_1, 0⟩ : S54) [.int .i64 t272, .int .i64 t271, .int .i64 x5_1, .int .i64 0] (fun _ => True) (fun _ => False) rfl rfl ?aP (fun _ hk => hk.elim) ?aF ?aO ?aB ?aS ?aL ?_; (case aP => exact k54_mkM _ _ _ (⟨t272, t271, x5_1, 0⟩ : S54)); (case aB => exact (by repeat (first | (with_reducible first | exact HB.out | apply below_alloc | apply pw_below_drewN | apply below_drew1 | refine below_set ?_ GE269.out) | exact HB.out))); (case aF => exact (fun _ _ => trivial)); (case aO => exact (by (with_reducible repeat (first | apply Kd.R_alloc | apply Kd.R_drewN | apply Kd.R_drew)); exact HO_4.out)); (case aS => exact (below_size (by repeat (first | (with_reducible first | exact HB.out | apply below_alloc | apply pw_below_drewN | apply below_drew1 | refine below_set ?_ GE269.out) | exact HB.out)))); (case aL => have := LMc15.out; omega); intro v274 w18 ho hb hg hat; rw [← Ny273.out] at ho; have n0_ := Aside0.mk (blk_grown (g := gb269) (o := .cells #[.int .i64 a0_0, .int .i64 a0_1, .int .i64 a0_2, .int .i64 a0_3, .int .i64 a0_4, .int .i64 a0_5, .int .i64 a0_6, .int .i64 a0_7, .int .i64 a0_8] 23 (0, 0)) (by (with_reducible repeat (first | refine blk_drewN ?_ _ | refine blk_drew ?_ | refine blk_alloc ?_ _)); exact BK269.out) hg (Kd.R_ne HO_4.out BK269.out (by decide))); have n1_ := Aside0.mk (hb); have n2_ := Aside0.mk (ho); clear BK269; clear HB; clear HO_4; have BK269 := n0_; have HB := n1_; have HO275 := n2_; clear n0_ n1_ n2_; clear ho hb hg hat))
                go_roundg kj6
                case measure => have := HK1.out; have := HJ6.out; omega
                case rel => exact ⟨(y273), (0), (wrap64 (x6_1 + 1)), (by first | rfl | (simp; done) | (simp [*]; done)), (by first | rfl | (simp; done) | (simp [*]; done)), H', ⟨by have := HK1.out; have := HJ6.out; omega⟩, ⟨by (with_reducible repeat (first | apply Kd.R_alloc | apply Kd.R_drewN | apply Kd.R_drew)); exact HO275.out⟩, ⟨by (with_reducible repeat (first | refine blk_drewN ?_ _ | refine blk_drew ?_ | refine blk_alloc ?_ _)); exact BK269.out⟩, ⟨by repeat (first | (with_reducible first | exact HB.out | apply below_alloc | apply pw_below_drewN | apply below_drew1 | refine below_set ?_ GE269.out) | exact HB.out)⟩⟩
              · rw [if_neg c15] at H
                exact absurd H (by simp)
            · rw [if_neg c13] at H
              have c13b0 : decide (x5_1 < (wrap64 (t270 - t271))) = false := decide_eq_false c13
              clear c13
              replace H := Option.bind_eq_some_iff.mp H
              obtain ⟨t276, A190, H⟩ := H
              replace H : (if x4_1.length < 4398046511104 then (trivetref12_Rows.l0 kj6 t270 (x4_1 ++ [(⟨t276, t271, wrap64 (t270 - t271), wrap64 (x5_1 - (wrap64 (t270 - t271)))⟩ : S54)]) (wrap64 (x5_1 - (wrap64 (t270 - t271)))) (wrap64 (x6_1 + 1)) a0_0 a0_1 a0_2 a0_3 a0_4 a0_5 a0_6 a0_7 a0_8) else (none)) = some r := H
              have A19 := Aside0.mk A190
              clear A190
              by_cases c20 : x4_1.length < 4398046511104
              · rw [if_pos c20] at H
                have LMc20 := Aside0.mk c20
                clear c20
                obtain ⟨y277, hy277⟩ : ∃ y_ : List (S54), y_ = (x4_1 ++ [(⟨t276, t271, wrap64 (t270 - t271), wrap64 (x5_1 - (wrap64 (t270 - t271)))⟩ : S54)]) := ⟨_, rfl⟩
                replace H : (trivetref12_Rows.l0 kj6 t270 y277 (wrap64 (x5_1 - (wrap64 (t270 - t271)))) (wrap64 (x6_1 + 1)) a0_0 a0_1 a0_2 a0_3 a0_4 a0_5 a0_6 a0_7 a0_8) = some r := by first | (rw [hy277]; with_reducible exact H) | (have H2_ := (Option.bind_some _ _).symm.trans H; rw [hy277]; with_reducible exact H2_) | (have H2_ := (Option.bind_some _ _).symm.trans H; with_reducible exact H2_) | with_reducible exact H | (rw [hy277]; exact H) | exact H
                have Ny277 := Aside0.mk hy277
                clear hy277
                have H' := Aside0.mk H
                clear H
                have hcz21 := blkAll9 BK269.out
                go_wp2_with (first | ((with_reducible refine gate_callee (f := 25) rfl ?_); refine goesL_ (some 26) rfl rfl Try.func25 (by kernel_rfl) rfl #[.int .i64 x5_1, .int .i64 a0_1] rfl (by (try simp only [List.map_toArray, List.map_cons, List.map_nil]); first | done | rfl | (simp only [List.length_drop, List.length_take]; rfl)) ?_; (with_reducible refine (trivetref02_Month_s.calls x5_1 a0_1 t271 _ A12.out).mono ?_); rintro e w' ⟨rfl, ⟨nd, rfl⟩⟩; refine ⟨_, rfl, ?_⟩) | ((with_reducible refine gate_callee (f := 26) rfl ?_); refine goesL_ (some 40) rfl rfl Try.func26 (by kernel_rfl) rfl #[.agg #[.int .i64 a0_0, .int .i64 a0_1, .int .i64 a0_2, .int .i64 a0_3, .int .i64 a0_4, .int .i64 a0_5, .int .i64 a0_6, .int .i64 a0_7, .int .i64 a0_8], .int .i64 x6_1] rfl (by (try simp only [List.map_toArray, List.map_cons, List.map_nil]); first | done | rfl | (simp only [List.length_drop, List.length_take]; rfl)) ?_; (with_reducible refine (trivetref11_Due_s.calls a0_0 a0_1 a0_2 a0_3 a0_4 a0_5 a0_6 a0_7 a0_8 x6_1 t276 _ A19.out).mono ?_); rintro e w22 ⟨rfl, hb⟩; refine ⟨_, rfl, ?_⟩; have n0_ := Aside0.mk (Kd.R_below (by (with_reducible repeat (first | apply Kd.R_alloc | apply Kd.R_drewN | apply Kd.R_drew)); exact HO_4.out) hb); have n1_ := Aside0.mk (blk_below (g := gb269) (o := .cells #[.int .i64 a0_0, .int .i64 a0_1, .int .i64 a0_2, .int .i64 a0_3, .int .i64 a0_4, .int .i64 a0_5, .int .i64 a0_6, .int .i64 a0_7, .int .i64 a0_8] 23 (0, 0)) (by (with_reducible repeat (first | refine blk_drewN ?_ _ | refine blk_drew ?_ | refine blk_alloc ?_ _)); exact BK269.out) hb); have n2_ := Aside0.mk (below_step (by repeat (first | (with_reducible first | exact HB.out | apply below_alloc | apply pw_below_drewN | apply below_drew1 | refine below_set ?_ GE269.out) | exact HB.out)) hb); clear HO_4; clear BK269; clear HB; have HO_4 := n0_; have BK269 := n1_; have HB := n2_; clear n0_ n1_ n2_; (try clear hb); (try clear hb2); (try clear hk); (try clear hi)) | ((with_reducible refine gate_builtin (b := .append) (xs := #[.tmp 37, .tmp 45]) rfl ?_); at_builtin; refine Kd.R_append k54 (w0 := w) w.heap.size rfl (.tmp 37) (.tmp 45) 40 54 (.agg #[(.int .i64 0), (.int .i64 0), (.int .i64 0), (.int .i64 0)]) 32 rfl Try.underlying40 info54 rfl (by decide) (by omega) u4 x4_1 (⟨t276, t271, wrap64 (t270 - t271), wrap64 (x5_1 - (wrap64 (t270 - t271)))⟩ : S54) [.int .i64 t276, .int .i64 t271, .int .i64 (wrap64 (t270 - t271)), .int .i64 (wrap64 (x5_1 - (wrap64 (t270 - t271))))] (fun _ => True) (fun _ => False) rfl rfl ?aP (fun _ hk => hk.elim) ?aF ?aO ?aB ?aS ?aL ?_; (case aP => exact k54_mkM _ _ _ (⟨t276, t271, wrap64 (t270 - t271), wrap64 (x5_1 - (wrap64 (t270 - t271)))⟩ : S54)); (case aB => exact (by repeat (first | (with_reducible first | exact HB.out | apply below_alloc | apply pw_below_drewN | apply below_drew1 | refine below_set ?_ GE269.out) | exact HB.out))); (case aF => exact (fun _ _ => trivial)); (case aO => exact (by (with_reducible repeat (first | apply Kd.R_alloc | apply Kd.R_drewN | apply Kd.R_drew)); exact HO_4.out)); (case aS => exact (below_size (by repeat (first | (with_reducible first | exact HB.out | apply below_alloc | apply pw_below_drewN | apply below_drew1 | refine below_set ?_ GE269.out) | exact HB.out)))); (case aL => have := LMc20.out; omega); intro v278 w23 ho hb hg hat; rw [← Ny277.out] at ho; have n0_ := Aside0.mk (blk_grown (g := gb269) (o := .cells #[.int .i64 a0_0, .int .i64 a0_1, .int .i64 a0_2, .int .i64 a0_3, .int .i64 a0_4, .int .i64 a0_5, .int .i64 a0_6, .int .i64 a0_7, .int .i64 a0_8] 23 (0, 0)) (by (with_reducible repeat (first | refine blk_drewN ?_ _ | refine blk_drew ?_ | refine blk_alloc ?_ _)); exact BK269.out) hg (Kd.R_ne HO_4.out BK269.out (by decide))); have n1_ := Aside0.mk (hb); have n2_ := Aside0.mk (ho); clear BK269; clear HB; clear HO_4; have BK269 := n0_; have HB := n1_; have HO279 := n2_; clear n0_ n1_ n2_; clear ho hb hg hat))
                go_roundg kj6
                case measure => have := HK1.out; have := HJ6.out; omega
                case rel => exact ⟨(y277), (wrap64 (x5_1 - (wrap64 (t270 - t271)))), (wrap64 (x6_1 + 1)), (by first | rfl | (simp; done) | (simp [*]; done)), (by first | rfl | (simp; done) | (simp [*]; done)), H', ⟨by have := HK1.out; have := HJ6.out; omega⟩, ⟨by (with_reducible repeat (first | apply Kd.R_alloc | apply Kd.R_drewN | apply Kd.R_drew)); exact HO279.out⟩, ⟨by (with_reducible repeat (first | refine blk_drewN ?_ _ | refine blk_drew ?_ | refine blk_alloc ?_ _)); exact BK269.out⟩, ⟨by repeat (first | (with_reducible first | exact HB.out | apply below_alloc | apply pw_below_drewN | apply below_drew1 | refine below_set ?_ GE269.out) | exact HB.out)⟩⟩
              · rw [if_neg c20] at H
                exact absurd H (by simp)
          · replace c11 := Bool.eq_false_iff.mpr c11
            subst c11
            have H1 : (some x4_1) = some r := by rw [if_neg (show ¬ (false = true) by decide)] at H; exact H
            clear H
            have H := H1
            clear H1
            obtain rfl := Option.some.inj H
            go_wp2
            go_ret
            exact ⟨_, by first | rfl | (simp [errW_none, errW_some] <;> rfl) | (simp [*, errW_none, errW_some] <;> rfl), by (with_reducible repeat (first | apply Kd.R_alloc | apply Kd.R_drewN | apply Kd.R_drew)); exact HO_4.out, by repeat (first | (with_reducible first | exact HB.out | apply below_alloc | apply pw_below_drewN | apply below_drew1 | refine below_set ?_ GE269.out) | exact HB.out)⟩

/-! ### trivetref12_Rows_s: function 15, told plainly -/
def trivetref12_Rows.mk (x : Int × Int × Int × Int) : S54 := ⟨x.1, x.2.1, x.2.2.1, x.2.2.2⟩
theorem trivetref12_Rows.loop {b r m f e i w fe g : Int} (hok : M.termsOk b r m f e i w fe g) : ∀ (j : Nat) (n l p : Int) (acc : List (S54)) (k : Nat), 0 ≤ n → n + j = m → M.may l r → 0 ≤ p → p ≤ 2 * b → (acc.length : Int) ≤ n → M.left j l r p = some 0 → trivetref12_Rows.l0 (k + 2 * j + 2) p acc l n b r m f e i w fe g = some (acc ++ (M.plan j n l r p f).map trivetref12_Rows.mk)
  | 0, n, l, p, acc, k, h0, hn, hl, hp, hp2, ha, e0 => by
    simp only [trivetref12_Rows.l0]
    rw [if_neg (show ¬ n < m by omega)]
    simp only [trivetref12_Rows.j1]
    rw [if_neg (by decide)]
    simp [M.plan]
  | j + 1, n, l, p, acc, k, h0, hn, hl, hp, hp2, ha, e0 => by
    have hm := hok.2.2.2.1
    have hb := (M.terms_may hok).1.2.1
    have ih := trivetref12_Rows.loop (i := i) hok j (n + 1) (M.next l r p) p (acc ++ [⟨M.due f n, M.month l r, l - M.next l r p, M.next l r p⟩]) k (by omega) (by omega)
    obtain ⟨K, hK⟩ : ∃ K, K = k + 2 * j + 2 := ⟨_, rfl⟩
    rw [← hK] at ih
    rw [show k + 2 * (j + 1) + 2 = K + 1 + 1 by omega]
    simp only [trivetref12_Rows.l0]
    rw [if_pos (show n < m by omega)]
    simp only [trivetref12_Rows.j1, M.plan]
    by_cases hl0 : l > 0
    · rw [if_pos (decide_eq_true hl0), if_pos hl0]
      obtain ⟨a1, a2, a3⟩ := M.pays_next hl e0
      have a4 := M.next_nonneg l r p
      have a5 := hl.2.1
      have a6 := M.month_nonneg hl
      have a7 := M.month_le hl
      have ih := ih a2 hp hp2 (by simp; omega) a3
      have nx : M.next l r p = if p < l + M.month l r then l + M.month l r - p else 0 := rfl
      have hmk : trivetref12_Rows.mk (M.due f n, M.month l r, l - M.next l r p, M.next l r p) = ⟨M.due f n, M.month l r, l - M.next l r p, M.next l r p⟩ := rfl
      rw [List.map_cons, hmk]
      rw [List.append_assoc, List.singleton_append] at ih
      rw [← ih, trivetref02_Month_s.yes hl, Option.bind_some, M.w64_id (n := p - M.month l r) (by omega) (by omega), M.w64_id (n := n + 1) (by omega) (by omega), trivetref11_Due_s.yes ⟨hok, h0, by omega⟩, Option.bind_some, Option.bind_some, M.w64_id (n := l - (p - M.month l r)) (by omega) (by omega)]
      by_cases c : p - M.month l r > l
      · have en : M.next l r p = 0 := by rw [nx, if_neg (by omega)]
        rw [if_pos c, if_pos (show acc.length < 4398046511104 by omega), en, Int.sub_zero]
      · have en : M.next l r p = l - (p - M.month l r) := by rw [nx]; split <;> omega
        rw [if_neg c, if_pos (show acc.length < 4398046511104 by omega), en, show l - (l - (p - M.month l r)) = p - M.month l r by omega]
    · rw [if_neg (by simpa using hl0), if_neg hl0]
      simp
theorem trivetref12_Rows.tells (b r m f e i w fe g : Int) (hok : M.termsOk b r m f e i w fe g) (k : Nat) (hk : 962 ≤ k) : trivetref12_Rows.f k b r m f e i w fe g = some ((M.plan m.toNat 0 b r (M.level m.toNat b r) f).map trivetref12_Rows.mk) := by
  have ht := M.terms_may hok
  unfold trivetref12_Rows.f
  rw [trivetref12_Level_s.yes hok, Option.bind_some]
  obtain ⟨z, rfl⟩ : ∃ z, k = z + 2 * m.toNat + 2 := ⟨k - 2 * m.toNat - 2, by omega⟩
  exact trivetref12_Rows.loop hok m.toNat 0 b _ [] z (by omega) (by omega) ht.1 ht.2.2.2.2.1 ht.2.2.2.2.2.1 (by simp) ht.2.2.2.2.2.2.1
def trivetref12_Rows_s.f (b r m f e i w fe g : Int) : Option (List (S54)) := if M.termsOk b r m f e i w fe g then some ((M.plan m.toNat 0 b r (M.level m.toNat b r) f).map trivetref12_Rows.mk) else none
theorem trivetref12_Rows_s.calls (a0_0 : Int) (a0_1 : Int) (a0_2 : Int) (a0_3 : Int) (a0_4 : Int) (a0_5 : Int) (a0_6 : Int) (a0_7 : Int) (a0_8 : Int) (r : List (S54)) (w : World) (h : trivetref12_Rows_s.f a0_0 a0_1 a0_2 a0_3 a0_4 a0_5 a0_6 a0_7 a0_8 = some r) :
    Calls Try.prog 15 #[.agg #[.int .i64 a0_0, .int .i64 a0_1, .int .i64 a0_2, .int .i64 a0_3, .int .i64 a0_4, .int .i64 a0_5, .int .i64 a0_6, .int .i64 a0_7, .int .i64 a0_8]] w fun e w' => ∃ v0_ : Value, e = .returned (v0_) ∧ Kd.R k54 54 w' w.heap.size (fun _ => True) v0_ r ∧ Below w.heap.size w w' := by
  unfold trivetref12_Rows_s.f at h
  split at h
  · rename_i hr
    exact trivetref12_Rows.calls (962) a0_0 a0_1 a0_2 a0_3 a0_4 a0_5 a0_6 a0_7 a0_8 r w ((trivetref12_Rows.tells a0_0 a0_1 a0_2 a0_3 a0_4 a0_5 a0_6 a0_7 a0_8 hr (962) (Nat.le_refl _)).trans h)
  · cases h
theorem trivetref12_Rows_s.yes {b r m f e i w fe g : Int} (h : M.termsOk b r m f e i w fe g) : trivetref12_Rows_s.f b r m f e i w fe g = some ((M.plan m.toNat 0 b r (M.level m.toNat b r) f).map trivetref12_Rows.mk) := by unfold trivetref12_Rows_s.f; rw [if_pos h]

/-! ### trivetref17_behind: function 16 -/
def trivetref17_behind.l0 : Nat → List (S54) → Int → Int → Int → Option (Int)
  | 0, _, _, _, _ => none
  | k + 1, x1, x2, x3, x9 => if x9 < (x1.length : Int) then (if 0 ≤ x9 then (if (wrap64 (((rd_T54 x1 x9).f3) * 100)) > (wrap64 (x2 * x3)) then (trivetref17_behind.l0 k x1 x2 x3 (wrap64 (x9 + 1))) else (some (wrap64 (x9 + 1)))) else (none)) else (some (wrap64 (x9 + 1)))
def trivetref17_behind.f (k : Nat) (a0_0 : Int) (a0_1 : Int) (a0_2 : Int) (a0_3 : Int) (a0_4 : Int) (a0_5 : Int) (a0_6 : Int) (a0_7 : Int) (a0_8 : Int) (l1 : List (S54)) (a2 : Int) (a3 : Int) : Option (Int) := if (wrap64 (a0_0 * 100)) ≤ (wrap64 (a2 * a3)) then (some 0) else (trivetref17_behind.l0 k l1 a2 a3 0)
theorem trivetref17_behind.mono_l : ∀ k, (∀ y0 y1 y2 y3, LeO (trivetref17_behind.l0 k y0 y1 y2 y3) (trivetref17_behind.l0 (k + 1) y0 y1 y2 y3))
  | 0 => fun _ _ _ _ r h => by simp [trivetref17_behind.l0] at h
  | k + 1 => by
    have ih0 := trivetref17_behind.mono_l k
    · intro y0 y1 y2 y3
      unfold trivetref17_behind.l0
      repeat' first
      | (with_reducible exact ih0 _ _ _ _)
      | (with_reducible exact LeO.refl _)
      | (with_reducible exact LeO.none _)
      | (with_reducible refine LeO.ite ?_ ?_)
      | (with_reducible refine LeO.bind ?_ (fun _ => ?_))
      | exact ih0 _ _ _ _
      | exact LeO.none _
      | refine LeO.ite ?_ ?_
      | refine LeO.bind ?_ (fun _ => ?_)
theorem trivetref17_behind.mono : ∀ a0 a1 a2 a3 a4 a5 a6 a7 a8 a9 a10 a11 k, LeO (trivetref17_behind.f k a0 a1 a2 a3 a4 a5 a6 a7 a8 a9 a10 a11) (trivetref17_behind.f (k + 1) a0 a1 a2 a3 a4 a5 a6 a7 a8 a9 a10 a11) := by
  intro a0 a1 a2 a3 a4 a5 a6 a7 a8 a9 a10 a11 k
  have ih0 := trivetref17_behind.mono_l k
  unfold trivetref17_behind.f
  repeat' first
      | (with_reducible exact ih0 _ _ _ _)
      | (with_reducible exact LeO.refl _)
      | (with_reducible exact LeO.none _)
      | (with_reducible refine LeO.ite ?_ ?_)
      | (with_reducible refine LeO.bind ?_ (fun _ => ?_))
      | exact ih0 _ _ _ _
      | exact LeO.none _
      | refine LeO.ite ?_ ?_
      | refine LeO.bind ?_ (fun _ => ?_)
set_option maxHeartbeats 8000000 in
set_option maxRecDepth 100000 in
theorem trivetref17_behind.calls (k : Nat) (a0_0 : Int) (a0_1 : Int) (a0_2 : Int) (a0_3 : Int) (a0_4 : Int) (a0_5 : Int) (a0_6 : Int) (a0_7 : Int) (a0_8 : Int) (A1 : Option Addr) (c1 : Nat) (l1 : List (S54)) (a2 : Int) (a3 : Int) (r : Int) (w : World) (hr1 : Kd.C k54 w A1 l1.length l1) (hc1 : l1.length ≤ c1) (h : trivetref17_behind.f k a0_0 a0_1 a0_2 a0_3 a0_4 a0_5 a0_6 a0_7 a0_8 l1 a2 a3 = some r) :
    Calls Try.prog 16 #[.agg #[.int .i64 a0_0, .int .i64 a0_1, .int .i64 a0_2, .int .i64 a0_3, .int .i64 a0_4, .int .i64 a0_5, .int .i64 a0_6, .int .i64 a0_7, .int .i64 a0_8], .slice A1 l1.length c1, .int .i64 a2, .int .i64 a3] w fun e w' => e = .returned (.int .i64 r) ∧ Below w.heap.size w w' := by
  have hu23 := Try.underlying23
  have HR1 := Aside0.mk hr1
  have HC1 := Aside0.mk hc1
  clear hr1 hc1
  have HB := Aside0.mk (Below.refl w.heap.size w)
  have H : (if (wrap64 (a0_0 * 100)) ≤ (wrap64 (a2 * a3)) then (some 0) else (trivetref17_behind.l0 k l1 a2 a3 0)) = some r := h
  clear h
  by_cases c5 : (wrap64 (a0_0 * 100)) ≤ (wrap64 (a2 * a3))
  · rw [if_pos c5] at H
    have c5b0 : decide ((wrap64 (a0_0 * 100)) ≤ (wrap64 (a2 * a3))) = true := decide_eq_true c5
    clear c5
    obtain rfl := Option.some.inj H
    go_enter Try.func16, Try.ntmps16
    go_wp2_with (first | ((with_reducible refine gate_dst (N := 4) rfl ?_); refine box_event ?hg (N := 4) ?hd (cs := #[.int .i64 a0_0, .int .i64 a0_1, .int .i64 a0_2, .int .i64 a0_3, .int .i64 a0_4, .int .i64 a0_5, .int .i64 a0_6, .int .i64 a0_7, .int .i64 a0_8]) (t := 23) ?hr ?_; (case hd => rfl); (case hg => rfl); (case hr => first | (go_simp; done) | (go_simp; rfl)); intro gb280 hg w6 hbox hb; have n0_ := Aside0.mk (below_step (by repeat (first | (with_reducible first | exact HB.out | apply below_alloc | apply pw_below_drewN | apply below_drew1) | exact HB.out)) hb); have n1_ := Aside0.mk (hbox); have n2_ := Aside0.mk ((by rw [hg]; exact (below_size (by repeat (first | (with_reducible first | exact HB.out | apply below_alloc | apply pw_below_drewN | apply below_drew1) | exact HB.out))) : w.heap.size ≤ gb280)); have n3_ := Aside0.mk ((by rw [hg]; exact (below_size (by repeat (first | (with_reducible first | exact HB.out | apply below_alloc | apply pw_below_drewN | apply below_drew1) | exact HB.out))) : w.heap.size ≤ gb280)); clear HB; have HB := n0_; have BK280 := n1_; have GW280 := n2_; have GE280 := n3_; clear n0_ n1_ n2_ n3_; clear hb hbox hg; have hcz7 := blkAll9 BK280.out))
    go_ret
    exact ⟨by first | rfl | (simp [errW_none, errW_some] <;> rfl) | (simp [*, errW_none, errW_some] <;> rfl), by repeat (first | (with_reducible first | exact HB.out | apply below_alloc | apply pw_below_drewN | apply below_drew1 | refine below_set ?_ GE280.out) | exact HB.out)⟩
  · rw [if_neg c5] at H
    have c5b0 : decide ((wrap64 (a0_0 * 100)) ≤ (wrap64 (a2 * a3))) = false := decide_eq_false c5
    clear c5
    have H' := Aside0.mk H
    clear H
    go_enter Try.func16, Try.ntmps16
    go_wp2_with (first | ((with_reducible refine gate_dst (N := 4) rfl ?_); refine box_event ?hg (N := 4) ?hd (cs := #[.int .i64 a0_0, .int .i64 a0_1, .int .i64 a0_2, .int .i64 a0_3, .int .i64 a0_4, .int .i64 a0_5, .int .i64 a0_6, .int .i64 a0_7, .int .i64 a0_8]) (t := 23) ?hr ?_; (case hd => rfl); (case hg => rfl); (case hr => first | (go_simp; done) | (go_simp; rfl)); intro gb280 hg w8 hbox hb; have n0_ := Aside0.mk (below_step (by repeat (first | (with_reducible first | exact HB.out | apply below_alloc | apply pw_below_drewN | apply below_drew1) | exact HB.out)) hb); have n1_ := Aside0.mk (hbox); have n2_ := Aside0.mk ((by rw [hg]; exact (below_size (by repeat (first | (with_reducible first | exact HB.out | apply below_alloc | apply pw_below_drewN | apply below_drew1) | exact HB.out))) : w.heap.size ≤ gb280)); have n3_ := Aside0.mk ((by rw [hg]; exact (below_size (by repeat (first | (with_reducible first | exact HB.out | apply below_alloc | apply pw_below_drewN | apply below_drew1) | exact HB.out))) : w.heap.size ≤ gb280)); clear HB; have HB := n0_; have BK280 := n1_; have GW280 := n2_; have GE280 := n3_; clear n0_ n1_ n2_ n3_; clear hb hbox hg; have hcz9 := blkAll9 BK280.out))
    (try simp only [Act.put, List.setIfInBounds_toArray, List.set_cons_zero, List.set_cons_succ])
    go_loopg [9] k (fun kq v9 w' => ∃ (x9_1 : Int), v9 = .int .i64 x9_1 ∧ Aside0 (trivetref17_behind.l0 kq l1 a2 a3 x9_1 = some r) ∧ Aside0 (kq ≤ k) ∧ Aside0 (w'.heap[gb280]? = some (.cells #[.int .i64 a0_0, .int .i64 a0_1, .int .i64 a0_2, .int .i64 a0_3, .int .i64 a0_4, .int .i64 a0_5, .int .i64 a0_6, .int .i64 a0_7, .int .i64 a0_8] 23 (0, 0))) ∧ Aside0 (Below w.heap.size w w'))
    case atStart => exact ⟨(0), (by first | rfl | (simp; done) | (simp [*]; done)), H', ⟨Nat.le_refl _⟩, ⟨by (with_reducible repeat (first | refine blk_drewN ?_ _ | refine blk_drew ?_ | refine blk_alloc ?_ _)); exact BK280.out⟩, ⟨by repeat (first | (with_reducible first | exact HB.out | apply below_alloc | apply pw_below_drewN | apply below_drew1 | refine below_set ?_ GE280.out) | exact HB.out)⟩⟩
    case round =>
      clear H'
      try clear c1
      try clear p2
      try clear c5
      try clear c5b0
      try clear p6
      try clear hcz7
      try clear hcz9
      obtain ⟨x9_1, rfl, HA, HK1, BK280, HB⟩ := hrel
      cases gk with
      | zero => exact absurd HA.out (by simp [trivetref17_behind.l0])
      | succ k1 =>
        have H := HA.out
        clear HA
        simp only [trivetref17_behind.l0] at H
        by_cases c10 : x9_1 < (l1.length : Int)
        · rw [if_pos c10] at H
          have c10b0 : decide (x9_1 < (l1.length : Int)) = true := decide_eq_true c10
          clear c10
          by_cases c11 : 0 ≤ x9_1
          · rw [if_pos c11] at H
            have c11b0 : decide (0 ≤ x9_1) = true := decide_eq_true c11
            clear c11
            by_cases c12 : (wrap64 (((rd_T54 l1 x9_1).f3) * 100)) > (wrap64 (a2 * a3))
            · rw [if_pos c12] at H
              have c12b0 : decide ((wrap64 (a2 * a3)) < (wrap64 (((rd_T54 l1 x9_1).f3) * 100))) = true := decide_eq_true c12
              clear c12
              have H' := Aside0.mk H
              clear H
              have p281 : 0 ≤ (x9_1 : Int) := of_decide_eq_true (by first | (with_reducible assumption) | assumption)
              have q281 : x9_1 < (l1.length : Int) := of_decide_eq_true (by first | (with_reducible assumption) | assumption)
              obtain ⟨ad281, e281, hx281_0, hx281_1, hx281_2, hx281_3⟩ := at_T54 HR1.out x9_1 p281 q281
              cases e281
              replace hx281_0 := (HB.out.cell (World.block_lt_of_cell? w _ hx281_0)).trans hx281_0
              replace hx281_1 := (HB.out.cell (World.block_lt_of_cell? w _ hx281_1)).trans hx281_1
              replace hx281_2 := (HB.out.cell (World.block_lt_of_cell? w _ hx281_2)).trans hx281_2
              replace hx281_3 := (HB.out.cell (World.block_lt_of_cell? w _ hx281_3)).trans hx281_3
              replace p281 := eq_true p281
              replace q281 := eq_true q281
              go_wp2
              go_roundg k1
              case measure => have := HK1.out; omega
              case rel => exact ⟨(wrap64 (x9_1 + 1)), (by first | rfl | (simp; done) | (simp [*]; done)), H', ⟨by have := HK1.out; omega⟩, ⟨by (with_reducible repeat (first | refine blk_drewN ?_ _ | refine blk_drew ?_ | refine blk_alloc ?_ _)); exact BK280.out⟩, ⟨by repeat (first | (with_reducible first | exact HB.out | apply below_alloc | apply pw_below_drewN | apply below_drew1 | refine below_set ?_ GE280.out) | exact HB.out)⟩⟩
            · rw [if_neg c12] at H
              have c12b0 : decide ((wrap64 (a2 * a3)) < (wrap64 (((rd_T54 l1 x9_1).f3) * 100))) = false := decide_eq_false c12
              clear c12
              obtain rfl := Option.some.inj H
              have p281 : 0 ≤ (x9_1 : Int) := of_decide_eq_true (by first | (with_reducible assumption) | assumption)
              have q281 : x9_1 < (l1.length : Int) := of_decide_eq_true (by first | (with_reducible assumption) | assumption)
              obtain ⟨ad281, e281, hx281_0, hx281_1, hx281_2, hx281_3⟩ := at_T54 HR1.out x9_1 p281 q281
              cases e281
              replace hx281_0 := (HB.out.cell (World.block_lt_of_cell? w _ hx281_0)).trans hx281_0
              replace hx281_1 := (HB.out.cell (World.block_lt_of_cell? w _ hx281_1)).trans hx281_1
              replace hx281_2 := (HB.out.cell (World.block_lt_of_cell? w _ hx281_2)).trans hx281_2
              replace hx281_3 := (HB.out.cell (World.block_lt_of_cell? w _ hx281_3)).trans hx281_3
              replace p281 := eq_true p281
              replace q281 := eq_true q281
              go_wp2
              go_ret
              exact ⟨by first | rfl | (simp [errW_none, errW_some] <;> rfl) | (simp [*, errW_none, errW_some] <;> rfl), by repeat (first | (with_reducible first | exact HB.out | apply below_alloc | apply pw_below_drewN | apply below_drew1 | refine below_set ?_ GE280.out) | exact HB.out)⟩
          · rw [if_neg c11] at H
            exact absurd H (by simp)
        · rw [if_neg c10] at H
          have c10b0 : decide (x9_1 < (l1.length : Int)) = false := decide_eq_false c10
          clear c10
          obtain rfl := Option.some.inj H
          go_wp2
          go_ret
          exact ⟨by first | rfl | (simp [errW_none, errW_some] <;> rfl) | (simp [*, errW_none, errW_some] <;> rfl), by repeat (first | (with_reducible first | exact HB.out | apply below_alloc | apply pw_below_drewN | apply below_drew1 | refine below_set ?_ GE280.out) | exact HB.out)⟩

/-! ### trivetref17_behind_s: function 16, told plainly -/
theorem trivetref17_behind.rd (pre : List (S54)) (x : S54) (xs : List (S54)) (i : Int) (h : (pre.length : Int) = i) : rd_T54 (pre ++ x :: xs) i = x := by
  subst h
  simp [rd_T54, List.getD]
theorem trivetref17_behind.loop (v h : Int) (hv : 0 ≤ v ∧ v ≤ 10000000000000) (hh : 0 ≤ h ∧ h ≤ 100) : ∀ (rest pre : List (S54)) (k : Nat) (i : Int), (pre.length : Int) = i → pre.length + rest.length ≤ 480 → M.within (rest.map fun x => x.f3) = true → M.found (v * h / 100) (rest.map fun x => x.f3) = true → trivetref17_behind.l0 (k + rest.length + 1) (pre ++ rest) v h i = some (i + M.behind (v * h / 100) (rest.map fun x => x.f3))
  | [], pre, k, i, hi, hl, hw, hf => by cases hf
  | x :: xs, pre, k, i, hi, hl, hw, hf => by
    have p1 : 0 ≤ v * h := Int.mul_nonneg hv.1 hh.1
    have p2 : v * h ≤ v * 100 := Int.mul_le_mul_of_nonneg_left hh.2 hv.1
    have hlen : ((pre ++ x :: xs).length : Int) = i + 1 + xs.length := by simp; omega
    have hl' : pre.length + (xs.length + 1) ≤ 480 := by simpa using hl
    rw [List.map_cons] at hw hf
    unfold M.within at hw
    rw [List.all_cons, Bool.and_eq_true] at hw
    obtain ⟨hx, hw⟩ := hw
    have hx := of_decide_eq_true hx
    unfold M.found at hf
    rw [List.any_cons, Bool.or_eq_true] at hf
    have ih := trivetref17_behind.loop v h hv hh xs (pre ++ [x]) k (i + 1) (by simp; omega) (by simp; omega) hw
    rw [List.append_assoc, List.singleton_append] at ih
    obtain ⟨K, hK⟩ : ∃ K, K = k + xs.length + 1 := ⟨_, rfl⟩
    rw [← hK] at ih
    rw [show k + (x :: xs).length + 1 = K + 1 by simp; omega]
    simp only [trivetref17_behind.l0, List.map_cons, M.behind]
    rw [trivetref17_behind.rd pre x xs i hi, hlen, if_pos (show i < i + 1 + (xs.length : Int) by omega), if_pos (show 0 ≤ i by omega), M.w64_id (n := i + 1) (by omega) (by omega), M.w64_id (n := v * h) (by omega) (by omega), M.w64_id (n := x.f3 * 100) (by omega) (by omega)]
    by_cases c : x.f3 ≤ v * h / 100
    · rw [if_neg (show ¬ x.f3 * 100 > v * h by omega), if_pos c]
    · rw [if_pos (show x.f3 * 100 > v * h by omega), if_neg c, ih (hf.resolve_left (by simpa using c)), Int.add_assoc]
theorem trivetref17_behind.tells (b r m f e i w fe g : Int) (L : List (S54)) (v h : Int) (hc : (0 ≤ b ∧ b ≤ 10000000000000) ∧ (0 ≤ v ∧ v ≤ 10000000000000) ∧ (0 ≤ h ∧ h ≤ 100) ∧ L.length ≤ 480 ∧ M.within (L.map fun x => x.f3) = true ∧ M.found (v * h / 100) (L.map fun x => x.f3) = true) (k : Nat) (hk : 482 ≤ k) : trivetref17_behind.f k b r m f e i w fe g L v h = some (if b ≤ v * h / 100 then 0 else M.behind (v * h / 100) (L.map fun x => x.f3)) := by
  obtain ⟨hb, hv, hh, h5, hw, hf⟩ := hc
  have p1 : 0 ≤ v * h := Int.mul_nonneg hv.1 hh.1
  have p2 : v * h ≤ v * 100 := Int.mul_le_mul_of_nonneg_left hh.2 hv.1
  unfold trivetref17_behind.f
  rw [M.w64_id (n := v * h) (by omega) (by omega), M.w64_id (n := b * 100) (by omega) (by omega)]
  by_cases c : b ≤ v * h / 100
  · rw [if_pos (show b * 100 ≤ v * h by omega), if_pos c]
  · rw [if_neg (show ¬ b * 100 ≤ v * h by omega), if_neg c]
    obtain ⟨z, rfl⟩ : ∃ z, k = z + L.length + 1 := ⟨k - L.length - 1, by omega⟩
    have := trivetref17_behind.loop v h hv hh L [] z 0 (by simp) (by simpa using h5) hw hf
    rw [List.nil_append, Int.zero_add] at this
    exact this
def trivetref17_behind_s.f (b r m f e i w fe g : Int) (L : List (S54)) (v h : Int) : Option Int := if (0 ≤ b ∧ b ≤ 10000000000000) ∧ (0 ≤ v ∧ v ≤ 10000000000000) ∧ (0 ≤ h ∧ h ≤ 100) ∧ L.length ≤ 480 ∧ M.within (L.map fun x => x.f3) = true ∧ M.found (v * h / 100) (L.map fun x => x.f3) = true then some (if b ≤ v * h / 100 then 0 else M.behind (v * h / 100) (L.map fun x => x.f3)) else none
theorem trivetref17_behind_s.calls (a0_0 : Int) (a0_1 : Int) (a0_2 : Int) (a0_3 : Int) (a0_4 : Int) (a0_5 : Int) (a0_6 : Int) (a0_7 : Int) (a0_8 : Int) (A1 : Option Addr) (c1 : Nat) (l1 : List (S54)) (a2 : Int) (a3 : Int) (r : Int) (w : World) (hr1 : Kd.C k54 w A1 l1.length l1) (hc1 : l1.length ≤ c1) (h : trivetref17_behind_s.f a0_0 a0_1 a0_2 a0_3 a0_4 a0_5 a0_6 a0_7 a0_8 l1 a2 a3 = some r) :
    Calls Try.prog 16 #[.agg #[.int .i64 a0_0, .int .i64 a0_1, .int .i64 a0_2, .int .i64 a0_3, .int .i64 a0_4, .int .i64 a0_5, .int .i64 a0_6, .int .i64 a0_7, .int .i64 a0_8], .slice A1 l1.length c1, .int .i64 a2, .int .i64 a3] w fun e w' => e = .returned (.int .i64 r) ∧ Below w.heap.size w w' := by
  unfold trivetref17_behind_s.f at h
  split at h
  · rename_i hr
    exact trivetref17_behind.calls (482) a0_0 a0_1 a0_2 a0_3 a0_4 a0_5 a0_6 a0_7 a0_8 A1 c1 l1 a2 a3 r w hr1 hc1 ((trivetref17_behind.tells a0_0 a0_1 a0_2 a0_3 a0_4 a0_5 a0_6 a0_7 a0_8 l1 a2 a3 hr (482) (Nat.le_refl _)).trans h)
  · cases h
theorem trivetref17_behind_s.yes {b r m f e i w fe g : Int} {L : List (S54)} {v h : Int} (hc : (0 ≤ b ∧ b ≤ 10000000000000) ∧ (0 ≤ v ∧ v ≤ 10000000000000) ∧ (0 ≤ h ∧ h ≤ 100) ∧ L.length ≤ 480 ∧ M.within (L.map fun x => x.f3) = true ∧ M.found (v * h / 100) (L.map fun x => x.f3) = true) : trivetref17_behind_s.f b r m f e i w fe g L v h = some (if b ≤ v * h / 100 then 0 else M.behind (v * h / 100) (L.map fun x => x.f3)) := by unfold trivetref17_behind_s.f; rw [if_pos hc]

end Go.Proofs.Ytinpdbimbnhpoaa.P
