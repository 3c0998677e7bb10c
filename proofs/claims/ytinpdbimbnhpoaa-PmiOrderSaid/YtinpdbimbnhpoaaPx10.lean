-- Written by a program of this session out of the translation of the seat: Lean functions and the proofs that the Go functions come to them.
import Derived.Test.YtinpdbimbnhpoaaPx0
import Derived.Test.YtinpdbimbnhpoaaPx9
namespace Go.Proofs.Ytinpdbimbnhpoaa.P
open Go.RowKit Go.Proofs.YtinpdbimbnhpoaaW.PrintWords Go.Proofs.YtinpdbimbnhpoaaW.PrintLast Go.Proofs.YtinpdbimbnhpoaaW.PrintMore
attribute [local go_sem] max2_int min2_int max_two min_two max_three min_three max_four min_four   -- for this text's walks alone
set_option linter.unusedVariables false
set_option linter.unusedSimpArgs false

/-! ### trivetref04_Of: function 22 -/
mutual
def trivetref04_Of.j0 : Nat → Int → Int → Bool → Option (Int × Int × Int × Bool)
  | 0, _, _, _ => none
  | k + 1, x0, x4, x19 => if x19 = true then (some (0, 0, 0, false)) else (trivetref04_Of.l0 k (wrap64 (x0 - x4)) 1900)
def trivetref04_Of.l0 : Nat → Int → Int → Option (Int × Int × Int × Bool)
  | 0, _, _ => none
  | k + 1, x0, x6 => (trivetref04_year_s.f x6).bind fun t232 => (if x0 ≥ t232 then ((trivetref04_year_s.f x6).bind fun t233 => (trivetref04_Of.l0 k (wrap64 (x0 - t233)) (wrap64 (x6 + 1)))) else (trivetref04_Of.l1 k x0 x6 1))
def trivetref04_Of.l1 : Nat → Int → Int → Int → Option (Int × Int × Int × Bool)
  | 0, _, _, _ => none
  | k + 1, x0, x6, x7 => (trivetref04_Days_s.f x6 x7).bind fun t234 => (if x0 ≥ t234 then ((trivetref04_Days_s.f x6 x7).bind fun t235 => (trivetref04_Of.l1 k (wrap64 (x0 - t235)) x6 (wrap64 (x7 + 1)))) else (some (x6, x7, wrap64 (x0 + 1), true)))
end
def trivetref04_Of.f (k : Nat) (a0 : Int) : Option (Int × Int × Int × Bool) := (trivetref04_Number_s.f 1900 1 1).bind fun t230 => ((trivetref04_Number_s.f 2199 12 31).bind fun t231 => (if a0 < t230 then (trivetref04_Of.j0 k a0 t230 true) else (trivetref04_Of.j0 k a0 t230 (decide (a0 > t231)))))
theorem trivetref04_Of.mono_l : ∀ k, (∀ y0 y1 y2, LeO (trivetref04_Of.j0 k y0 y1 y2) (trivetref04_Of.j0 (k + 1) y0 y1 y2)) ∧ (∀ y0 y1, LeO (trivetref04_Of.l0 k y0 y1) (trivetref04_Of.l0 (k + 1) y0 y1)) ∧ (∀ y0 y1 y2, LeO (trivetref04_Of.l1 k y0 y1 y2) (trivetref04_Of.l1 (k + 1) y0 y1 y2))
  | 0 => ⟨fun _ _ _ r h => by simp [trivetref04_Of.j0] at h, fun _ _ r h => by simp [trivetref04_Of.l0] at h, fun _ _ _ r h => by simp [trivetref04_Of.l1] at h⟩
  | k + 1 => by
    obtain ⟨ih0, ih1, ih2⟩ := trivetref04_Of.mono_l k
    refine ⟨?_, ?_, ?_⟩
    · intro y0 y1 y2
      unfold trivetref04_Of.j0
      repeat' first
      | (with_reducible exact ih0 _ _ _)
      | (with_reducible exact ih1 _ _)
      | (with_reducible exact ih2 _ _ _)
      | (with_reducible exact LeO.refl _)
      | (with_reducible exact LeO.none _)
      | (with_reducible refine LeO.ite ?_ ?_)
      | (with_reducible refine LeO.bind ?_ (fun _ => ?_))
      | exact ih0 _ _ _
      | exact ih1 _ _
      | exact ih2 _ _ _
      | exact LeO.none _
      | refine LeO.ite ?_ ?_
      | refine LeO.bind ?_ (fun _ => ?_)
    · intro y0 y1
      unfold trivetref04_Of.l0
      repeat' first
      | (with_reducible exact ih0 _ _ _)
      | (with_reducible exact ih1 _ _)
      | (with_reducible exact ih2 _ _ _)
      | (with_reducible exact LeO.refl _)
      | (with_reducible exact LeO.none _)
      | (with_reducible refine LeO.ite ?_ ?_)
      | (with_reducible refine LeO.bind ?_ (fun _ => ?_))
      | exact ih0 _ _ _
      | exact ih1 _ _
      | exact ih2 _ _ _
      | exact LeO.none _
      | refine LeO.ite ?_ ?_
      | refine LeO.bind ?_ (fun _ => ?_)
    · intro y0 y1 y2
      unfold trivetref04_Of.l1
      repeat' first
      | (with_reducible exact ih0 _ _ _)
      | (with_reducible exact ih1 _ _)
      | (with_reducible exact ih2 _ _ _)
      | (with_reducible exact LeO.refl _)
      | (with_reducible exact LeO.none _)
      | (with_reducible refine LeO.ite ?_ ?_)
      | (with_reducible refine LeO.bind ?_ (fun _ => ?_))
      | exact ih0 _ _ _
      | exact ih1 _ _
      | exact ih2 _ _ _
      | exact LeO.none _
      | refine LeO.ite ?_ ?_
      | refine LeO.bind ?_ (fun _ => ?_)
theorem trivetref04_Of.mono : ∀ a0 k, LeO (trivetref04_Of.f k a0) (trivetref04_Of.f (k + 1) a0) := by
  intro a0 k
  obtain ⟨ih0, ih1, ih2⟩ := trivetref04_Of.mono_l k
  unfold trivetref04_Of.f
  repeat' first
      | (with_reducible exact ih0 _ _ _)
      | (with_reducible exact ih1 _ _)
      | (with_reducible exact ih2 _ _ _)
      | (with_reducible exact LeO.refl _)
      | (with_reducible exact LeO.none _)
      | (with_reducible refine LeO.ite ?_ ?_)
      | (with_reducible refine LeO.bind ?_ (fun _ => ?_))
      | exact ih0 _ _ _
      | exact ih1 _ _
      | exact ih2 _ _ _
      | exact LeO.none _
      | refine LeO.ite ?_ ?_
      | refine LeO.bind ?_ (fun _ => ?_)
set_option maxHeartbeats 8000000 in
set_option maxRecDepth 100000 in
theorem trivetref04_Of.calls (k : Nat) (a0 : Int) (r1 : Int) (r2 : Int) (r3 : Int) (r4 : Bool) (w : World) (h : trivetref04_Of.f k a0 = some (r1, r2, r3, r4)) :
    Calls Try.prog 22 #[.int .i64 a0] w fun e w' => e = .returned (.tuple #[.agg #[.int .i64 r1, .int .i64 r2, .int .i64 r3], .bool r4]) ∧ Below w.heap.size w w' := by
  have hu56 := Try.underlying56
  have HB := Aside0.mk (Below.refl w.heap.size w)
  have H : ((trivetref04_Number_s.f 1900 1 1).bind fun t230 => ((trivetref04_Number_s.f 2199 12 31).bind fun t231 => (if a0 < t230 then (trivetref04_Of.j0 k a0 t230 true) else (trivetref04_Of.j0 k a0 t230 (decide (a0 > t231)))))) = some (r1, r2, r3, r4) := h
  clear h
  replace H := Option.bind_eq_some_iff.mp H
  obtain ⟨t230, A20, H⟩ := H
  replace H : ((trivetref04_Number_s.f 2199 12 31).bind fun t231 => (if a0 < t230 then (trivetref04_Of.j0 k a0 t230 true) else (trivetref04_Of.j0 k a0 t230 (decide (a0 > t231))))) = some (r1, r2, r3, r4) := H
  have A2 := Aside0.mk A20
  clear A20
  replace H := Option.bind_eq_some_iff.mp H
  obtain ⟨t231, A30, H⟩ := H
  replace H : (if a0 < t230 then (trivetref04_Of.j0 k a0 t230 true) else (trivetref04_Of.j0 k a0 t230 (decide (a0 > t231)))) = some (r1, r2, r3, r4) := H
  have A3 := Aside0.mk A30
  clear A30
  have HC4 := Aside0.mk H
  clear H
  go_enter Try.func22, Try.ntmps22
  go_upto_region 3 with (first | ((with_reducible refine gate_dst (N := 2) rfl ?_); refine box_event ?hg (N := 2) ?hd (cs := #[.int .i64 0, .int .i64 0, .int .i64 0]) (t := 56) ?hr ?_; (case hd => rfl); (case hg => rfl); (case hr => first | (go_simp; done) | (go_simp; rfl)); intro gb229 hg w5 hbox hb; have n0_ := Aside0.mk (below_step (by repeat (first | (with_reducible first | exact HB.out | apply below_alloc | apply pw_below_drewN | apply below_drew1) | exact HB.out)) hb); have n1_ := Aside0.mk (hbox); have n2_ := Aside0.mk ((by rw [hg]; exact (below_size (by repeat (first | (with_reducible first | exact HB.out | apply below_alloc | apply pw_below_drewN | apply below_drew1) | exact HB.out))) : w.heap.size ≤ gb229)); have n3_ := Aside0.mk ((by rw [hg]; exact (below_size (by repeat (first | (with_reducible first | exact HB.out | apply below_alloc | apply pw_below_drewN | apply below_drew1) | exact HB.out))) : w.heap.size ≤ gb229)); clear HB; have HB := n0_; have BK229 := n1_; have GW229 := n2_; have GE229 := n3_; clear n0_ n1_ n2_ n3_; clear hb hbox hg) | ((with_reducible refine gate_callee (f := 34) rfl ?_); refine goesL_ (some 9) rfl rfl Try.func34 (by kernel_rfl) rfl #[.agg #[.int .i64 1900, .int .i64 1, .int .i64 1]] rfl (by (try simp only [List.map_toArray, List.map_cons, List.map_nil]); first | done | rfl | (simp only [List.length_drop, List.length_take]; rfl)) ?_; (with_reducible refine (trivetref04_Number_s.calls 1900 1 1 t230 _ A2.out).mono ?_); rintro e w6 ⟨rfl, hb⟩; refine ⟨_, rfl, ?_⟩; have n0_ := Aside0.mk (blk_below (g := gb229) (o := .cells #[.int .i64 0, .int .i64 0, .int .i64 0] 56 (0, 0)) (by (with_reducible repeat (first | refine blk_drewN ?_ _ | refine blk_drew ?_ | refine blk_alloc ?_ _)); exact BK229.out) hb); have n1_ := Aside0.mk (below_step (by repeat (first | (with_reducible first | exact HB.out | apply below_alloc | apply pw_below_drewN | apply below_drew1 | refine below_set ?_ GE229.out) | exact HB.out)) hb); clear BK229; clear HB; have BK229 := n0_; have HB := n1_; clear n0_ n1_; (try clear hb); (try clear hb2); (try clear hk); (try clear hi)) | ((with_reducible refine gate_callee (f := 34) rfl ?_); refine goesL_ (some 11) rfl rfl Try.func34 (by kernel_rfl) rfl #[.agg #[.int .i64 2199, .int .i64 12, .int .i64 31]] rfl (by (try simp only [List.map_toArray, List.map_cons, List.map_nil]); first | done | rfl | (simp only [List.length_drop, List.length_take]; rfl)) ?_; (with_reducible refine (trivetref04_Number_s.calls 2199 12 31 t231 _ A3.out).mono ?_); rintro e w7 ⟨rfl, hb⟩; refine ⟨_, rfl, ?_⟩; have n0_ := Aside0.mk (blk_below (g := gb229) (o := .cells #[.int .i64 0, .int .i64 0, .int .i64 0] 56 (0, 0)) (by (with_reducible repeat (first | refine blk_drewN ?_ _ | refine blk_drew ?_ | refine blk_alloc ?_ _)); exact BK229.out) hb); have n1_ := Aside0.mk (below_step (by repeat (first | (with_reducible first | exact HB.out | apply below_alloc | apply pw_below_drewN | apply below_drew1 | refine below_set ?_ GE229.out) | exact HB.out)) hb); clear BK229; clear HB; have BK229 := n0_; have HB := n1_; clear n0_ n1_; (try clear hb); (try clear hb2); (try clear hk); (try clear hi)))
  (try simp only [Act.put, List.setIfInBounds_toArray, List.set_cons_zero, List.set_cons_succ])
  go_cut [19] (fun v19 wc => ∃ (kq : Nat) (x19_3 : Bool), v19 = .bool x19_3 ∧ Aside0 (trivetref04_Of.j0 kq a0 t230 x19_3 = some (r1, r2, r3, r4)) ∧ Aside0 (kq ≤ k) ∧ Aside0 (wc.heap[gb229]? = some (.cells #[.int .i64 0, .int .i64 0, .int .i64 0] 56 (0, 0))) ∧ Aside0 (Below w.heap.size w wc))
  case first =>
    have H := HC4.out
    clear HC4
    by_cases c8 : a0 < t230
    · rw [if_pos c8] at H
      have c8b0 : decide (a0 < t230) = true := decide_eq_true c8
      clear c8
      (first | rw [c8b0] | (simp only [i64_w, i32_w]; rw [c8b0]) | skip)
      have H' := Aside0.mk H
      clear H
      go_wp2
      go_meet
      case rel => exact ⟨_, (true), (by first | rfl | (simp; done) | (simp [*]; done)), H', ⟨by first | omega | exact Nat.le_refl _⟩, ⟨by (with_reducible repeat (first | refine blk_drewN ?_ _ | refine blk_drew ?_ | refine blk_alloc ?_ _)); exact BK229.out⟩, ⟨by repeat (first | (with_reducible first | exact HB.out | apply below_alloc | apply pw_below_drewN | apply below_drew1 | refine below_set ?_ GE229.out) | exact HB.out)⟩⟩
    · rw [if_neg c8] at H
      have c8b0 : decide (a0 < t230) = false := decide_eq_false c8
      clear c8
      (first | rw [c8b0] | (simp only [i64_w, i32_w]; rw [c8b0]) | skip)
      have H' := Aside0.mk H
      clear H
      go_wp2
      go_meet
      case rel => exact ⟨_, (decide (a0 > t231)), (by first | rfl | (simp; done) | (simp [*]; done)), H', ⟨by first | omega | exact Nat.le_refl _⟩, ⟨by (with_reducible repeat (first | refine blk_drewN ?_ _ | refine blk_drew ?_ | refine blk_alloc ?_ _)); exact BK229.out⟩, ⟨by repeat (first | (with_reducible first | exact HB.out | apply below_alloc | apply pw_below_drewN | apply below_drew1 | refine below_set ?_ GE229.out) | exact HB.out)⟩⟩
  case rest =>
    clear HC4
    try clear c2
    try clear p2
    try clear c3
    try clear c8
    try clear c8b0
    obtain ⟨kq, x19_3, rfl, HA, HJ3, BK229, HB⟩ := hcut
    cases kq with
    | zero => exact absurd HA.out (by simp [trivetref04_Of.j0])
    | succ kj3 =>
      have H := HA.out
      clear HA
      simp only [trivetref04_Of.j0] at H
      by_cases c9 : x19_3 = true
      · subst c9
        have H1 : (some (0, 0, 0, false)) = some (r1, r2, r3, r4) := by rw [if_pos rfl] at H; exact H
        clear H
        have H := H1
        clear H1
        simp only [Option.some.injEq, Prod.mk.injEq] at H
        obtain ⟨rfl, rfl, rfl, rfl⟩ := H
        have hcz10 := blkAll3 BK229.out
        go_wp2
        refine bodyPost_ret (results_ct rfl _ _ gb229 56 #[.int .i64 0, .int .i64 0, .int .i64 0] (0, 0) _ rfl (by (with_reducible repeat (first | refine blk_drewN ?_ _ | refine blk_drew ?_ | refine blk_alloc ?_ _ | apply blkPut3_2 | apply blkPut3_1 | apply blkPut3_0)); exact BK229.out) Try.underlying56 rfl (by kernel_rfl)) rfl ?_
        exact ⟨by first | rfl | (simp [errW_none, errW_some] <;> rfl) | (simp [*, errW_none, errW_some] <;> rfl), by repeat (first | (with_reducible first | exact HB.out | apply below_alloc | apply pw_below_drewN | apply below_drew1 | refine below_set ?_ GE229.out) | exact HB.out)⟩
      · replace c9 := Bool.eq_false_iff.mpr c9
        subst c9
        have H1 : (trivetref04_Of.l0 kj3 (wrap64 (a0 - t230)) 1900) = some (r1, r2, r3, r4) := by rw [if_neg (show ¬ (false = true) by decide)] at H; exact H
        clear H
        have H := H1
        clear H1
        have H' := Aside0.mk H
        clear H
        go_wp2
        (try simp only [Act.put, List.setIfInBounds_toArray, List.set_cons_zero, List.set_cons_succ])
        go_loopg [0, 6] kj3 (fun kq v0 v6 w' => ∃ (x0_2 : Int) (x6_2 : Int), v0 = .int .i64 x0_2 ∧ v6 = .int .i64 x6_2 ∧ Aside0 (trivetref04_Of.l0 kq x0_2 x6_2 = some (r1, r2, r3, r4)) ∧ Aside0 (kq ≤ kj3) ∧ Aside0 (w'.heap[gb229]? = some (.cells #[.int .i64 0, .int .i64 0, .int .i64 0] 56 (0, 0))) ∧ Aside0 (Below w.heap.size w w'))
        case atStart => exact ⟨(wrap64 (a0 - t230)), (1900), (by first | rfl | (simp; done) | (simp [*]; done)), (by first | rfl | (simp; done) | (simp [*]; done)), H', ⟨Nat.le_refl _⟩, ⟨by (with_reducible repeat (first | refine blk_drewN ?_ _ | refine blk_drew ?_ | refine blk_alloc ?_ _)); exact BK229.out⟩, ⟨by repeat (first | (with_reducible first | exact HB.out | apply below_alloc | apply pw_below_drewN | apply below_drew1 | refine below_set ?_ GE229.out) | exact HB.out)⟩⟩
        case round =>
          clear H'
          try clear c2
          try clear p2
          try clear c3
          try clear p6
          try clear c8
          try clear c8b0
          try clear c9
          try clear hcz10
          try clear p2
          obtain ⟨x0_2, x6_2, rfl, rfl, HA, HK2, BK229, HB⟩ := hrel
          cases gk with
          | zero => exact absurd HA.out (by simp [trivetref04_Of.l0])
          | succ k2 =>
            have H := HA.out
            clear HA
            simp only [trivetref04_Of.l0] at H
            replace H := Option.bind_eq_some_iff.mp H
            obtain ⟨t232, A110, H⟩ := H
            replace H : (if x0_2 ≥ t232 then ((trivetref04_year_s.f x6_2).bind fun t233 => (trivetref04_Of.l0 k2 (wrap64 (x0_2 - t233)) (wrap64 (x6_2 + 1)))) else (trivetref04_Of.l1 k2 x0_2 x6_2 1)) = some (r1, r2, r3, r4) := H
            have A11 := Aside0.mk A110
            clear A110
            by_cases c12 : x0_2 ≥ t232
            · rw [if_pos c12] at H
              have c12b0 : decide (t232 ≤ x0_2) = true := decide_eq_true c12
              clear c12
              replace H := Option.bind_eq_some_iff.mp H
              obtain ⟨t233, A130, H⟩ := H
              replace H : (trivetref04_Of.l0 k2 (wrap64 (x0_2 - t233)) (wrap64 (x6_2 + 1))) = some (r1, r2, r3, r4) := H
              have A13 := Aside0.mk A130
              clear A130
              have H' := Aside0.mk H
              clear H
              go_wp2_with (first | ((with_reducible refine gate_callee (f := 35) rfl ?_); refine goesL_ (some 26) rfl rfl Try.func35 (by kernel_rfl) rfl #[.int .i64 x6_2] rfl (by (try simp only [List.map_toArray, List.map_cons, List.map_nil]); first | done | rfl | (simp only [List.length_drop, List.length_take]; rfl)) ?_; (with_reducible refine (trivetref04_year_s.calls x6_2 t232 _ A11.out).mono ?_); rintro e w' ⟨rfl, ⟨nd, rfl⟩⟩; refine ⟨_, rfl, ?_⟩) | ((with_reducible refine gate_callee (f := 35) rfl ?_); refine goesL_ (some 30) rfl rfl Try.func35 (by kernel_rfl) rfl #[.int .i64 x6_2] rfl (by (try simp only [List.map_toArray, List.map_cons, List.map_nil]); first | done | rfl | (simp only [List.length_drop, List.length_take]; rfl)) ?_; (with_reducible refine (trivetref04_year_s.calls x6_2 t233 _ A13.out).mono ?_); rintro e w' ⟨rfl, ⟨nd, rfl⟩⟩; refine ⟨_, rfl, ?_⟩))
              go_roundg k2
              case measure => have := HJ3.out; have := HK2.out; omega
              case rel => exact ⟨(wrap64 (x0_2 - t233)), (wrap64 (x6_2 + 1)), (by first | rfl | (simp; done) | (simp [*]; done)), (by first | rfl | (simp; done) | (simp [*]; done)), H', ⟨by have := HJ3.out; have := HK2.out; omega⟩, ⟨by (with_reducible repeat (first | refine blk_drewN ?_ _ | refine blk_drew ?_ | refine blk_alloc ?_ _)); exact BK229.out⟩, ⟨by repeat (first | (with_reducible first | exact HB.out | apply below_alloc | apply pw_below_drewN | apply below_drew1 | refine below_set ?_ GE229.out) | exact HB.out)⟩⟩
            · rw [if_neg c12] at H
              have c12b0 : decide (t232 ≤ x0_2) = false := decide_eq_false c12
              clear c12
              have H' := Aside0.mk H
              clear H
              go_wp2_with (first | ((with_reducible refine gate_callee (f := 35) rfl ?_); refine goesL_ (some 26) rfl rfl Try.func35 (by kernel_rfl) rfl #[.int .i64 x6_2] rfl (by (try simp only [List.map_toArray, List.map_cons, List.map_nil]); first | done | rfl | (simp only [List.length_drop, List.length_take]; rfl)) ?_; (with_reducible refine (trivetref04_year_s.calls x6_2 t232 _ A11.out).mono ?_); rintro e w' ⟨rfl, ⟨nd, rfl⟩⟩; refine ⟨_, rfl, ?_⟩))
              (try simp only [Act.put, List.setIfInBounds_toArray, List.set_cons_zero, List.set_cons_succ])
              go_loopg [0, 7] k2 (fun kq v0 v7 w' => ∃ (x0_3 : Int) (x7_3 : Int), v0 = .int .i64 x0_3 ∧ v7 = .int .i64 x7_3 ∧ Aside0 (trivetref04_Of.l1 kq x0_3 x6_2 x7_3 = some (r1, r2, r3, r4)) ∧ Aside0 (kq ≤ k2) ∧ Aside0 (w'.heap[gb229]? = some (.cells #[.int .i64 0, .int .i64 0, .int .i64 0] 56 (0, 0))) ∧ Aside0 (Below w.heap.size w w'))
              case atStart => exact ⟨(x0_2), (1), (by first | rfl | (simp; done) | (simp [*]; done)), (by first | rfl | (simp; done) | (simp [*]; done)), H', ⟨Nat.le_refl _⟩, ⟨by (with_reducible repeat (first | refine blk_drewN ?_ _ | refine blk_drew ?_ | refine blk_alloc ?_ _)); exact BK229.out⟩, ⟨by repeat (first | (with_reducible first | exact HB.out | apply below_alloc | apply pw_below_drewN | apply below_drew1 | refine below_set ?_ GE229.out) | exact HB.out)⟩⟩
              case round =>
                clear H'
                try clear c1
                try clear c2
                try clear p2
                try clear c3
                try clear p6
                try clear c8
                try clear c8b0
                try clear c9
                try clear c12
                try clear c12b0
                try clear hcz10
                try clear p2
                try clear p6
                obtain ⟨x0_3, x7_3, rfl, rfl, HA, HK3, BK229, HB⟩ := hrel
                cases gk with
                | zero => exact absurd HA.out (by simp [trivetref04_Of.l1])
                | succ k3 =>
                  have H := HA.out
                  clear HA
                  simp only [trivetref04_Of.l1] at H
                  replace H := Option.bind_eq_some_iff.mp H
                  obtain ⟨t234, A140, H⟩ := H
                  replace H : (if x0_3 ≥ t234 then ((trivetref04_Days_s.f x6_2 x7_3).bind fun t235 => (trivetref04_Of.l1 k3 (wrap64 (x0_3 - t235)) x6_2 (wrap64 (x7_3 + 1)))) else (some (x6_2, x7_3, wrap64 (x0_3 + 1), true))) = some (r1, r2, r3, r4) := H
                  have A14 := Aside0.mk A140
                  clear A140
                  by_cases c15 : x0_3 ≥ t234
                  · rw [if_pos c15] at H
                    have c15b0 : decide (t234 ≤ x0_3) = true := decide_eq_true c15
                    clear c15
                    replace H := Option.bind_eq_some_iff.mp H
                    obtain ⟨t235, A160, H⟩ := H
                    replace H : (trivetref04_Of.l1 k3 (wrap64 (x0_3 - t235)) x6_2 (wrap64 (x7_3 + 1))) = some (r1, r2, r3, r4) := H
                    have A16 := Aside0.mk A160
                    clear A160
                    have H' := Aside0.mk H
                    clear H
                    go_wp2_with (first | ((with_reducible refine gate_callee (f := 36) rfl ?_); refine goesL_ (some 37) rfl rfl Try.func36 (by kernel_rfl) rfl #[.int .i64 x6_2, .int .i64 x7_3] rfl (by (try simp only [List.map_toArray, List.map_cons, List.map_nil]); first | done | rfl | (simp only [List.length_drop, List.length_take]; rfl)) ?_; (with_reducible refine (trivetref04_Days_s.calls x6_2 x7_3 t234 _ A14.out).mono ?_); rintro e w' ⟨rfl, ⟨nd, rfl⟩⟩; refine ⟨_, rfl, ?_⟩) | ((with_reducible refine gate_callee (f := 36) rfl ?_); refine goesL_ (some 42) rfl rfl Try.func36 (by kernel_rfl) rfl #[.int .i64 x6_2, .int .i64 x7_3] rfl (by (try simp only [List.map_toArray, List.map_cons, List.map_nil]); first | done | rfl | (simp only [List.length_drop, List.length_take]; rfl)) ?_; (with_reducible refine (trivetref04_Days_s.calls x6_2 x7_3 t235 _ A16.out).mono ?_); rintro e w' ⟨rfl, ⟨nd, rfl⟩⟩; refine ⟨_, rfl, ?_⟩))
                    go_roundg k3
                    case measure => have := HJ3.out; have := HK2.out; have := HK3.out; omega
                    case rel => exact ⟨(wrap64 (x0_3 - t235)), (wrap64 (x7_3 + 1)), (by first | rfl | (simp; done) | (simp [*]; done)), (by first | rfl | (simp; done) | (simp [*]; done)), H', ⟨by have := HJ3.out; have := HK2.out; have := HK3.out; omega⟩, ⟨by (with_reducible repeat (first | refine blk_drewN ?_ _ | refine blk_drew ?_ | refine blk_alloc ?_ _)); exact BK229.out⟩, ⟨by repeat (first | (with_reducible first | exact HB.out | apply below_alloc | apply pw_below_drewN | apply below_drew1 | refine below_set ?_ GE229.out) | exact HB.out)⟩⟩
                  · rw [if_neg c15] at H
                    have c15b0 : decide (t234 ≤ x0_3) = false := decide_eq_false c15
                    clear c15
                    simp only [Option.some.injEq, Prod.mk.injEq] at H
                    obtain ⟨rfl, rfl, rfl, rfl⟩ := H
                    go_wp2_with (first | ((with_reducible refine gate_callee (f := 36) rfl ?_); refine goesL_ (some 37) rfl rfl Try.func36 (by kernel_rfl) rfl #[.int .i64 x6_2, .int .i64 x7_3] rfl (by (try simp only [List.map_toArray, List.map_cons, List.map_nil]); first | done | rfl | (simp only [List.length_drop, List.length_take]; rfl)) ?_; (with_reducible refine (trivetref04_Days_s.calls x6_2 x7_3 t234 _ A14.out).mono ?_); rintro e w' ⟨rfl, ⟨nd, rfl⟩⟩; refine ⟨_, rfl, ?_⟩; (try (rw [drewN_self wr]; generalize hq_ : World.drewN wr _ = wr; have n0_ : Aside0 (wr.heap[gb229]? = some (.cells #[.int .i64 0, .int .i64 0, .int .i64 0] 56 (0, 0))) := ⟨by rw [← hq_]; exact (by (with_reducible repeat (first | refine blk_drewN ?_ _ | refine blk_drew ?_ | refine blk_alloc ?_ _)); exact BK229.out)⟩; have n1_ : Aside0 (Below w.heap.size w wr) := ⟨by rw [← hq_]; exact (by repeat (first | (with_reducible first | exact HB.out | apply below_alloc | apply pw_below_drewN | apply below_drew1 | refine below_set ?_ GE229.out) | exact HB.out))⟩; clear BK229 HB hq_; have BK229 := n0_; have HB := n1_; clear n0_ n1_)); have hcz17 := blkAll3 BK229.out))
                    refine bodyPost_ret (results_ct rfl _ _ gb229 56 #[.int .i64 x6_2, .int .i64 x7_3, .int .i64 (wrap64 (x0_3 + 1))] (0, 0) _ rfl (by (with_reducible repeat (first | refine blk_drewN ?_ _ | refine blk_drew ?_ | refine blk_alloc ?_ _ | apply blkPut3_2 | apply blkPut3_1 | apply blkPut3_0)); exact BK229.out) Try.underlying56 rfl (by kernel_rfl)) rfl ?_
                    exact ⟨by first | rfl | (simp [errW_none, errW_some] <;> rfl) | (simp [*, errW_none, errW_some] <;> rfl), by repeat (first | (with_reducible first | exact HB.out | apply below_alloc | apply pw_below_drewN | apply below_drew1 | refine below_set ?_ GE229.out) | exact HB.out)⟩

/-! ### trivetref04_Of_s: function 22, told plainly -/
theorem trivetref04_Of.loop1 (n Y : Int) (hY : 1900 ≤ Y ∧ Y ≤ 2199) (hn : n < M.civ (Y + 1) 1 1) : ∀ (j : Nat) (m : Int), m + j = 12 → 1 ≤ m → M.civ Y m 1 ≤ n → ∀ k, j + 1 ≤ k →
    ∃ m' d', trivetref04_Of.l1 k (n - M.civ Y m 1) Y m = some (Y, m', d', true) ∧ M.date Y m' d' ∧ M.civ Y m' d' = n := by
  intro j
  induction j with
  | zero =>
    intro m hm hm1 hc k hk
    obtain ⟨k, rfl⟩ : ∃ m, k = m + 1 := ⟨k - 1, by omega⟩
    obtain rfl : m = 12 := by omega
    have hl := M.days_pos (y := Y) (m := 12) (by omega)
    have hd : M.days Y 12 = 31 := by unfold M.days; rw [if_pos (by omega), if_neg (by decide), if_neg (by decide)]
    have hy := M.civ_year (y := Y)
    simp only [trivetref04_Of.l1]
    unfold trivetref04_Days_s.f
    rw [Option.bind_some, if_neg (by omega), M.w64_id (by omega) (by omega)]
    refine ⟨12, n - M.civ Y 12 1 + 1, rfl, ⟨by omega, by omega⟩, ?_⟩
    rw [M.civ_day]; omega
  | succ j ih =>
    intro m hm hm1 hc k hk
    obtain ⟨k, rfl⟩ : ∃ m, k = m + 1 := ⟨k - 1, by omega⟩
    have hl := M.days_pos (y := Y) (m := m) (by omega)
    have e := M.civ_next (y := Y) (m := m) hY (by omega)
    have b1 := M.civ_bd (y := Y) (m := m) (d := 1) ⟨by decide, by omega⟩
    have b2 := M.civ_ylen hY
    have b3 := M.civ_bd (y := Y) (m := 1) (d := 1) ⟨by decide, by have := M.days_pos (y := Y) (m := 1) (by omega); omega⟩
    have b4 := M.days_bd Y 2
    simp only [trivetref04_Of.l1]
    unfold trivetref04_Days_s.f
    rw [Option.bind_some]
    by_cases h : n - M.civ Y m 1 ≥ M.days Y m
    · rw [if_pos h, Option.bind_some, M.w64_id (n := m + 1) (by omega) (by omega), M.w64_id (by omega) (by omega), show n - M.civ Y m 1 - M.days Y m = n - M.civ Y (m + 1) 1 by omega]
      exact ih (m + 1) (by omega) (by omega) (by omega) k (by omega)
    · rw [if_neg h, M.w64_id (by omega) (by omega)]
      refine ⟨m, n - M.civ Y m 1 + 1, rfl, ⟨by omega, by omega⟩, ?_⟩
      rw [M.civ_day]; omega
theorem trivetref04_Of.loop0 (n : Int) (hn : n ≤ 84005) : ∀ (j : Nat) (y : Int), y + j = 2199 → 1900 ≤ y → M.civ y 1 1 ≤ n → ∀ k, j + 20 ≤ k →
    ∃ y' m' d', trivetref04_Of.l0 k (n - M.civ y 1 1) y = some (y', m', d', true) ∧ M.date y' m' d' ∧ M.civ y' m' d' = n := by
  have c1 : M.civ 2200 1 1 = 84006 := by decide
  intro j
  induction j with
  | zero =>
    intro y hy hy1 hc k hk
    obtain ⟨k, rfl⟩ : ∃ m, k = m + 1 := ⟨k - 1, by omega⟩
    obtain rfl : y = 2199 := by omega
    have e := M.civ_ylen (y := 2199) (by omega)
    simp only [trivetref04_Of.l0]
    unfold trivetref04_year_s.f
    rw [Option.bind_some, if_neg (by rw [show (2199 : Int) + 1 = 2200 from rfl] at e; omega)]
    obtain ⟨m', d', g1, g2, g3⟩ := trivetref04_Of.loop1 n 2199 (by omega) (by rw [show (2199 : Int) + 1 = 2200 from rfl]; omega) 11 1 (by omega) (by omega) hc k (by omega)
    exact ⟨2199, m', d', g1, g2, g3⟩
  | succ j ih =>
    intro y hy hy1 hc k hk
    obtain ⟨k, rfl⟩ : ∃ m, k = m + 1 := ⟨k - 1, by omega⟩
    have e := M.civ_ylen (y := y) (by omega)
    have b3 := M.civ_bd (y := y) (m := 1) (d := 1) ⟨by decide, by have := M.days_pos (y := y) (m := 1) (by omega); omega⟩
    have b4 := M.days_bd y 2
    simp only [trivetref04_Of.l0]
    unfold trivetref04_year_s.f
    rw [Option.bind_some]
    by_cases h : n - M.civ y 1 1 ≥ 337 + M.days y 2
    · rw [if_pos h, Option.bind_some, M.w64_id (n := y + 1) (by omega) (by omega), M.w64_id (by omega) (by omega), show n - M.civ y 1 1 - (337 + M.days y 2) = n - M.civ (y + 1) 1 1 by omega]
      exact ih (y + 1) (by omega) (by omega) (by omega) k (by omega)
    · rw [if_neg h]
      obtain ⟨m', d', g1, g2, g3⟩ := trivetref04_Of.loop1 n y (by omega) (by omega) 11 1 (by omega) (by omega) hc k (by omega)
      exact ⟨y, m', d', g1, g2, g3⟩
theorem trivetref04_Of.tells (n : Int) (hn : M.In n) (k : Nat) (hk : 400 ≤ k) : trivetref04_Of.f k n =
    some (if -25567 ≤ n ∧ n ≤ 84005 then (M.yr n, M.mo n, M.dy n, true) else (0, 0, 0, false)) := by
  obtain ⟨k, rfl⟩ : ∃ m, k = m + 1 := ⟨k - 1, by omega⟩
  have c0 : trivetref04_Number_s.f 1900 1 1 = some (-25567) := by decide
  have c1 : trivetref04_Number_s.f 2199 12 31 = some 84005 := by decide
  have c2 : M.civ 1900 1 1 = -25567 := by decide
  unfold trivetref04_Of.f
  rw [c0, c1]
  simp only [Option.bind_some]
  by_cases h1 : n < -25567
  · rw [if_pos h1, if_neg (by omega)]
    simp [trivetref04_Of.j0]
  rw [if_neg h1]
  by_cases h2 : n > 84005
  · rw [decide_eq_true h2, if_neg (by omega)]
    simp [trivetref04_Of.j0]
  rw [decide_eq_false h2, if_pos (show -25567 ≤ n ∧ n ≤ 84005 by omega)]
  simp only [trivetref04_Of.j0]
  rw [if_neg (by decide), M.w64_id (by omega) (by omega)]
  obtain ⟨y', m', d', g1, g2, g3⟩ := trivetref04_Of.loop0 n (by omega) 299 1900 (by omega) (by omega) (by omega) k (by omega)
  rw [c2] at g1
  rw [g1]
  obtain ⟨q1, q2, q3⟩ := M.of_civ g2
  rw [g3] at q1 q2 q3
  rw [q1, q2, q3]
def trivetref04_Of_s.f (n : Int) : Option (Int × Int × Int × Bool) := if M.In n then some (if -25567 ≤ n ∧ n ≤ 84005 then (M.yr n, M.mo n, M.dy n, true) else (0, 0, 0, false)) else none
theorem trivetref04_Of_s.calls (a0 : Int) (r1 : Int) (r2 : Int) (r3 : Int) (r4 : Bool) (w : World) (h : trivetref04_Of_s.f a0 = some (r1, r2, r3, r4)) :
    Calls Try.prog 22 #[.int .i64 a0] w fun e w' => e = .returned (.tuple #[.agg #[.int .i64 r1, .int .i64 r2, .int .i64 r3], .bool r4]) ∧ Below w.heap.size w w' := by
  unfold trivetref04_Of_s.f at h
  split at h
  · rename_i hr
    exact trivetref04_Of.calls (400) a0 r1 r2 r3 r4 w ((trivetref04_Of.tells a0 hr (400) (Nat.le_refl _)).trans h)
  · cases h
theorem trivetref04_Of_s.yes {n : Int} (h : -25567 ≤ n ∧ n ≤ 84005) : trivetref04_Of_s.f n = some (M.yr n, M.mo n, M.dy n, true) := by unfold trivetref04_Of_s.f; rw [if_pos (by unfold M.In; omega), if_pos h]
theorem trivetref04_Of_s.no {n : Int} (hn : M.In n) (h : ¬ (-25567 ≤ n ∧ n ≤ 84005)) : trivetref04_Of_s.f n = some (0, 0, 0, false) := by unfold trivetref04_Of_s.f; rw [if_pos hn, if_neg h]

/-! ### trivetref04_Months: function 23 -/
mutual
def trivetref04_Months.j0 : Nat → Int → Bool → Int → Int → Int → Option (Int × Int × Int × Bool)
  | 0, _, _, _, _, _ => none
  | k + 1, x1, x12, x237000, x237001, x237002 => if x12 = true then (some (0, 0, 0, false)) else (trivetref04_Months.l0 k x1 x237000 x237001 x237002)
def trivetref04_Months.l0 : Nat → Int → Int → Int → Int → Option (Int × Int × Int × Bool)
  | 0, _, _, _, _ => none
  | k + 1, x1, x237000, x237001, x237002 => if x1 > 0 then (if (wrap64 (x237001 + 1)) > 12 then (trivetref04_Months.l0 k (wrap64 (x1 - 1)) (wrap64 (x237000 + 1)) 1 x237002) else (trivetref04_Months.l0 k (wrap64 (x1 - 1)) x237000 (wrap64 (x237001 + 1)) x237002)) else (trivetref04_Months.l1 k x1 x237000 x237001 x237002)
def trivetref04_Months.l1 : Nat → Int → Int → Int → Int → Option (Int × Int × Int × Bool)
  | 0, _, _, _, _ => none
  | k + 1, x1, x237000, x237001, x237002 => if x1 < 0 then (if (wrap64 (x237001 - 1)) < 1 then (trivetref04_Months.l1 k (wrap64 (x1 + 1)) (wrap64 (x237000 - 1)) 12 x237002) else (trivetref04_Months.l1 k (wrap64 (x1 + 1)) x237000 (wrap64 (x237001 - 1)) x237002)) else ((trivetref04_Days_s.f x237000 x237001).bind fun t238 => (if t238 = 0 then (some (0, 0, 0, false)) else (if x237002 > t238 then (some (x237000, x237001, t238, true)) else (some (x237000, x237001, x237002, true)))))
end
def trivetref04_Months.f (k : Nat) (a0_0 : Int) (a0_1 : Int) (a0_2 : Int) (a1 : Int) : Option (Int × Int × Int × Bool) := if a1 < (-3600) then (trivetref04_Months.j0 k a1 true a0_0 a0_1 a0_2) else (trivetref04_Months.j0 k a1 (decide (a1 > 3600)) a0_0 a0_1 a0_2)
theorem trivetref04_Months.mono_l : ∀ k, (∀ y0 y1 y2 y3 y4, LeO (trivetref04_Months.j0 k y0 y1 y2 y3 y4) (trivetref04_Months.j0 (k + 1) y0 y1 y2 y3 y4)) ∧ (∀ y0 y1 y2 y3, LeO (trivetref04_Months.l0 k y0 y1 y2 y3) (trivetref04_Months.l0 (k + 1) y0 y1 y2 y3)) ∧ (∀ y0 y1 y2 y3, LeO (trivetref04_Months.l1 k y0 y1 y2 y3) (trivetref04_Months.l1 (k + 1) y0 y1 y2 y3))
  | 0 => ⟨fun _ _ _ _ _ r h => by simp [trivetref04_Months.j0] at h, fun _ _ _ _ r h => by simp [trivetref04_Months.l0] at h, fun _ _ _ _ r h => by simp [trivetref04_Months.l1] at h⟩
  | k + 1 => by
    obtain ⟨ih0, ih1, ih2⟩ := trivetref04_Months.mono_l k
    refine ⟨?_, ?_, ?_⟩
    · intro y0 y1 y2 y3 y4
      unfold trivetref04_Months.j0
      repeat' first
      | (with_reducible exact ih0 _ _ _ _ _)
      | (with_reducible exact ih1 _ _ _ _)
      | (with_reducible exact ih2 _ _ _ _)
      | (with_reducible exact LeO.refl _)
      | (with_reducible exact LeO.none _)
      | (with_reducible refine LeO.ite ?_ ?_)
      | (with_reducible refine LeO.bind ?_ (fun _ => ?_))
      | exact ih0 _ _ _ _ _
      | exact ih1 _ _ _ _
      | exact ih2 _ _ _ _
      | exact LeO.none _
      | refine LeO.ite ?_ ?_
      | refine LeO.bind ?_ (fun _ => ?_)
    · intro y0 y1 y2 y3
      unfold trivetref04_Months.l0
      repeat' first
      | (with_reducible exact ih0 _ _ _ _ _)
      | (with_reducible exact ih1 _ _ _ _)
      | (with_reducible exact ih2 _ _ _ _)
      | (with_reducible exact LeO.refl _)
      | (with_reducible exact LeO.none _)
      | (with_reducible refine LeO.ite ?_ ?_)
      | (with_reducible refine LeO.bind ?_ (fun _ => ?_))
      | exact ih0 _ _ _ _ _
      | exact ih1 _ _ _ _
      | exact ih2 _ _ _ _
      | exact LeO.none _
      | refine LeO.ite ?_ ?_
      | refine LeO.bind ?_ (fun _ => ?_)
    · intro y0 y1 y2 y3
      unfold trivetref04_Months.l1
      repeat' first
      | (with_reducible exact ih0 _ _ _ _ _)
      | (with_reducible exact ih1 _ _ _ _)
      | (with_reducible exact ih2 _ _ _ _)
      | (with_reducible exact LeO.refl _)
      | (with_reducible exact LeO.none _)
      | (with_reducible refine LeO.ite ?_ ?_)
      | (with_reducible refine LeO.bind ?_ (fun _ => ?_))
      | exact ih0 _ _ _ _ _
      | exact ih1 _ _ _ _
      | exact ih2 _ _ _ _
      | exact LeO.none _
      | refine LeO.ite ?_ ?_
      | refine LeO.bind ?_ (fun _ => ?_)
theorem trivetref04_Months.mono : ∀ a0 a1 a2 a3 k, LeO (trivetref04_Months.f k a0 a1 a2 a3) (trivetref04_Months.f (k + 1) a0 a1 a2 a3) := by
  intro a0 a1 a2 a3 k
  obtain ⟨ih0, ih1, ih2⟩ := trivetref04_Months.mono_l k
  unfold trivetref04_Months.f
  repeat' first
      | (with_reducible exact ih0 _ _ _ _ _)
      | (with_reducible exact ih1 _ _ _ _)
      | (with_reducible exact ih2 _ _ _ _)
      | (with_reducible exact LeO.refl _)
      | (with_reducible exact LeO.none _)
      | (with_reducible refine LeO.ite ?_ ?_)
      | (with_reducible refine LeO.bind ?_ (fun _ => ?_))
      | exact ih0 _ _ _ _ _
      | exact ih1 _ _ _ _
      | exact ih2 _ _ _ _
      | exact LeO.none _
      | refine LeO.ite ?_ ?_
      | refine LeO.bind ?_ (fun _ => ?_)
set_option maxHeartbeats 8000000 in
set_option maxRecDepth 100000 in
theorem trivetref04_Months.calls (k : Nat) (a0_0 : Int) (a0_1 : Int) (a0_2 : Int) (a1 : Int) (r1 : Int) (r2 : Int) (r3 : Int) (r4 : Bool) (w : World) (h : trivetref04_Months.f k a0_0 a0_1 a0_2 a1 = some (r1, r2, r3, r4)) :
    Calls Try.prog 23 #[.agg #[.int .i64 a0_0, .int .i64 a0_1, .int .i64 a0_2], .int .i64 a1] w fun e w' => e = .returned (.tuple #[.agg #[.int .i64 r1, .int .i64 r2, .int .i64 r3], .bool r4]) ∧ Below w.heap.size w w' := by
  have hu56 := Try.underlying56
  have HB := Aside0.mk (Below.refl w.heap.size w)
  have H : (if a1 < (-3600) then (trivetref04_Months.j0 k a1 true a0_0 a0_1 a0_2) else (trivetref04_Months.j0 k a1 (decide (a1 > 3600)) a0_0 a0_1 a0_2)) = some (r1, r2, r3, r4) := h
  clear h
  have HC3 := Aside0.mk H
  clear H
  go_enter Try.func23, Try.ntmps23
  go_upto_region 1 with (first | ((with_reducible refine gate_dst (N := 2) rfl ?_); refine box_event ?hg (N := 2) ?hd (cs := #[.int .i64 a0_0, .int .i64 a0_1, .int .i64 a0_2]) (t := 56) ?hr ?_; (case hd => rfl); (case hg => rfl); (case hr => first | (go_simp; done) | (go_simp; rfl)); intro gb236 hg w4 hbox hb; have n0_ := Aside0.mk (below_step (by repeat (first | (with_reducible first | exact HB.out | apply below_alloc | apply pw_below_drewN | apply below_drew1) | exact HB.out)) hb); have n1_ := Aside0.mk (hbox); have n2_ := Aside0.mk ((by rw [hg]; exact (below_size (by repeat (first | (with_reducible first | exact HB.out | apply below_alloc | apply pw_below_drewN | apply below_drew1) | exact HB.out))) : w.heap.size ≤ gb236)); have n3_ := Aside0.mk ((by rw [hg]; exact (below_size (by repeat (first | (with_reducible first | exact HB.out | apply below_alloc | apply pw_below_drewN | apply below_drew1) | exact HB.out))) : w.heap.size ≤ gb236)); clear HB; have HB := n0_; have BK236 := n1_; have GW236 := n2_; have GE236 := n3_; clear n0_ n1_ n2_ n3_; clear hb hbox hg) | ((with_reducible refine gate_dst (N := 4) rfl ?_); refine box_event ?hg (N := 4) ?hd (cs := #[.int .i64 0, .int .i64 0, .int .i64 0]) (t := 56) ?hr ?_; (case hd => rfl); (case hg => rfl); (case hr => first | (go_simp; done) | (go_simp; rfl)); intro gb237 hg w5 hbox hb; have n0_ := Aside0.mk (blk_below (g := gb236) (o := .cells #[.int .i64 a0_0, .int .i64 a0_1, .int .i64 a0_2] 56 (0, 0)) (by (with_reducible repeat (first | refine blk_drewN ?_ _ | refine blk_drew ?_ | refine blk_alloc ?_ _)); exact BK236.out) hb); have n1_ := Aside0.mk (below_step (by repeat (first | (with_reducible first | exact HB.out | apply below_alloc | apply pw_below_drewN | apply below_drew1 | refine below_set ?_ GE236.out) | exact HB.out)) hb); have n2_ := Aside0.mk (hbox); have n3_ := Aside0.mk ((by rw [hg]; exact (below_size (by repeat (first | (with_reducible first | exact HB.out | apply below_alloc | apply pw_below_drewN | apply below_drew1 | refine below_set ?_ GE236.out) | exact HB.out))) : w.heap.size ≤ gb237)); have n4_ := Aside0.mk ((by rw [hg]; exact (below_size (by repeat (first | (with_reducible first | exact HB.out | apply below_alloc | apply pw_below_drewN | apply below_drew1 | refine below_set ?_ GE236.out) | exact HB.out))) : w.heap.size ≤ gb237)); have n5_ := Aside0.mk ((by rw [hg]; exact Nat.ne_of_lt (blk_lt (g := gb236) (o := .cells #[.int .i64 a0_0, .int .i64 a0_1, .int .i64 a0_2] 56 (0, 0)) (by (with_reducible repeat (first | refine blk_drewN ?_ _ | refine blk_drew ?_ | refine blk_alloc ?_ _)); exact BK236.out)) : gb236 ≠ gb237)); have n6_ := Aside0.mk ((by rw [hg]; exact Nat.ne_of_gt (blk_lt (g := gb236) (o := .cells #[.int .i64 a0_0, .int .i64 a0_1, .int .i64 a0_2] 56 (0, 0)) (by (with_reducible repeat (first | refine blk_drewN ?_ _ | refine blk_drew ?_ | refine blk_alloc ?_ _)); exact BK236.out)) : gb237 ≠ gb236)); clear BK236; clear HB; have BK236 := n0_; have HB := n1_; have BK237 := n2_; have GW237 := n3_; have GE237 := n4_; have NB236_237 := n5_; have NB237_236 := n6_; clear n0_ n1_ n2_ n3_ n4_ n5_ n6_; clear hb hbox hg))
  (try simp only [Act.put, List.setIfInBounds_toArray, List.set_cons_zero, List.set_cons_succ])
  go_cut [12] (fun v12 wc => ∃ (kq : Nat) (x12_2 : Bool), v12 = .bool x12_2 ∧ Aside0 (trivetref04_Months.j0 kq a1 x12_2 a0_0 a0_1 a0_2 = some (r1, r2, r3, r4)) ∧ Aside0 (kq ≤ k) ∧ Aside0 (wc.heap[gb236]? = some (.cells #[.int .i64 a0_0, .int .i64 a0_1, .int .i64 a0_2] 56 (0, 0))) ∧ Aside0 (wc.heap[gb237]? = some (.cells #[.int .i64 0, .int .i64 0, .int .i64 0] 56 (0, 0))) ∧ Aside0 (Below w.heap.size w wc))
  case first =>
    have H := HC3.out
    clear HC3
    by_cases c6 : a1 < (-3600)
    · rw [if_pos c6] at H
      have c6b0 : decide (a1 < (-3600)) = true := decide_eq_true c6
      clear c6
      (first | rw [c6b0] | (simp only [i64_w, i32_w]; rw [c6b0]) | skip)
      have H' := Aside0.mk H
      clear H
      go_wp2
      go_meet
      case rel => exact ⟨_, (true), (by first | rfl | (simp; done) | (simp [*]; done)), H', ⟨by first | omega | exact Nat.le_refl _⟩, ⟨by (with_reducible repeat (first | refine blk_drewN ?_ _ | refine blk_drew ?_ | refine blk_alloc ?_ _)); exact BK236.out⟩, ⟨by (with_reducible repeat (first | refine blk_drewN ?_ _ | refine blk_drew ?_ | refine blk_alloc ?_ _)); exact BK237.out⟩, ⟨by repeat (first | (with_reducible first | exact HB.out | apply below_alloc | apply pw_below_drewN | apply below_drew1 | refine below_set ?_ GE236.out | refine below_set ?_ GE237.out) | exact HB.out)⟩⟩
    · rw [if_neg c6] at H
      have c6b0 : decide (a1 < (-3600)) = false := decide_eq_false c6
      clear c6
      (first | rw [c6b0] | (simp only [i64_w, i32_w]; rw [c6b0]) | skip)
      have H' := Aside0.mk H
      clear H
      go_wp2
      go_meet
      case rel => exact ⟨_, (decide (a1 > 3600)), (by first | rfl | (simp; done) | (simp [*]; done)), H', ⟨by first | omega | exact Nat.le_refl _⟩, ⟨by (with_reducible repeat (first | refine blk_drewN ?_ _ | refine blk_drew ?_ | refine blk_alloc ?_ _)); exact BK236.out⟩, ⟨by (with_reducible repeat (first | refine blk_drewN ?_ _ | refine blk_drew ?_ | refine blk_alloc ?_ _)); exact BK237.out⟩, ⟨by repeat (first | (with_reducible first | exact HB.out | apply below_alloc | apply pw_below_drewN | apply below_drew1 | refine below_set ?_ GE236.out | refine below_set ?_ GE237.out) | exact HB.out)⟩⟩
  case rest =>
    clear HC3
    try clear c2
    try clear p2
    try clear c6
    try clear c6b0
    obtain ⟨kq, x12_2, rfl, HA, HJ2, BK236, BK237, HB⟩ := hcut
    cases kq with
    | zero => exact absurd HA.out (by simp [trivetref04_Months.j0])
    | succ kj2 =>
      have H := HA.out
      clear HA
      simp only [trivetref04_Months.j0] at H
      by_cases c7 : x12_2 = true
      · subst c7
        have H1 : (some (0, 0, 0, false)) = some (r1, r2, r3, r4) := by rw [if_pos rfl] at H; exact H
        clear H
        have H := H1
        clear H1
        simp only [Option.some.injEq, Prod.mk.injEq] at H
        obtain ⟨rfl, rfl, rfl, rfl⟩ := H
        have hnb8 := NB237_236.out
        have hnc8 := NB236_237.out
        have hcz9 := blkAll3 BK237.out
        go_wp2
        refine bodyPost_ret (results_ct rfl _ _ gb237 56 #[.int .i64 0, .int .i64 0, .int .i64 0] (0, 0) _ rfl (by (with_reducible repeat (first | refine blk_drewN ?_ _ | refine blk_drew ?_ | refine blk_alloc ?_ _ | apply blkPut3_2 | apply blkPut3_1 | apply blkPut3_0)); exact BK237.out) Try.underlying56 rfl (by kernel_rfl)) rfl ?_
        exact ⟨by first | rfl | (simp [errW_none, errW_some] <;> rfl) | (simp [*, errW_none, errW_some] <;> rfl), by repeat (first | (with_reducible first | exact HB.out | apply below_alloc | apply pw_below_drewN | apply below_drew1 | refine below_set ?_ GE236.out | refine below_set ?_ GE237.out) | exact HB.out)⟩
      · replace c7 := Bool.eq_false_iff.mpr c7
        subst c7
        have H1 : (trivetref04_Months.l0 kj2 a1 a0_0 a0_1 a0_2) = some (r1, r2, r3, r4) := by rw [if_neg (show ¬ (false = true) by decide)] at H; exact H
        clear H
        have H := H1
        clear H1
        have H' := Aside0.mk H
        clear H
        go_wp2
        (try simp only [Act.put, List.setIfInBounds_toArray, List.set_cons_zero, List.set_cons_succ])
        go_loopg [1] kj2 (fun kq v1 w' => ∃ (x1_2 : Int) (x237000_2 : Int) (x237001_2 : Int), v1 = .int .i64 x1_2 ∧ Aside0 (trivetref04_Months.l0 kq x1_2 x237000_2 x237001_2 a0_2 = some (r1, r2, r3, r4)) ∧ Aside0 (kq ≤ kj2) ∧ Aside0 (w'.heap[gb236]? = some (.cells #[.int .i64 x237000_2, .int .i64 x237001_2, .int .i64 a0_2] 56 (0, 0))) ∧ Aside0 (w'.heap[gb237]? = some (.cells #[.int .i64 0, .int .i64 0, .int .i64 0] 56 (0, 0))) ∧ Aside0 (Below w.heap.size w w'))
        case atStart => exact ⟨(a1), (a0_0), (a0_1), (by first | rfl | (simp; done) | (simp [*]; done)), H', ⟨Nat.le_refl _⟩, ⟨by (with_reducible repeat (first | refine blk_drewN ?_ _ | refine blk_drew ?_ | refine blk_alloc ?_ _)); exact BK236.out⟩, ⟨by (with_reducible repeat (first | refine blk_drewN ?_ _ | refine blk_drew ?_ | refine blk_alloc ?_ _)); exact BK237.out⟩, ⟨by repeat (first | (with_reducible first | exact HB.out | apply below_alloc | apply pw_below_drewN | apply below_drew1 | refine below_set ?_ GE236.out | refine below_set ?_ GE237.out) | exact HB.out)⟩⟩
        case round =>
          clear H'
          try clear c2
          try clear p2
          try clear c6
          try clear c6b0
          try clear c7
          try clear c8
          try clear hcz9
          try clear p2
          obtain ⟨x1_2, x237000_2, x237001_2, rfl, HA, HK2, BK236, BK237, HB⟩ := hrel
          cases gk with
          | zero => exact absurd HA.out (by simp [trivetref04_Months.l0])
          | succ k2 =>
            have H := HA.out
            clear HA
            simp only [trivetref04_Months.l0] at H
            by_cases c10 : x1_2 > 0
            · rw [if_pos c10] at H
              have c10b0 : decide (0 < x1_2) = true := decide_eq_true c10
              clear c10
              by_cases c11 : (wrap64 (x237001_2 + 1)) > 12
              · rw [if_pos c11] at H
                have c11b0 : decide (12 < (wrap64 (x237001_2 + 1))) = true := decide_eq_true c11
                clear c11
                have H' := Aside0.mk H
                clear H
                have hnb12 := NB236_237.out
                have hnc12 := NB237_236.out
                have hcz13 := blkAll3 BK236.out
                go_wp2
                go_roundg k2
                case measure => have := HJ2.out; have := HK2.out; omega
                case rel => exact ⟨(wrap64 (x1_2 - 1)), (wrap64 (x237000_2 + 1)), (1), (by first | rfl | (simp; done) | (simp [*]; done)), H', ⟨by have := HJ2.out; have := HK2.out; omega⟩, ⟨by (with_reducible repeat (first | refine blk_drewN ?_ _ | refine blk_drew ?_ | refine blk_alloc ?_ _ | apply blkPut3_0 | apply blkPut3_1)); exact BK236.out⟩, ⟨by (with_reducible repeat (first | refine blk_drewN ?_ _ | refine blk_drew ?_ | refine blk_alloc ?_ _ | refine blk_far ?_ NB237_236.out _)); exact BK237.out⟩, ⟨by repeat (first | (with_reducible first | exact HB.out | apply below_alloc | apply pw_below_drewN | apply below_drew1 | refine below_set ?_ GE236.out | refine below_set ?_ GE237.out) | exact HB.out)⟩⟩
              · rw [if_neg c11] at H
                have c11b0 : decide (12 < (wrap64 (x237001_2 + 1))) = false := decide_eq_false c11
                clear c11
                have H' := Aside0.mk H
                clear H
                have hnb14 := NB236_237.out
                have hnc14 := NB237_236.out
                have hcz15 := blkAll3 BK236.out
                go_wp2
                go_roundg k2
                case measure => have := HJ2.out; have := HK2.out; omega
                case rel => exact ⟨(wrap64 (x1_2 - 1)), (x237000_2), (wrap64 (x237001_2 + 1)), (by first | rfl | (simp; done) | (simp [*]; done)), H', ⟨by have := HJ2.out; have := HK2.out; omega⟩, ⟨by (with_reducible repeat (first | refine blk_drewN ?_ _ | refine blk_drew ?_ | refine blk_alloc ?_ _)); refine blk_put (cs := #[.int .i64 x237000_2, .int .i64 x237001_2, .int .i64 a0_2]) ?_ 1 _ rfl; (with_reducible repeat (first | refine blk_drewN ?_ _ | refine blk_drew ?_ | refine blk_alloc ?_ _)); exact BK236.out⟩, ⟨by (with_reducible repeat (first | refine blk_drewN ?_ _ | refine blk_drew ?_ | refine blk_alloc ?_ _)); refine blk_far ?_ NB237_236.out _; (with_reducible repeat (first | refine blk_drewN ?_ _ | refine blk_drew ?_ | refine blk_alloc ?_ _)); exact BK237.out⟩, ⟨by repeat (first | (with_reducible first | exact HB.out | apply below_alloc | apply pw_below_drewN | apply below_drew1 | refine below_set ?_ GE236.out | refine below_set ?_ GE237.out) | exact HB.out)⟩⟩
            · rw [if_neg c10] at H
              have c10b0 : decide (0 < x1_2) = false := decide_eq_false c10
              clear c10
              have H' := Aside0.mk H
              clear H
              go_wp2
              (try simp only [Act.put, List.setIfInBounds_toArray, List.set_cons_zero, List.set_cons_succ])
              go_loopg [1] k2 (fun kq v1 w' => ∃ (x1_3 : Int) (x237000_3 : Int) (x237001_3 : Int), v1 = .int .i64 x1_3 ∧ Aside0 (trivetref04_Months.l1 kq x1_3 x237000_3 x237001_3 a0_2 = some (r1, r2, r3, r4)) ∧ Aside0 (kq ≤ k2) ∧ Aside0 (w'.heap[gb236]? = some (.cells #[.int .i64 x237000_3, .int .i64 x237001_3, .int .i64 a0_2] 56 (0, 0))) ∧ Aside0 (w'.heap[gb237]? = some (.cells #[.int .i64 0, .int .i64 0, .int .i64 0] 56 (0, 0))) ∧ Aside0 (Below w.heap.size w w'))
              case atStart => exact ⟨(x1_2), (x237000_2), (x237001_2), (by first | rfl | (simp; done) | (simp [*]; done)), H', ⟨Nat.le_refl _⟩, ⟨by (with_reducible repeat (first | refine blk_drewN ?_ _ | refine blk_drew ?_ | refine blk_alloc ?_ _)); exact BK236.out⟩, ⟨by (with_reducible repeat (first | refine blk_drewN ?_ _ | refine blk_drew ?_ | refine blk_alloc ?_ _)); exact BK237.out⟩, ⟨by repeat (first | (with_reducible first | exact HB.out | apply below_alloc | apply pw_below_drewN | apply below_drew1 | refine below_set ?_ GE236.out | refine below_set ?_ GE237.out) | exact HB.out)⟩⟩
              case round =>
                clear H'
                try clear c1
                try clear c2
                try clear p2
                try clear c6
                try clear c6b0
                try clear p6
                try clear c7
                try clear c8
                try clear c10
                try clear c10b0
                try clear c11
                try clear c11b0
                try clear c12
                try clear c14
                try clear hcz13
                try clear hcz15
                try clear hcz9
                try clear p2
                obtain ⟨x1_3, x237000_3, x237001_3, rfl, HA, HK3, BK236, BK237, HB⟩ := hrel
                cases gk with
                | zero => exact absurd HA.out (by simp [trivetref04_Months.l1])
                | succ k3 =>
                  have H := HA.out
                  clear HA
                  simp only [trivetref04_Months.l1] at H
                  by_cases c16 : x1_3 < 0
                  · rw [if_pos c16] at H
                    have c16b0 : decide (x1_3 < 0) = true := decide_eq_true c16
                    clear c16
                    by_cases c17 : (wrap64 (x237001_3 - 1)) < 1
                    · rw [if_pos c17] at H
                      have c17b0 : decide ((wrap64 (x237001_3 - 1)) < 1) = true := decide_eq_true c17
                      clear c17
                      have H' := Aside0.mk H
                      clear H
                      have hnb18 := NB236_237.out
                      have hnc18 := NB237_236.out
                      have hcz19 := blkAll3 BK236.out
                      go_wp2
                      go_roundg k3
                      case measure => have := HJ2.out; have := HK2.out; have := HK3.out; omega
                      case rel => exact ⟨(wrap64 (x1_3 + 1)), (wrap64 (x237000_3 - 1)), (12), (by first | rfl | (simp; done) | (simp [*]; done)), H', ⟨by have := HJ2.out; have := HK2.out; have := HK3.out; omega⟩, ⟨by (with_reducible repeat (first | refine blk_drewN ?_ _ | refine blk_drew ?_ | refine blk_alloc ?_ _ | apply blkPut3_0 | apply blkPut3_1)); exact BK236.out⟩, ⟨by (with_reducible repeat (first | refine blk_drewN ?_ _ | refine blk_drew ?_ | refine blk_alloc ?_ _ | refine blk_far ?_ NB237_236.out _)); exact BK237.out⟩, ⟨by repeat (first | (with_reducible first | exact HB.out | apply below_alloc | apply pw_below_drewN | apply below_drew1 | refine below_set ?_ GE236.out | refine below_set ?_ GE237.out) | exact HB.out)⟩⟩
                    · rw [if_neg c17] at H
                      have c17b0 : decide ((wrap64 (x237001_3 - 1)) < 1) = false := decide_eq_false c17
                      clear c17
                      have H' := Aside0.mk H
                      clear H
                      have hnb20 := NB236_237.out
                      have hnc20 := NB237_236.out
                      have hcz21 := blkAll3 BK236.out
                      go_wp2
                      go_roundg k3
                      case measure => have := HJ2.out; have := HK2.out; have := HK3.out; omega
                      case rel => exact ⟨(wrap64 (x1_3 + 1)), (x237000_3), (wrap64 (x237001_3 - 1)), (by first | rfl | (simp; done) | (simp [*]; done)), H', ⟨by have := HJ2.out; have := HK2.out; have := HK3.out; omega⟩, ⟨by (with_reducible repeat (first | refine blk_drewN ?_ _ | refine blk_drew ?_ | refine blk_alloc ?_ _)); refine blk_put (cs := #[.int .i64 x237000_3, .int .i64 x237001_3, .int .i64 a0_2]) ?_ 1 _ rfl; (with_reducible repeat (first | refine blk_drewN ?_ _ | refine blk_drew ?_ | refine blk_alloc ?_ _)); exact BK236.out⟩, ⟨by (with_reducible repeat (first | refine blk_drewN ?_ _ | refine blk_drew ?_ | refine blk_alloc ?_ _)); refine blk_far ?_ NB237_236.out _; (with_reducible repeat (first | refine blk_drewN ?_ _ | refine blk_drew ?_ | refine blk_alloc ?_ _)); exact BK237.out⟩, ⟨by repeat (first | (with_reducible first | exact HB.out | apply below_alloc | apply pw_below_drewN | apply below_drew1 | refine below_set ?_ GE236.out | refine below_set ?_ GE237.out) | exact HB.out)⟩⟩
                  · rw [if_neg c16] at H
                    have c16b0 : decide (x1_3 < 0) = false := decide_eq_false c16
                    clear c16
                    replace H := Option.bind_eq_some_iff.mp H
                    obtain ⟨t238, A220, H⟩ := H
                    replace H : (if t238 = 0 then (some (0, 0, 0, false)) else (if a0_2 > t238 then (some (x237000_3, x237001_3, t238, true)) else (some (x237000_3, x237001_3, a0_2, true)))) = some (r1, r2, r3, r4) := H
                    have A22 := Aside0.mk A220
                    clear A220
                    by_cases c23 : t238 = 0
                    · rw [if_pos c23] at H
                      have c23b0 : (t238 == 0) = true := beq_iff_eq.mpr c23
                      have c23b1 : (t238 != 0) = false := bne_eq_false_iff_eq.mpr c23
                      clear c23
                      simp only [Option.some.injEq, Prod.mk.injEq] at H
                      obtain ⟨rfl, rfl, rfl, rfl⟩ := H
                      have hnb24 := NB236_237.out
                      have hnc24 := NB237_236.out
                      have hcz25 := blkAll3 BK236.out
                      go_wp2_with (first | ((with_reducible refine gate_callee (f := 36) rfl ?_); refine goesL_ (some 50) rfl rfl Try.func36 (by kernel_rfl) rfl #[.int .i64 x237000_3, .int .i64 x237001_3] rfl (by (try simp only [List.map_toArray, List.map_cons, List.map_nil]); first | done | rfl | (simp only [List.length_drop, List.length_take]; rfl)) ?_; (with_reducible refine (trivetref04_Days_s.calls x237000_3 x237001_3 t238 _ A22.out).mono ?_); rintro e w' ⟨rfl, ⟨nd, rfl⟩⟩; refine ⟨_, rfl, ?_⟩; (try (rw [drewN_self wr]; generalize hq_ : World.drewN wr _ = wr; have n0_ : Aside0 (wr.heap[gb236]? = some (.cells #[.int .i64 x237000_3, .int .i64 x237001_3, .int .i64 a0_2] 56 (0, 0))) := ⟨by rw [← hq_]; exact (by (with_reducible repeat (first | refine blk_drewN ?_ _ | refine blk_drew ?_ | refine blk_alloc ?_ _)); exact BK236.out)⟩; have n1_ : Aside0 (wr.heap[gb237]? = some (.cells #[.int .i64 0, .int .i64 0, .int .i64 0] 56 (0, 0))) := ⟨by rw [← hq_]; exact (by (with_reducible repeat (first | refine blk_drewN ?_ _ | refine blk_drew ?_ | refine blk_alloc ?_ _)); exact BK237.out)⟩; have n2_ : Aside0 (Below w.heap.size w wr) := ⟨by rw [← hq_]; exact (by repeat (first | (with_reducible first | exact HB.out | apply below_alloc | apply pw_below_drewN | apply below_drew1 | refine below_set ?_ GE236.out | refine below_set ?_ GE237.out) | exact HB.out))⟩; clear BK236 BK237 HB hq_; have BK236 := n0_; have BK237 := n1_; have HB := n2_; clear n0_ n1_ n2_)); have hcz26 := blkAll3 BK237.out))
                      refine bodyPost_ret (results_ct rfl _ _ gb237 56 #[.int .i64 0, .int .i64 0, .int .i64 0] (0, 0) _ rfl (by (with_reducible repeat (first | refine blk_drewN ?_ _ | refine blk_drew ?_ | refine blk_alloc ?_ _ | apply blkPut3_2 | apply blkPut3_1 | apply blkPut3_0)); exact BK237.out) Try.underlying56 rfl (by kernel_rfl)) rfl ?_
                      exact ⟨by first | rfl | (simp [errW_none, errW_some] <;> rfl) | (simp [*, errW_none, errW_some] <;> rfl), by repeat (first | (with_reducible first | exact HB.out | apply below_alloc | apply pw_below_drewN | apply below_drew1 | refine below_set ?_ GE236.out | refine below_set ?_ GE237.out) | exact HB.out)⟩
                    · rw [if_neg c23] at H
                      have c23b0 : (t238 == 0) = false := beq_eq_false_iff_ne.mpr c23
                      have c23b1 : (t238 != 0) = true := bne_iff_ne.mpr c23
                      by_cases c27 : a0_2 > t238
                      · rw [if_pos c27] at H
                        have c27b0 : decide (t238 < a0_2) = true := decide_eq_true c27
                        clear c27
                        simp only [Option.some.injEq, Prod.mk.injEq] at H
                        obtain ⟨rfl, rfl, rfl, rfl⟩ := H
                        have hnb28 := NB236_237.out
                        have hnc28 := NB237_236.out
                        have hcz29 := blkAll3 BK236.out
                        go_wp2_with (first | ((with_reducible refine gate_callee (f := 36) rfl ?_); refine goesL_ (some 50) rfl rfl Try.func36 (by kernel_rfl) rfl #[.int .i64 x237000_3, .int .i64 x237001_3] rfl (by (try simp only [List.map_toArray, List.map_cons, List.map_nil]); first | done | rfl | (simp only [List.length_drop, List.length_take]; rfl)) ?_; (with_reducible refine (trivetref04_Days_s.calls x237000_3 x237001_3 t238 _ A22.out).mono ?_); rintro e w' ⟨rfl, ⟨nd, rfl⟩⟩; refine ⟨_, rfl, ?_⟩; (try (rw [drewN_self wr]; generalize hq_ : World.drewN wr _ = wr; have n0_ : Aside0 (wr.heap[gb236]? = some (.cells #[.int .i64 x237000_3, .int .i64 x237001_3, .int .i64 a0_2] 56 (0, 0))) := ⟨by rw [← hq_]; exact (by (with_reducible repeat (first | refine blk_drewN ?_ _ | refine blk_drew ?_ | refine blk_alloc ?_ _)); exact BK236.out)⟩; have n1_ : Aside0 (wr.heap[gb237]? = some (.cells #[.int .i64 0, .int .i64 0, .int .i64 0] 56 (0, 0))) := ⟨by rw [← hq_]; exact (by (with_reducible repeat (first | refine blk_drewN ?_ _ | refine blk_drew ?_ | refine blk_alloc ?_ _)); exact BK237.out)⟩; have n2_ : Aside0 (Below w.heap.size w wr) := ⟨by rw [← hq_]; exact (by repeat (first | (with_reducible first | exact HB.out | apply below_alloc | apply pw_below_drewN | apply below_drew1 | refine below_set ?_ GE236.out | refine below_set ?_ GE237.out) | exact HB.out))⟩; clear BK236 BK237 HB hq_; have BK236 := n0_; have BK237 := n1_; have HB := n2_; clear n0_ n1_ n2_)); have hcz30 := blkAll3 BK236.out; have hcz31 := blkAll3 BK237.out))
                        refine bodyPost_ret (results_ct rfl _ _ gb237 56 #[.int .i64 x237000_3, .int .i64 x237001_3, .int .i64 t238] (0, 0) _ rfl (by (with_reducible repeat (first | refine blk_drewN ?_ _ | refine blk_drew ?_ | refine blk_alloc ?_ _ | apply blkPut3_2 | apply blkPut3_1 | apply blkPut3_0 | refine blk_far ?_ NB237_236.out _)); exact BK237.out) Try.underlying56 rfl (by kernel_rfl)) rfl ?_
                        exact ⟨by first | rfl | (simp [errW_none, errW_some] <;> rfl) | (simp [*, errW_none, errW_some] <;> rfl), by repeat (first | (with_reducible first | exact HB.out | apply below_alloc | apply pw_below_drewN | apply below_drew1 | refine below_set ?_ GE236.out | refine below_set ?_ GE237.out) | exact HB.out)⟩
                      · rw [if_neg c27] at H
                        have c27b0 : decide (t238 < a0_2) = false := decide_eq_false c27
                        clear c27
                        simp only [Option.some.injEq, Prod.mk.injEq] at H
                        obtain ⟨rfl, rfl, rfl, rfl⟩ := H
                        have hnb32 := NB236_237.out
                        have hnc32 := NB237_236.out
                        have hcz33 := blkAll3 BK236.out
                        go_wp2_with (first | ((with_reducible refine gate_callee (f := 36) rfl ?_); refine goesL_ (some 50) rfl rfl Try.func36 (by kernel_rfl) rfl #[.int .i64 x237000_3, .int .i64 x237001_3] rfl (by (try simp only [List.map_toArray, List.map_cons, List.map_nil]); first | done | rfl | (simp only [List.length_drop, List.length_take]; rfl)) ?_; (with_reducible refine (trivetref04_Days_s.calls x237000_3 x237001_3 t238 _ A22.out).mono ?_); rintro e w' ⟨rfl, ⟨nd, rfl⟩⟩; refine ⟨_, rfl, ?_⟩; (try (rw [drewN_self wr]; generalize hq_ : World.drewN wr _ = wr; have n0_ : Aside0 (wr.heap[gb236]? = some (.cells #[.int .i64 x237000_3, .int .i64 x237001_3, .int .i64 a0_2] 56 (0, 0))) := ⟨by rw [← hq_]; exact (by (with_reducible repeat (first | refine blk_drewN ?_ _ | refine blk_drew ?_ | refine blk_alloc ?_ _)); exact BK236.out)⟩; have n1_ : Aside0 (wr.heap[gb237]? = some (.cells #[.int .i64 0, .int .i64 0, .int .i64 0] 56 (0, 0))) := ⟨by rw [← hq_]; exact (by (with_reducible repeat (first | refine blk_drewN ?_ _ | refine blk_drew ?_ | refine blk_alloc ?_ _)); exact BK237.out)⟩; have n2_ : Aside0 (Below w.heap.size w wr) := ⟨by rw [← hq_]; exact (by repeat (first | (with_reducible first | exact HB.out | apply below_alloc | apply pw_below_drewN | apply below_drew1 | refine below_set ?_ GE236.out | refine below_set ?_ GE237.out) | exact HB.out))⟩; clear BK236 BK237 HB hq_; have BK236 := n0_; have BK237 := n1_; have HB := n2_; clear n0_ n1_ n2_)); have hcz34 := blkAll3 BK236.out; have hcz35 := blkAll3 BK237.out))
                        refine bodyPost_ret (results_ct rfl _ _ gb237 56 #[.int .i64 x237000_3, .int .i64 x237001_3, .int .i64 a0_2] (0, 0) _ rfl (by (with_reducible repeat (first | refine blk_drewN ?_ _ | refine blk_drew ?_ | refine blk_alloc ?_ _ | apply blkPut3_2 | apply blkPut3_1 | apply blkPut3_0)); exact BK237.out) Try.underlying56 rfl (by kernel_rfl)) rfl ?_
                        exact ⟨by first | rfl | (simp [errW_none, errW_some] <;> rfl) | (simp [*, errW_none, errW_some] <;> rfl), by repeat (first | (with_reducible first | exact HB.out | apply below_alloc | apply pw_below_drewN | apply below_drew1 | refine below_set ?_ GE236.out | refine below_set ?_ GE237.out) | exact HB.out)⟩

/-! ### trivetref04_Months_s: function 23, told plainly -/
theorem trivetref04_Months.end_ (t d : Int) (hd : 1 ≤ d ∧ d ≤ 31) (k : Nat) (hk : 1 ≤ k) : trivetref04_Months.l1 k 0 (t / 12) (t % 12 + 1) d =
    some (if M.inYears t then (t / 12, t % 12 + 1, M.cut d (M.len t), true) else (0, 0, 0, false)) := by
  obtain ⟨k, rfl⟩ : ∃ m, k = m + 1 := ⟨k - 1, by omega⟩
  have hi := M.inYears_iff t
  simp only [trivetref04_Months.l1]
  rw [if_neg (by decide)]
  unfold trivetref04_Days_s.f
  rw [Option.bind_some]
  by_cases hz : M.days (t / 12) (t % 12 + 1) = 0
  · rw [if_pos hz, if_neg (fun h => hi.mp h hz)]
  · rw [if_neg hz, if_pos (hi.mpr hz)]
    unfold M.cut M.len
    by_cases hg : d > M.days (t / 12) (t % 12 + 1)
    · rw [if_pos hg, if_neg (by omega)]
    · rw [if_neg hg, if_pos (by omega)]
theorem trivetref04_Months.up (d : Int) (hd : 1 ≤ d ∧ d ≤ 31) : ∀ (j : Nat) (t : Int), 0 ≤ t → t + j ≤ 100000 → ∀ k, j + 2 ≤ k →
    trivetref04_Months.l0 k j (t / 12) (t % 12 + 1) d = some (if M.inYears (t + j) then ((t + j) / 12, (t + j) % 12 + 1, M.cut d (M.len (t + j)), true) else (0, 0, 0, false)) := by
  intro j
  induction j with
  | zero =>
    intro t h0 h1 k hk
    obtain ⟨k, rfl⟩ : ∃ m, k = m + 1 := ⟨k - 1, by omega⟩
    simp only [trivetref04_Months.l0]
    rw [if_neg (by decide), show t + ((0 : Nat) : Int) = t by omega]
    exact trivetref04_Months.end_ t d hd k (by omega)
  | succ j ih =>
    intro t h0 h1 k hk
    obtain ⟨k, rfl⟩ : ∃ m, k = m + 1 := ⟨k - 1, by omega⟩
    have i := ih (t + 1) (by omega) (by omega) k (by omega)
    rw [show t + 1 + (j : Int) = t + ((j + 1 : Nat) : Int) by omega] at i
    simp only [trivetref04_Months.l0]
    rw [if_pos (by omega), M.w64_id (n := t % 12 + 1 + 1) (by omega) (by omega), M.w64_id (n := ((j + 1 : Nat) : Int) - 1) (by omega) (by omega), M.w64_id (n := t / 12 + 1) (by omega) (by omega), show ((j + 1 : Nat) : Int) - 1 = j by omega]
    by_cases h : t % 12 + 1 + 1 > 12
    · rw [if_pos h]
      rw [show (t + 1) / 12 = t / 12 + 1 by omega, show (t + 1) % 12 + 1 = 1 by omega] at i
      exact i
    · rw [if_neg h]
      rw [show (t + 1) / 12 = t / 12 by omega, show (t + 1) % 12 = t % 12 + 1 by omega] at i
      exact i
theorem trivetref04_Months.down (d : Int) (hd : 1 ≤ d ∧ d ≤ 31) : ∀ (j : Nat) (t : Int), 0 ≤ t - j → t ≤ 100000 → ∀ k, j + 2 ≤ k →
    trivetref04_Months.l1 k (-(j : Int)) (t / 12) (t % 12 + 1) d = some (if M.inYears (t - j) then ((t - j) / 12, (t - j) % 12 + 1, M.cut d (M.len (t - j)), true) else (0, 0, 0, false)) := by
  intro j
  induction j with
  | zero =>
    intro t h0 h1 k hk
    rw [show t - ((0 : Nat) : Int) = t by omega, show -((0 : Nat) : Int) = 0 by omega]
    exact trivetref04_Months.end_ t d hd k (by omega)
  | succ j ih =>
    intro t h0 h1 k hk
    obtain ⟨k, rfl⟩ : ∃ m, k = m + 1 := ⟨k - 1, by omega⟩
    have i := ih (t - 1) (by omega) (by omega) k (by omega)
    rw [show t - 1 - (j : Int) = t - ((j + 1 : Nat) : Int) by omega] at i
    simp only [trivetref04_Months.l1]
    rw [if_pos (by omega), M.w64_id (n := t % 12 + 1 - 1) (by omega) (by omega), M.w64_id (n := -((j + 1 : Nat) : Int) + 1) (by omega) (by omega), M.w64_id (n := t / 12 - 1) (by omega) (by omega), show -((j + 1 : Nat) : Int) + 1 = -(j : Int) by omega]
    by_cases h : t % 12 + 1 - 1 < 1
    · rw [if_pos h]
      rw [show (t - 1) / 12 = t / 12 - 1 by omega, show (t - 1) % 12 + 1 = 12 by omega] at i
      exact i
    · rw [if_neg h]
      rw [show (t - 1) / 12 = t / 12 by omega, show (t - 1) % 12 = t % 12 - 1 by omega, show t % 12 - 1 + 1 = t % 12 + 1 - 1 by omega] at i
      exact i
theorem trivetref04_Months.tells (y m d n : Int) (h : 1900 ≤ y ∧ y ≤ 2199 ∧ 1 ≤ m ∧ m ≤ 12 ∧ 1 ≤ d ∧ d ≤ 31) (k : Nat) (hk : 3700 ≤ k) : trivetref04_Months.f k y m d n =
    some (if -3600 ≤ n ∧ n ≤ 3600 ∧ M.inYears (M.mt y m + n) then ((M.mt y m + n) / 12, (M.mt y m + n) % 12 + 1, M.cut d (M.len (M.mt y m + n)), true) else (0, 0, 0, false)) := by
  obtain ⟨k, rfl⟩ : ∃ m, k = m + 1 := ⟨k - 1, by omega⟩
  have ey : M.mt y m / 12 = y := by unfold M.mt; omega
  have em : M.mt y m % 12 + 1 = m := by unfold M.mt; omega
  have et : 22800 ≤ M.mt y m ∧ M.mt y m ≤ 26399 := by unfold M.mt; omega
  unfold trivetref04_Months.f
  by_cases h1 : n < -3600
  · rw [if_pos h1, if_neg (fun hh => by have := hh.1; omega)]
    simp [trivetref04_Months.j0]
  rw [if_neg h1]
  by_cases h2 : n > 3600
  · rw [decide_eq_true h2, if_neg (fun hh => by have := hh.2.1; omega)]
    simp [trivetref04_Months.j0]
  rw [decide_eq_false h2]
  simp only [trivetref04_Months.j0]
  rw [if_neg (by decide)]
  have conj : (-3600 ≤ n ∧ n ≤ 3600 ∧ M.inYears (M.mt y m + n)) = M.inYears (M.mt y m + n) := by apply propext; exact ⟨fun hh => hh.2.2, fun hh => ⟨by omega, by omega, hh⟩⟩
  simp only [conj]
  by_cases h0 : 0 ≤ n
  · have u := trivetref04_Months.up d (by omega) n.toNat (M.mt y m) (by omega) (by omega) k (by omega)
    rw [ey, em, Int.toNat_of_nonneg h0] at u
    exact u
  · obtain ⟨k, rfl⟩ : ∃ m, k = m + 1 := ⟨k - 1, by omega⟩
    simp only [trivetref04_Months.l0]
    rw [if_neg (by omega)]
    have u := trivetref04_Months.down d (by omega) (-n).toNat (M.mt y m) (by omega) (by omega) k (by omega)
    rw [ey, em, Int.toNat_of_nonneg (show 0 ≤ -n by omega), show M.mt y m - -n = M.mt y m + n by omega, Int.neg_neg] at u
    exact u
def trivetref04_Months_s.f (y m d n : Int) : Option (Int × Int × Int × Bool) :=
  if 1900 ≤ y ∧ y ≤ 2199 ∧ 1 ≤ m ∧ m ≤ 12 ∧ 1 ≤ d ∧ d ≤ 31 then some (if -3600 ≤ n ∧ n ≤ 3600 ∧ M.inYears (M.mt y m + n) then ((M.mt y m + n) / 12, (M.mt y m + n) % 12 + 1, M.cut d (M.len (M.mt y m + n)), true) else (0, 0, 0, false)) else none
theorem trivetref04_Months_s.calls (a0_0 : Int) (a0_1 : Int) (a0_2 : Int) (a1 : Int) (r1 : Int) (r2 : Int) (r3 : Int) (r4 : Bool) (w : World) (h : trivetref04_Months_s.f a0_0 a0_1 a0_2 a1 = some (r1, r2, r3, r4)) :
    Calls Try.prog 23 #[.agg #[.int .i64 a0_0, .int .i64 a0_1, .int .i64 a0_2], .int .i64 a1] w fun e w' => e = .returned (.tuple #[.agg #[.int .i64 r1, .int .i64 r2, .int .i64 r3], .bool r4]) ∧ Below w.heap.size w w' := by
  unfold trivetref04_Months_s.f at h
  split at h
  · rename_i hr
    exact trivetref04_Months.calls (3700) a0_0 a0_1 a0_2 a1 r1 r2 r3 r4 w ((trivetref04_Months.tells a0_0 a0_1 a0_2 a1 hr (3700) (Nat.le_refl _)).trans h)
  · cases h
theorem trivetref04_Months_s.yes {y m d n : Int} (h : M.date y m d) (hn : -3600 ≤ n ∧ n ≤ 3600 ∧ M.inYears (M.mt y m + n)) : trivetref04_Months_s.f y m d n = some ((M.mt y m + n) / 12, (M.mt y m + n) % 12 + 1, M.cut d (M.len (M.mt y m + n)), true) := by have a := M.date_in h; unfold trivetref04_Months_s.f; rw [if_pos (show 1900 ≤ y ∧ y ≤ 2199 ∧ 1 ≤ m ∧ m ≤ 12 ∧ 1 ≤ d ∧ d ≤ 31 by omega), if_pos hn]
theorem trivetref04_Months_s.no {y m d n : Int} (h : M.date y m d) (hn : ¬ (-3600 ≤ n ∧ n ≤ 3600 ∧ M.inYears (M.mt y m + n))) : trivetref04_Months_s.f y m d n = some (0, 0, 0, false) := by have a := M.date_in h; unfold trivetref04_Months_s.f; rw [if_pos (show 1900 ≤ y ∧ y ≤ 2199 ∧ 1 ≤ m ∧ m ≤ 12 ∧ 1 ≤ d ∧ d ≤ 31 by omega), if_neg hn]

end Go.Proofs.Ytinpdbimbnhpoaa.P
