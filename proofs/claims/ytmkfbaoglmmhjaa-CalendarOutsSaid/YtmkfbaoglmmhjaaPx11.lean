-- Written by a program of this session out of the translation of the seat: Lean functions and the proofs that the Go functions come to them.
import Derived.Test.YtmkfbaoglmmhjaaPx0
import Derived.Test.YtmkfbaoglmmhjaaPx5
namespace Go.Proofs.Ytmkfbaoglmmhjaa.P
open Go.RowKit Go.Proofs.YtmkfbaoglmmhjaaW.PrintWords Go.Proofs.YtmkfbaoglmmhjaaW.PrintLast Go.Proofs.YtmkfbaoglmmhjaaW.PrintMore
attribute [local go_sem] max2_int min2_int max_two min_two max_three min_three max_four min_four   -- for this text's walks alone
set_option linter.unusedVariables false
set_option linter.unusedSimpArgs false

/-! ### trivetref04_Months: function 13 -/
mutual
def trivetref04_Months.j0 : Nat → Int → Bool → Int → Int → Int → Option (Int × Int × Int × Bool)
 | 0, _, _, _, _, _ => none
 | k + 1, x1, x12, x530000, x530001, x530002 => if x12 = true then (some (0, 0, 0, false)) else (trivetref04_Months.l0 k x1 x530000 x530001 x530002)
def trivetref04_Months.l0 : Nat → Int → Int → Int → Int → Option (Int × Int × Int × Bool)
 | 0, _, _, _, _ => none
 | k + 1, x1, x530000, x530001, x530002 => if x1 > 0 then (if (wrap64 (x530001 + 1)) > 12 then (trivetref04_Months.l0 k (wrap64 (x1 - 1)) (wrap64 (x530000 + 1)) 1 x530002) else (trivetref04_Months.l0 k (wrap64 (x1 - 1)) x530000 (wrap64 (x530001 + 1)) x530002)) else (trivetref04_Months.l1 k x1 x530000 x530001 x530002)
def trivetref04_Months.l1 : Nat → Int → Int → Int → Int → Option (Int × Int × Int × Bool)
 | 0, _, _, _, _ => none
 | k + 1, x1, x530000, x530001, x530002 => if x1 < 0 then (if (wrap64 (x530001 - 1)) < 1 then (trivetref04_Months.l1 k (wrap64 (x1 + 1)) (wrap64 (x530000 - 1)) 12 x530002) else (trivetref04_Months.l1 k (wrap64 (x1 + 1)) x530000 (wrap64 (x530001 - 1)) x530002)) else ((trivetref04_Days_s.f x530000 x530001).bind fun t531 => (if t531 = 0 then (some (0, 0, 0, false)) else (if x530002 > t531 then (some (x530000, x530001, t531, true)) else (some (x530000, x530001, x530002, true)))))
end
def trivetref04_Months.f (k : Nat) (a0_0 : Int) (a0_1 : Int) (a0_2 : Int) (a1 : Int) : Option (Int × Int × Int × Bool) := if a1 < (-3600) then (trivetref04_Months.j0 k a1 true a0_0 a0_1 a0_2) else (trivetref04_Months.j0 k a1 (decide (a1 > 3600)) a0_0 a0_1 a0_2)
theorem trivetref04_Months.mono_l : ∀ k, (∀ y0 y1 y2 y3 y4, LeO (trivetref04_Months.j0 k y0 y1 y2 y3 y4) (trivetref04_Months.j0 (k + 1) y0 y1 y2 y3 y4)) ∧ (∀ y0 y1 y2 y3, LeO (trivetref04_Months.l0 k y0 y1 y2 y3) (trivetref04_Months.l0 (k + 1) y0 y1 y2 y3)) ∧ (∀ y0 y1 y2 y3, LeO (trivetref04_Months.l1 k y0 y1 y2 y3) (trivetref04_Months.l1 (k + 1) y0 y1 y2 y3))
 | 0 => ⟨fun _ _ _ _ _ r h => by simp [trivetref04_Months.j0] at h, fun _ _ _ _ r h => by simp [trivetref04_Months.l0] at h, fun _ _ _ _ r h => by simp [trivetref04_Months.l1] at h⟩
 | k + 1 => by
  obtain ⟨ih0, ih1, ih2⟩ := trivetref04_Months.mono_l k
  refine ⟨?_, ?_, ?_⟩
  ·intro y0 y1 y2 y3 y4
   unfold trivetref04_Months.j0
   repeat' first
   | (with_reducible exact ih0 _ _ _ _ _)
   | (with_reducible exact ih1 _ _ _ _)
   | (with_reducible exact ih2 _ _ _ _)
   | (with_reducible exact LeO.refl _)
   | (with_reducible exact LeO.none _)
   | (with_reducible refine LeO.ite ?_ ?_)
   | (with_reducible refine LeO.bind ?_ (fun _ => ?_))
   | exact ih0 _ _ _ _ _
   | exact ih1 _ _ _ _
   | exact ih2 _ _ _ _
   | exact LeO.none _
   | refine LeO.ite ?_ ?_
   | refine LeO.bind ?_ (fun _ => ?_)
  ·intro y0 y1 y2 y3
   unfold trivetref04_Months.l0
   repeat' first
   | (with_reducible exact ih0 _ _ _ _ _)
   | (with_reducible exact ih1 _ _ _ _)
   | (with_reducible exact ih2 _ _ _ _)
   | (with_reducible exact LeO.refl _)
   | (with_reducible exact LeO.none _)
   | (with_reducible refine LeO.ite ?_ ?_)
   | (with_reducible refine LeO.bind ?_ (fun _ => ?_))
   | exact ih0 _ _ _ _ _
   | exact ih1 _ _ _ _
   | exact ih2 _ _ _ _
   | exact LeO.none _
   | refine LeO.ite ?_ ?_
   | refine LeO.bind ?_ (fun _ => ?_)
  ·intro y0 y1 y2 y3
   unfold trivetref04_Months.l1
   repeat' first
   | (with_reducible exact ih0 _ _ _ _ _)
   | (with_reducible exact ih1 _ _ _ _)
   | (with_reducible exact ih2 _ _ _ _)
   | (with_reducible exact LeO.refl _)
   | (with_reducible exact LeO.none _)
   | (with_reducible refine LeO.ite ?_ ?_)
   | (with_reducible refine LeO.bind ?_ (fun _ => ?_))
   | exact ih0 _ _ _ _ _
   | exact ih1 _ _ _ _
   | exact ih2 _ _ _ _
   | exact LeO.none _
   | refine LeO.ite ?_ ?_
   | refine LeO.bind ?_ (fun _ => ?_)
theorem trivetref04_Months.mono : ∀ a0 a1 a2 a3 k, LeO (trivetref04_Months.f k a0 a1 a2 a3) (trivetref04_Months.f (k + 1) a0 a1 a2 a3) := by
 intro a0 a1 a2 a3 k
 obtain ⟨ih0, ih1, ih2⟩ := trivetref04_Months.mono_l k
 unfold trivetref04_Months.f
 repeat' first
   | (with_reducible exact ih0 _ _ _ _ _)
   | (with_reducible exact ih1 _ _ _ _)
   | (with_reducible exact ih2 _ _ _ _)
   | (with_reducible exact LeO.refl _)
   | (with_reducible exact LeO.none _)
   | (with_reducible refine LeO.ite ?_ ?_)
   | (with_reducible refine LeO.bind ?_ (fun _ => ?_))
   | exact ih0 _ _ _ _ _
   | exact ih1 _ _ _ _
   | exact ih2 _ _ _ _
   | exact LeO.none _
   | refine LeO.ite ?_ ?_
   | refine LeO.bind ?_ (fun _ => ?_)
set_option maxHeartbeats 8000000 in
set_option maxRecDepth 100000 in
theorem trivetref04_Months.calls (k : Nat) (a0_0 : Int) (a0_1 : Int) (a0_2 : Int) (a1 : Int) (r1 : Int) (r2 : Int) (r3 : Int) (r4 : Bool) (w : World) (h : trivetref04_Months.f k a0_0 a0_1 a0_2 a1 = some (r1, r2, r3, r4)) :
  Calls Try.prog 13 #[.agg #[.int .i64 a0_0, .int .i64 a0_1, .int .i64 a0_2], .int .i64 a1] w fun e w' => e = .returned (.tuple #[.agg #[.int .i64 r1, .int .i64 r2, .int .i64 r3], .bool r4]) ∧ Below w.heap.size w w' := by
 have hu30 := Try.underlying30
 have HB := ka (Below.refl w.heap.size w)
 have H : (if a1 < (-3600) then (trivetref04_Months.j0 k a1 true a0_0 a0_1 a0_2) else (trivetref04_Months.j0 k a1 (decide (a1 > 3600)) a0_0 a0_1 a0_2)) = some (r1, r2, r3, r4) := h
 clear h
 have HC3 := ka H
 clear H
 go_enter Try.func13, Try.ntmps13
 go_upto_region 1 with (first | ((with_reducible refine gate_dst (N := 2) rfl ?_); refine kx (N := 2) (cs := #[.int .i64 a0_0, .int .i64 a0_1, .int .i64 a0_2]) (t := 30) ?_; intro gb529 hg w4 hbox hb; have n0_ := ka (below_step (kw HB.out) hb); have n1_ := ka (hbox); have n2_ := ka ((by rw [hg]; exact (below_size (kw HB.out)) : w.heap.size ≤ gb529)); have n3_ := n2_; clear HB; have HB := n0_; have BK529 := n1_; have GW529 := n2_; have GE529 := n3_; clear n0_ n1_ n2_ n3_; clear hb hbox hg) | ((with_reducible refine gate_dst (N := 4) rfl ?_); refine kx (N := 4) (cs := #[.int .i64 0, .int .i64 0, .int .i64 0]) (t := 30) ?_; intro gb530 hg w5 hbox hb; have n0_ := ka (blk_below (g := gb529) (kz BK529.out) hb); have n1_ := ka (below_step (kw HB.out) hb); have n2_ := ka (hbox); have n3_ := ka ((by rw [hg]; exact (below_size (kw HB.out)) : w.heap.size ≤ gb530)); have n4_ := n3_; have n5_ := ka ((by rw [hg]; exact Nat.ne_of_lt (blk_lt (g := gb529) (kz BK529.out)) : gb529 ≠ gb530)); have n6_ := ka n5_.out.symm; clear BK529; clear HB; have BK529 := n0_; have HB := n1_; have BK530 := n2_; have GW530 := n3_; have GE530 := n4_; have NB529_530 := n5_; have NB530_529 := n6_; clear n0_ n1_ n2_ n3_ n4_ n5_ n6_; clear hb hbox hg))
 (try simp only [Act.put, List.setIfInBounds_toArray, List.set_cons_zero, List.set_cons_succ])
 go_cut [12] (fun v12 wc => ∃ (kq : Nat) (x12_2 : Bool), v12 = .bool x12_2 ∧ Aside0 (trivetref04_Months.j0 kq a1 x12_2 a0_0 a0_1 a0_2 = some (r1, r2, r3, r4)) ∧ Aside0 (kq ≤ k) ∧ Aside0 (wc.heap[gb529]? = some (.cells #[.int .i64 a0_0, .int .i64 a0_1, .int .i64 a0_2] 30 (0, 0))) ∧ Aside0 (wc.heap[gb530]? = some (.cells #[.int .i64 0, .int .i64 0, .int .i64 0] 30 (0, 0))) ∧ Aside0 (Below w.heap.size w wc))
 case first =>
  have H := HC3.out
  clear HC3
  by_cases c6 : a1 < (-3600)
  ·rw [if_pos c6] at H
   have c6b0 : decide (a1 < (-3600)) = true := decide_eq_true c6
   clear c6
   (first | rw [c6b0] | (simp only [i64_w, i32_w]; rw [c6b0]) | skip)
   have H' := ka H
   clear H
   go_wp2
   go_meet
   case rel => exact ⟨_, (true), (by first | rfl | (simp; done) | (simp [*]; done)), H', ⟨by first | omega | exact Nat.le_refl _⟩, ⟨by (with_reducible repeat (first | apply kb1 | apply kb2 | apply kb3)); exact BK529.out⟩, ⟨by (with_reducible repeat (first | apply kb1 | apply kb2 | apply kb3)); exact BK530.out⟩, ⟨by repeat (first | (with_reducible first | exact HB.out | apply kc1 | apply kc2 | apply kc3 | refine kc4 ?_ GE529.out | refine kc4 ?_ GE530.out) | exact HB.out)⟩⟩
  ·rw [if_neg c6] at H
   have c6b0 : decide (a1 < (-3600)) = false := decide_eq_false c6
   clear c6
   (first | rw [c6b0] | (simp only [i64_w, i32_w]; rw [c6b0]) | skip)
   have H' := ka H
   clear H
   go_wp2
   go_meet
   case rel => exact ⟨_, (decide (a1 > 3600)), (by first | rfl | (simp; done) | (simp [*]; done)), H', ⟨by first | omega | exact Nat.le_refl _⟩, ⟨by (with_reducible repeat (first | apply kb1 | apply kb2 | apply kb3)); exact BK529.out⟩, ⟨by (with_reducible repeat (first | apply kb1 | apply kb2 | apply kb3)); exact BK530.out⟩, ⟨by repeat (first | (with_reducible first | exact HB.out | apply kc1 | apply kc2 | apply kc3 | refine kc4 ?_ GE529.out | refine kc4 ?_ GE530.out) | exact HB.out)⟩⟩
 case rest =>
  clear HC3
  try clear c1
  try clear p2
  try clear c6
  try clear c6b0
  obtain ⟨kq, x12_2, rfl, HA, HJ2, BK529, BK530, HB⟩ := hcut
  cases kq with
  | zero => exact absurd HA.out (by simp [trivetref04_Months.j0])
  | succ kj2 =>
   have H := HA.out
   clear HA
   simp only [trivetref04_Months.j0] at H
   by_cases c7 : x12_2 = true
   ·subst c7
    have H1 : (some (0, 0, 0, false)) = some (r1, r2, r3, r4) := by rw [if_pos rfl] at H; exact H
    clear H
    have H := H1
    clear H1
    simp only [Option.some.injEq, Prod.mk.injEq] at H
    obtain ⟨rfl, rfl, rfl, rfl⟩ := H
    have hnb8 := NB530_529.out
    have hnc8 := NB529_530.out
    have hcz9 := blkAll3 BK530.out
    go_wp2
    refine bodyPost_ret (results_ct rfl _ _ gb530 30 #[.int .i64 0, .int .i64 0, .int .i64 0] (0, 0) _ rfl (by (with_reducible repeat (first | apply kb1 | apply kb2 | apply kb3 | apply blkPut3_2 | apply blkPut3_1 | apply blkPut3_0)); exact BK530.out) Try.underlying30 rfl (by kernel_rfl)) rfl ?_
    exact ⟨by first | rfl | (simp [errW_none, errW_some] <;> rfl) | (simp [*, errW_none, errW_some] <;> rfl), by repeat (first | (with_reducible first | exact HB.out | apply kc1 | apply kc2 | apply kc3 | refine kc4 ?_ GE529.out | refine kc4 ?_ GE530.out) | exact HB.out)⟩
   ·replace c7 := Bool.eq_false_iff.mpr c7
    subst c7
    have H1 : (trivetref04_Months.l0 kj2 a1 a0_0 a0_1 a0_2) = some (r1, r2, r3, r4) := by rw [if_neg (show ¬ (false = true) by decide)] at H; exact H
    clear H
    have H := H1
    clear H1
    have H' := ka H
    clear H
    go_wp2
    (try simp only [Act.put, List.setIfInBounds_toArray, List.set_cons_zero, List.set_cons_succ])
    go_loopg [1] kj2 (fun kq v1 w' => ∃ (x1_2 : Int) (x530000_2 : Int) (x530001_2 : Int), v1 = .int .i64 x1_2 ∧ Aside0 (trivetref04_Months.l0 kq x1_2 x530000_2 x530001_2 a0_2 = some (r1, r2, r3, r4)) ∧ Aside0 (kq ≤ kj2) ∧ Aside0 (w'.heap[gb529]? = some (.cells #[.int .i64 x530000_2, .int .i64 x530001_2, .int .i64 a0_2] 30 (0, 0))) ∧ Aside0 (w'.heap[gb530]? = some (.cells #[.int .i64 0, .int .i64 0, .int .i64 0] 30 (0, 0))) ∧ Aside0 (Below w.heap.size w w'))
    case atStart => exact ⟨(a1), (a0_0), (a0_1), (by first | rfl | (simp; done) | (simp [*]; done)), H', ⟨Nat.le_refl _⟩, ⟨by (with_reducible repeat (first | apply kb1 | apply kb2 | apply kb3)); exact BK529.out⟩, ⟨by (with_reducible repeat (first | apply kb1 | apply kb2 | apply kb3)); exact BK530.out⟩, ⟨by repeat (first | (with_reducible first | exact HB.out | apply kc1 | apply kc2 | apply kc3 | refine kc4 ?_ GE529.out | refine kc4 ?_ GE530.out) | exact HB.out)⟩⟩
    case round =>
     clear H'
     try clear c1
     try clear p2
     try clear c6
     try clear c6b0
     try clear c7
     try clear c8
     try clear hcz9
     try clear p2
     obtain ⟨x1_2, x530000_2, x530001_2, rfl, HA, HK2, BK529, BK530, HB⟩ := hrel
     cases gk with
     | zero => exact absurd HA.out (by simp [trivetref04_Months.l0])
     | succ k2 =>
      have H := HA.out
      clear HA
      simp only [trivetref04_Months.l0] at H
      by_cases c10 : x1_2 > 0
      ·rw [if_pos c10] at H
       have c10b0 : decide (0 < x1_2) = true := decide_eq_true c10
       clear c10
       by_cases c11 : (wrap64 (x530001_2 + 1)) > 12
       ·rw [if_pos c11] at H
        have c11b0 : decide (12 < (wrap64 (x530001_2 + 1))) = true := decide_eq_true c11
        clear c11
        have H' := ka H
        clear H
        have hnb12 := NB529_530.out
        have hnc12 := NB530_529.out
        have hcz13 := blkAll3 BK529.out
        go_wp2
        go_roundg k2
        case measure => have := HJ2.out; have := HK2.out; omega
        case rel => exact ⟨(wrap64 (x1_2 - 1)), (wrap64 (x530000_2 + 1)), (1), (by first | rfl | (simp; done) | (simp [*]; done)), H', ⟨by have := HJ2.out; have := HK2.out; omega⟩, ⟨by (with_reducible repeat (first | apply kb1 | apply kb2 | apply kb3 | apply blkPut3_0 | apply blkPut3_1)); exact BK529.out⟩, ⟨by (with_reducible repeat (first | apply kb1 | apply kb2 | apply kb3 | refine kb4 ?_ NB530_529.out _)); exact BK530.out⟩, ⟨by repeat (first | (with_reducible first | exact HB.out | apply kc1 | apply kc2 | apply kc3 | refine kc4 ?_ GE529.out | refine kc4 ?_ GE530.out) | exact HB.out)⟩⟩
       ·rw [if_neg c11] at H
        have c11b0 : decide (12 < (wrap64 (x530001_2 + 1))) = false := decide_eq_false c11
        clear c11
        have H' := ka H
        clear H
        have hnb14 := NB529_530.out
        have hnc14 := NB530_529.out
        have hcz15 := blkAll3 BK529.out
        go_wp2
        go_roundg k2
        case measure => have := HJ2.out; have := HK2.out; omega
        case rel => exact ⟨(wrap64 (x1_2 - 1)), (x530000_2), (wrap64 (x530001_2 + 1)), (by first | rfl | (simp; done) | (simp [*]; done)), H', ⟨by have := HJ2.out; have := HK2.out; omega⟩, ⟨by (with_reducible repeat (first | apply kb1 | apply kb2 | apply kb3)); refine blk_put (cs := #[.int .i64 x530000_2, .int .i64 x530001_2, .int .i64 a0_2]) ?_ 1 _ rfl; (with_reducible repeat (first | apply kb1 | apply kb2 | apply kb3)); exact BK529.out⟩, ⟨by (with_reducible repeat (first | apply kb1 | apply kb2 | apply kb3)); refine kb4 ?_ NB530_529.out _; (with_reducible repeat (first | apply kb1 | apply kb2 | apply kb3)); exact BK530.out⟩, ⟨by repeat (first | (with_reducible first | exact HB.out | apply kc1 | apply kc2 | apply kc3 | refine kc4 ?_ GE529.out | refine kc4 ?_ GE530.out) | exact HB.out)⟩⟩
      ·rw [if_neg c10] at H
       have c10b0 : decide (0 < x1_2) = false := decide_eq_false c10
       clear c10
       have H' := ka H
       clear H
       go_wp2
       (try simp only [Act.put, List.setIfInBounds_toArray, List.set_cons_zero, List.set_cons_succ])
       go_loopg [1] k2 (fun kq v1 w' => ∃ (x1_3 : Int) (x530000_3 : Int) (x530001_3 : Int), v1 = .int .i64 x1_3 ∧ Aside0 (trivetref04_Months.l1 kq x1_3 x530000_3 x530001_3 a0_2 = some (r1, r2, r3, r4)) ∧ Aside0 (kq ≤ k2) ∧ Aside0 (w'.heap[gb529]? = some (.cells #[.int .i64 x530000_3, .int .i64 x530001_3, .int .i64 a0_2] 30 (0, 0))) ∧ Aside0 (w'.heap[gb530]? = some (.cells #[.int .i64 0, .int .i64 0, .int .i64 0] 30 (0, 0))) ∧ Aside0 (Below w.heap.size w w'))
       case atStart => exact ⟨(x1_2), (x530000_2), (x530001_2), (by first | rfl | (simp; done) | (simp [*]; done)), H', ⟨Nat.le_refl _⟩, ⟨by (with_reducible repeat (first | apply kb1 | apply kb2 | apply kb3)); exact BK529.out⟩, ⟨by (with_reducible repeat (first | apply kb1 | apply kb2 | apply kb3)); exact BK530.out⟩, ⟨by repeat (first | (with_reducible first | exact HB.out | apply kc1 | apply kc2 | apply kc3 | refine kc4 ?_ GE529.out | refine kc4 ?_ GE530.out) | exact HB.out)⟩⟩
       case round =>
        clear H'
        try clear c1
        try clear p2
        try clear c6
        try clear c6b0
        try clear p6
        try clear c7
        try clear c8
        try clear c10
        try clear c10b0
        try clear c11
        try clear c11b0
        try clear c12
        try clear c13
        try clear c14
        try clear hcz13
        try clear hcz15
        try clear hcz9
        try clear p2
        obtain ⟨x1_3, x530000_3, x530001_3, rfl, HA, HK3, BK529, BK530, HB⟩ := hrel
        cases gk with
        | zero => exact absurd HA.out (by simp [trivetref04_Months.l1])
        | succ k3 =>
         have H := HA.out
         clear HA
         simp only [trivetref04_Months.l1] at H
         by_cases c16 : x1_3 < 0
         ·rw [if_pos c16] at H
          have c16b0 : decide (x1_3 < 0) = true := decide_eq_true c16
          clear c16
          by_cases c17 : (wrap64 (x530001_3 - 1)) < 1
          ·rw [if_pos c17] at H
           have c17b0 : decide ((wrap64 (x530001_3 - 1)) < 1) = true := decide_eq_true c17
           clear c17
           have H' := ka H
           clear H
           have hnb18 := NB529_530.out
           have hnc18 := NB530_529.out
           have hcz19 := blkAll3 BK529.out
           go_wp2
           go_roundg k3
           case measure => have := HJ2.out; have := HK2.out; have := HK3.out; omega
           case rel => exact ⟨(wrap64 (x1_3 + 1)), (wrap64 (x530000_3 - 1)), (12), (by first | rfl | (simp; done) | (simp [*]; done)), H', ⟨by have := HJ2.out; have := HK2.out; have := HK3.out; omega⟩, ⟨by (with_reducible repeat (first | apply kb1 | apply kb2 | apply kb3 | apply blkPut3_0 | apply blkPut3_1)); exact BK529.out⟩, ⟨by (with_reducible repeat (first | apply kb1 | apply kb2 | apply kb3 | refine kb4 ?_ NB530_529.out _)); exact BK530.out⟩, ⟨by repeat (first | (with_reducible first | exact HB.out | apply kc1 | apply kc2 | apply kc3 | refine kc4 ?_ GE529.out | refine kc4 ?_ GE530.out) | exact HB.out)⟩⟩
          ·rw [if_neg c17] at H
           have c17b0 : decide ((wrap64 (x530001_3 - 1)) < 1) = false := decide_eq_false c17
           clear c17
           have H' := ka H
           clear H
           have hnb20 := NB529_530.out
           have hnc20 := NB530_529.out
           have hcz21 := blkAll3 BK529.out
           go_wp2
           go_roundg k3
           case measure => have := HJ2.out; have := HK2.out; have := HK3.out; omega
           case rel => exact ⟨(wrap64 (x1_3 + 1)), (x530000_3), (wrap64 (x530001_3 - 1)), (by first | rfl | (simp; done) | (simp [*]; done)), H', ⟨by have := HJ2.out; have := HK2.out; have := HK3.out; omega⟩, ⟨by (with_reducible repeat (first | apply kb1 | apply kb2 | apply kb3)); refine blk_put (cs := #[.int .i64 x530000_3, .int .i64 x530001_3, .int .i64 a0_2]) ?_ 1 _ rfl; (with_reducible repeat (first | apply kb1 | apply kb2 | apply kb3)); exact BK529.out⟩, ⟨by (with_reducible repeat (first | apply kb1 | apply kb2 | apply kb3)); refine kb4 ?_ NB530_529.out _; (with_reducible repeat (first | apply kb1 | apply kb2 | apply kb3)); exact BK530.out⟩, ⟨by repeat (first | (with_reducible first | exact HB.out | apply kc1 | apply kc2 | apply kc3 | refine kc4 ?_ GE529.out | refine kc4 ?_ GE530.out) | exact HB.out)⟩⟩
         ·rw [if_neg c16] at H
          have c16b0 : decide (x1_3 < 0) = false := decide_eq_false c16
          clear c16
          replace H := Option.bind_eq_some_iff.mp H
          obtain ⟨t531, A220, H⟩ := H
          replace H : (if t531 = 0 then (some (0, 0, 0, false)) else (if a0_2 > t531 then (some (x530000_3, x530001_3, t531, true)) else (some (x530000_3, x530001_3, a0_2, true)))) = some (r1, r2, r3, r4) := H
          have A22 := ka A220
          clear A220
          by_cases c23 : t531 = 0
          ·rw [if_pos c23] at H
           have c23b0 : (t531 == 0) = true := beq_iff_eq.mpr c23
           have c23b1 : (t531 != 0) = false := bne_eq_false_iff_eq.mpr c23
           clear c23
           simp only [Option.some.injEq, Prod.mk.injEq] at H
           obtain ⟨rfl, rfl, rfl, rfl⟩ := H
           have hnb24 := NB529_530.out
           have hnc24 := NB530_529.out
           have hcz25 := blkAll3 BK529.out
           go_wp2_with (first | ((with_reducible refine gate_callee (f := 24) rfl ?_); refine kg (some 50) rfl rfl Try.func24 (by kernel_rfl) rfl #[.int .i64 x530000_3, .int .i64 x530001_3] rfl ?_; (with_reducible refine (trivetref04_Days_s.calls x530000_3 x530001_3 t531 _ A22.out).mono ?_); rintro e w' ⟨rfl, ⟨nd, rfl⟩⟩; refine ⟨_, rfl, ?_⟩; (try (rw [drewN_self wr]; generalize hq_ : World.drewN wr _ = wr; replace BK529 : Aside0 (wr.heap[gb529]? = some (.cells #[.int .i64 x530000_3, .int .i64 x530001_3, .int .i64 a0_2] 30 (0, 0))) := ⟨by rw [← hq_]; exact (kz BK529.out)⟩; replace BK530 : Aside0 (wr.heap[gb530]? = some (.cells #[.int .i64 0, .int .i64 0, .int .i64 0] 30 (0, 0))) := ⟨by rw [← hq_]; exact (kz BK530.out)⟩; replace HB : Aside0 (Below w.heap.size w wr) := ⟨by rw [← hq_]; exact (kw HB.out)⟩; clear hq_)); have hcz26 := blkAll3 BK530.out))
           refine bodyPost_ret (results_ct rfl _ _ gb530 30 #[.int .i64 0, .int .i64 0, .int .i64 0] (0, 0) _ rfl (by (with_reducible repeat (first | apply kb1 | apply kb2 | apply kb3 | apply blkPut3_2 | apply blkPut3_1 | apply blkPut3_0)); exact BK530.out) Try.underlying30 rfl (by kernel_rfl)) rfl ?_
           exact ⟨by first | rfl | (simp [errW_none, errW_some] <;> rfl) | (simp [*, errW_none, errW_some] <;> rfl), by repeat (first | (with_reducible first | exact HB.out | apply kc1 | apply kc2 | apply kc3 | refine kc4 ?_ GE529.out | refine kc4 ?_ GE530.out) | exact HB.out)⟩
          ·rw [if_neg c23] at H
           have c23b0 : (t531 == 0) = false := beq_eq_false_iff_ne.mpr c23
           have c23b1 : (t531 != 0) = true := bne_iff_ne.mpr c23
           by_cases c27 : a0_2 > t531
           ·rw [if_pos c27] at H
            have c27b0 : decide (t531 < a0_2) = true := decide_eq_true c27
            clear c27
            simp only [Option.some.injEq, Prod.mk.injEq] at H
            obtain ⟨rfl, rfl, rfl, rfl⟩ := H
            have hnb28 := NB529_530.out
            have hnc28 := NB530_529.out
            have hcz29 := blkAll3 BK529.out
            go_wp2_with (first | ((with_reducible refine gate_callee (f := 24) rfl ?_); refine kg (some 50) rfl rfl Try.func24 (by kernel_rfl) rfl #[.int .i64 x530000_3, .int .i64 x530001_3] rfl ?_; (with_reducible refine (trivetref04_Days_s.calls x530000_3 x530001_3 t531 _ A22.out).mono ?_); rintro e w' ⟨rfl, ⟨nd, rfl⟩⟩; refine ⟨_, rfl, ?_⟩; (try (rw [drewN_self wr]; generalize hq_ : World.drewN wr _ = wr; replace BK529 : Aside0 (wr.heap[gb529]? = some (.cells #[.int .i64 x530000_3, .int .i64 x530001_3, .int .i64 a0_2] 30 (0, 0))) := ⟨by rw [← hq_]; exact (kz BK529.out)⟩; replace BK530 : Aside0 (wr.heap[gb530]? = some (.cells #[.int .i64 0, .int .i64 0, .int .i64 0] 30 (0, 0))) := ⟨by rw [← hq_]; exact (kz BK530.out)⟩; replace HB : Aside0 (Below w.heap.size w wr) := ⟨by rw [← hq_]; exact (kw HB.out)⟩; clear hq_)); have hcz30 := blkAll3 BK529.out; have hcz31 := blkAll3 BK530.out))
            refine bodyPost_ret (results_ct rfl _ _ gb530 30 #[.int .i64 x530000_3, .int .i64 x530001_3, .int .i64 t531] (0, 0) _ rfl (by (with_reducible repeat (first | apply kb1 | apply kb2 | apply kb3 | apply blkPut3_2 | apply blkPut3_1 | apply blkPut3_0 | refine kb4 ?_ NB530_529.out _)); exact BK530.out) Try.underlying30 rfl (by kernel_rfl)) rfl ?_
            exact ⟨by first | rfl | (simp [errW_none, errW_some] <;> rfl) | (simp [*, errW_none, errW_some] <;> rfl), by repeat (first | (with_reducible first | exact HB.out | apply kc1 | apply kc2 | apply kc3 | refine kc4 ?_ GE529.out | refine kc4 ?_ GE530.out) | exact HB.out)⟩
           ·rw [if_neg c27] at H
            have c27b0 : decide (t531 < a0_2) = false := decide_eq_false c27
            clear c27
            simp only [Option.some.injEq, Prod.mk.injEq] at H
            obtain ⟨rfl, rfl, rfl, rfl⟩ := H
            have hnb32 := NB529_530.out
            have hnc32 := NB530_529.out
            have hcz33 := blkAll3 BK529.out
            go_wp2_with (first | ((with_reducible refine gate_callee (f := 24) rfl ?_); refine kg (some 50) rfl rfl Try.func24 (by kernel_rfl) rfl #[.int .i64 x530000_3, .int .i64 x530001_3] rfl ?_; (with_reducible refine (trivetref04_Days_s.calls x530000_3 x530001_3 t531 _ A22.out).mono ?_); rintro e w' ⟨rfl, ⟨nd, rfl⟩⟩; refine ⟨_, rfl, ?_⟩; (try (rw [drewN_self wr]; generalize hq_ : World.drewN wr _ = wr; replace BK529 : Aside0 (wr.heap[gb529]? = some (.cells #[.int .i64 x530000_3, .int .i64 x530001_3, .int .i64 a0_2] 30 (0, 0))) := ⟨by rw [← hq_]; exact (kz BK529.out)⟩; replace BK530 : Aside0 (wr.heap[gb530]? = some (.cells #[.int .i64 0, .int .i64 0, .int .i64 0] 30 (0, 0))) := ⟨by rw [← hq_]; exact (kz BK530.out)⟩; replace HB : Aside0 (Below w.heap.size w wr) := ⟨by rw [← hq_]; exact (kw HB.out)⟩; clear hq_)); have hcz34 := blkAll3 BK529.out; have hcz35 := blkAll3 BK530.out))
            refine bodyPost_ret (results_ct rfl _ _ gb530 30 #[.int .i64 x530000_3, .int .i64 x530001_3, .int .i64 a0_2] (0, 0) _ rfl (by (with_reducible repeat (first | apply kb1 | apply kb2 | apply kb3 | apply blkPut3_2 | apply blkPut3_1 | apply blkPut3_0)); exact BK530.out) Try.underlying30 rfl (by kernel_rfl)) rfl ?_
            exact ⟨by first | rfl | (simp [errW_none, errW_some] <;> rfl) | (simp [*, errW_none, errW_some] <;> rfl), by repeat (first | (with_reducible first | exact HB.out | apply kc1 | apply kc2 | apply kc3 | refine kc4 ?_ GE529.out | refine kc4 ?_ GE530.out) | exact HB.out)⟩

/-! ### trivetref04_Months_s: function 13, told plainly -/
theorem trivetref04_Months.end_ (t d : Int) (hd : 1 ≤ d ∧ d ≤ 31) (k : Nat) (hk : 1 ≤ k) : trivetref04_Months.l1 k 0 (t / 12) (t % 12 + 1) d =
  some (if M.inYears t then (t / 12, t % 12 + 1, M.cut d (M.len t), true) else (0, 0, 0, false)) := by
 obtain ⟨k, rfl⟩ : ∃ m, k = m + 1 := ⟨k - 1, by omega⟩
 have hi := M.inYears_iff t
 simp only [trivetref04_Months.l1]
 rw [if_neg (by decide)]
 unfold trivetref04_Days_s.f
 rw [Option.bind_some]
 by_cases hz : M.days (t / 12) (t % 12 + 1) = 0
 ·rw [if_pos hz, if_neg (fun h => hi.mp h hz)]
 ·rw [if_neg hz, if_pos (hi.mpr hz)]
  unfold M.cut M.len
  by_cases hg : d > M.days (t / 12) (t % 12 + 1)
  ·rw [if_pos hg, if_neg (by omega)]
  ·rw [if_neg hg, if_pos (by omega)]
theorem trivetref04_Months.up (d : Int) (hd : 1 ≤ d ∧ d ≤ 31) : ∀ (j : Nat) (t : Int), 0 ≤ t → t + j ≤ 100000 → ∀ k, j + 2 ≤ k →
  trivetref04_Months.l0 k j (t / 12) (t % 12 + 1) d = some (if M.inYears (t + j) then ((t + j) / 12, (t + j) % 12 + 1, M.cut d (M.len (t + j)), true) else (0, 0, 0, false)) := by
 intro j
 induction j with
 | zero =>
  intro t h0 h1 k hk
  obtain ⟨k, rfl⟩ : ∃ m, k = m + 1 := ⟨k - 1, by omega⟩
  simp only [trivetref04_Months.l0]
  rw [if_neg (by decide), show t + ((0 : Nat) : Int) = t by omega]
  exact trivetref04_Months.end_ t d hd k (by omega)
 | succ j ih =>
  intro t h0 h1 k hk
  obtain ⟨k, rfl⟩ : ∃ m, k = m + 1 := ⟨k - 1, by omega⟩
  have i := ih (t + 1) (by omega) (by omega) k (by omega)
  rw [show t + 1 + (j : Int) = t + ((j + 1 : Nat) : Int) by omega] at i
  simp only [trivetref04_Months.l0]
  rw [if_pos (by omega), M.w64_id (n := t % 12 + 1 + 1) (by omega) (by omega), M.w64_id (n := ((j + 1 : Nat) : Int) - 1) (by omega) (by omega), M.w64_id (n := t / 12 + 1) (by omega) (by omega), show ((j + 1 : Nat) : Int) - 1 = j by omega]
  by_cases h : t % 12 + 1 + 1 > 12
  ·rw [if_pos h]
   rw [show (t + 1) / 12 = t / 12 + 1 by omega, show (t + 1) % 12 + 1 = 1 by omega] at i
   exact i
  ·rw [if_neg h]
   rw [show (t + 1) / 12 = t / 12 by omega, show (t + 1) % 12 = t % 12 + 1 by omega] at i
   exact i
theorem trivetref04_Months.down (d : Int) (hd : 1 ≤ d ∧ d ≤ 31) : ∀ (j : Nat) (t : Int), 0 ≤ t - j → t ≤ 100000 → ∀ k, j + 2 ≤ k →
  trivetref04_Months.l1 k (-(j : Int)) (t / 12) (t % 12 + 1) d = some (if M.inYears (t - j) then ((t - j) / 12, (t - j) % 12 + 1, M.cut d (M.len (t - j)), true) else (0, 0, 0, false)) := by
 intro j
 induction j with
 | zero =>
  intro t h0 h1 k hk
  rw [show t - ((0 : Nat) : Int) = t by omega, show -((0 : Nat) : Int) = 0 by omega]
  exact trivetref04_Months.end_ t d hd k (by omega)
 | succ j ih =>
  intro t h0 h1 k hk
  obtain ⟨k, rfl⟩ : ∃ m, k = m + 1 := ⟨k - 1, by omega⟩
  have i := ih (t - 1) (by omega) (by omega) k (by omega)
  rw [show t - 1 - (j : Int) = t - ((j + 1 : Nat) : Int) by omega] at i
  simp only [trivetref04_Months.l1]
  rw [if_pos (by omega), M.w64_id (n := t % 12 + 1 - 1) (by omega) (by omega), M.w64_id (n := -((j + 1 : Nat) : Int) + 1) (by omega) (by omega), M.w64_id (n := t / 12 - 1) (by omega) (by omega), show -((j + 1 : Nat) : Int) + 1 = -(j : Int) by omega]
  by_cases h : t % 12 + 1 - 1 < 1
  ·rw [if_pos h]
   rw [show (t - 1) / 12 = t / 12 - 1 by omega, show (t - 1) % 12 + 1 = 12 by omega] at i
   exact i
  ·rw [if_neg h]
   rw [show (t - 1) / 12 = t / 12 by omega, show (t - 1) % 12 = t % 12 - 1 by omega, show t % 12 - 1 + 1 = t % 12 + 1 - 1 by omega] at i
   exact i
theorem trivetref04_Months.tells (y m d n : Int) (h : 1900 ≤ y ∧ y ≤ 2199 ∧ 1 ≤ m ∧ m ≤ 12 ∧ 1 ≤ d ∧ d ≤ 31) (k : Nat) (hk : 3700 ≤ k) : trivetref04_Months.f k y m d n =
  some (if -3600 ≤ n ∧ n ≤ 3600 ∧ M.inYears (M.mt y m + n) then ((M.mt y m + n) / 12, (M.mt y m + n) % 12 + 1, M.cut d (M.len (M.mt y m + n)), true) else (0, 0, 0, false)) := by
 obtain ⟨k, rfl⟩ : ∃ m, k = m + 1 := ⟨k - 1, by omega⟩
 have ey : M.mt y m / 12 = y := by unfold M.mt; omega
 have em : M.mt y m % 12 + 1 = m := by unfold M.mt; omega
 have et : 22800 ≤ M.mt y m ∧ M.mt y m ≤ 26399 := by unfold M.mt; omega
 unfold trivetref04_Months.f
 by_cases h1 : n < -3600
 ·rw [if_pos h1, if_neg (fun hh => by have := hh.1; omega)]
  simp [trivetref04_Months.j0]
 rw [if_neg h1]
 by_cases h2 : n > 3600
 ·rw [decide_eq_true h2, if_neg (fun hh => by have := hh.2.1; omega)]
  simp [trivetref04_Months.j0]
 rw [decide_eq_false h2]
 simp only [trivetref04_Months.j0]
 rw [if_neg (by decide)]
 have conj : (-3600 ≤ n ∧ n ≤ 3600 ∧ M.inYears (M.mt y m + n)) = M.inYears (M.mt y m + n) := by apply propext; exact ⟨fun hh => hh.2.2, fun hh => ⟨by omega, by omega, hh⟩⟩
 simp only [conj]
 by_cases h0 : 0 ≤ n
 ·have u := trivetref04_Months.up d (by omega) n.toNat (M.mt y m) (by omega) (by omega) k (by omega)
  rw [ey, em, Int.toNat_of_nonneg h0] at u
  exact u
 ·obtain ⟨k, rfl⟩ : ∃ m, k = m + 1 := ⟨k - 1, by omega⟩
  simp only [trivetref04_Months.l0]
  rw [if_neg (by omega)]
  have u := trivetref04_Months.down d (by omega) (-n).toNat (M.mt y m) (by omega) (by omega) k (by omega)
  rw [ey, em, Int.toNat_of_nonneg (show 0 ≤ -n by omega), show M.mt y m - -n = M.mt y m + n by omega, Int.neg_neg] at u
  exact u
def trivetref04_Months_s.f (y m d n : Int) : Option (Int × Int × Int × Bool) :=
 if 1900 ≤ y ∧ y ≤ 2199 ∧ 1 ≤ m ∧ m ≤ 12 ∧ 1 ≤ d ∧ d ≤ 31 then some (if -3600 ≤ n ∧ n ≤ 3600 ∧ M.inYears (M.mt y m + n) then ((M.mt y m + n) / 12, (M.mt y m + n) % 12 + 1, M.cut d (M.len (M.mt y m + n)), true) else (0, 0, 0, false)) else none
theorem trivetref04_Months_s.calls (a0_0 : Int) (a0_1 : Int) (a0_2 : Int) (a1 : Int) (r1 : Int) (r2 : Int) (r3 : Int) (r4 : Bool) (w : World) (h : trivetref04_Months_s.f a0_0 a0_1 a0_2 a1 = some (r1, r2, r3, r4)) :
  Calls Try.prog 13 #[.agg #[.int .i64 a0_0, .int .i64 a0_1, .int .i64 a0_2], .int .i64 a1] w fun e w' => e = .returned (.tuple #[.agg #[.int .i64 r1, .int .i64 r2, .int .i64 r3], .bool r4]) ∧ Below w.heap.size w w' := by
 unfold trivetref04_Months_s.f at h
 split at h
 ·rename_i hr
  exact trivetref04_Months.calls (3700) a0_0 a0_1 a0_2 a1 r1 r2 r3 r4 w ((trivetref04_Months.tells a0_0 a0_1 a0_2 a1 hr (3700) (Nat.le_refl _)).trans h)
 ·cases h
theorem trivetref04_Months_s.yes {y m d n : Int} (h : M.date y m d) (hn : -3600 ≤ n ∧ n ≤ 3600 ∧ M.inYears (M.mt y m + n)) : trivetref04_Months_s.f y m d n = some ((M.mt y m + n) / 12, (M.mt y m + n) % 12 + 1, M.cut d (M.len (M.mt y m + n)), true) := by have a := M.date_in h; unfold trivetref04_Months_s.f; rw [if_pos (show 1900 ≤ y ∧ y ≤ 2199 ∧ 1 ≤ m ∧ m ≤ 12 ∧ 1 ≤ d ∧ d ≤ 31 by omega), if_pos hn]
theorem trivetref04_Months_s.no {y m d n : Int} (h : M.date y m d) (hn : ¬ (-3600 ≤ n ∧ n ≤ 3600 ∧ M.inYears (M.mt y m + n))) : trivetref04_Months_s.f y m d n = some (0, 0, 0, false) := by have a := M.date_in h; unfold trivetref04_Months_s.f; rw [if_pos (show 1900 ≤ y ∧ y ≤ 2199 ∧ 1 ≤ m ∧ m ≤ 12 ∧ 1 ≤ d ∧ d ≤ 31 by omega), if_neg hn]

end Go.Proofs.Ytmkfbaoglmmhjaa.P
