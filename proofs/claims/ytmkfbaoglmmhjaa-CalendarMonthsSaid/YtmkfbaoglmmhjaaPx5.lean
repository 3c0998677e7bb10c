-- Written by a program of this session out of the translation of the seat: Lean functions and the proofs that the Go functions come to them.
import Derived.Test.YtmkfbaoglmmhjaaPx0
import Derived.Test.YtmkfbaoglmmhjaaPx1
import Derived.Test.YtmkfbaoglmmhjaaPx3
namespace Go.Proofs.Ytmkfbaoglmmhjaa.P
open Go.RowKit Go.Proofs.YtmkfbaoglmmhjaaW.PrintWords Go.Proofs.YtmkfbaoglmmhjaaW.PrintLast Go.Proofs.YtmkfbaoglmmhjaaW.PrintMore
attribute [local go_sem] max2_int min2_int max_two min_two max_three min_three max_four min_four   -- for this text's walks alone
set_option linter.unusedVariables false
set_option linter.unusedSimpArgs false

/-! ### trivetref14_May: function 12 -/
def trivetref14_May.l0 : Nat → List (S48) → Int → Option (Bool)
 | 0, _, _ => none
 | k + 1, x0, x3 => if x3 < (x0.length : Int) then (if 0 ≤ x3 then (if ((rd_T48 x0 x3).f0) < 1 then (some false) else (if ((rd_T48 x0 x3).f0) > 12 then (some false) else (if ((rd_T48 x0 x3).f1) < 1 then (some false) else (if ((rd_T48 x0 x3).f1) > 31 then (some false) else (if ((rd_T48 x0 x3).f2) < 1 then (some false) else (if ((rd_T48 x0 x3).f2) > 10000000000000 then (some false) else (trivetref14_May.l0 k x0 (wrap64 (x3 + 1))))))))) else (none)) else (some true)
def trivetref14_May.f (k : Nat) (l0 : List (S48)) : Option (Bool) := if (l0.length : Int) > 32 then (some false) else (trivetref14_May.l0 k l0 0)
theorem trivetref14_May.mono_l : ∀ k, (∀ y0 y1, LeO (trivetref14_May.l0 k y0 y1) (trivetref14_May.l0 (k + 1) y0 y1))
 | 0 => fun _ _ r h => by simp [trivetref14_May.l0] at h
 | k + 1 => by
  have ih0 := trivetref14_May.mono_l k
  ·intro y0 y1
   unfold trivetref14_May.l0
   repeat' first
   | (with_reducible exact ih0 _ _)
   | (with_reducible exact LeO.refl _)
   | (with_reducible exact LeO.none _)
   | (with_reducible refine LeO.ite ?_ ?_)
   | (with_reducible refine LeO.bind ?_ (fun _ => ?_))
   | exact ih0 _ _
   | exact LeO.none _
   | refine LeO.ite ?_ ?_
   | refine LeO.bind ?_ (fun _ => ?_)
theorem trivetref14_May.mono : ∀ a0 k, LeO (trivetref14_May.f k a0) (trivetref14_May.f (k + 1) a0) := by
 intro a0 k
 have ih0 := trivetref14_May.mono_l k
 unfold trivetref14_May.f
 repeat' first
   | (with_reducible exact ih0 _ _)
   | (with_reducible exact LeO.refl _)
   | (with_reducible exact LeO.none _)
   | (with_reducible refine LeO.ite ?_ ?_)
   | (with_reducible refine LeO.bind ?_ (fun _ => ?_))
   | exact ih0 _ _
   | exact LeO.none _
   | refine LeO.ite ?_ ?_
   | refine LeO.bind ?_ (fun _ => ?_)
set_option maxHeartbeats 8000000 in
set_option maxRecDepth 100000 in
theorem trivetref14_May.calls (k : Nat) (A0 : Option Addr) (c0 : Nat) (l0 : List (S48)) (r : Bool) (w : World) (hr0 : Kd.C k48 w A0 l0.length l0) (hc0 : l0.length ≤ c0) (h : trivetref14_May.f k l0 = some r) :
  Calls Try.prog 12 #[.slice A0 l0.length c0] w fun e w' => e = .returned (.bool r) ∧ Below w.heap.size w w' := by
 have hu48 := Try.underlying48
 have HR0 := ka hr0
 have HC0 := ka hc0
 clear hr0 hc0
 have HB := ka (Below.refl w.heap.size w)
 have H : (if (l0.length : Int) > 32 then (some false) else (trivetref14_May.l0 k l0 0)) = some r := h
 clear h
 by_cases c2 : (l0.length : Int) > 32
 ·rw [if_pos c2] at H
  have c2b0 : decide (32 < (l0.length : Int)) = true := decide_eq_true c2
  have c2b1 : decide (32 < l0.length) = true := decide_eq_true (by omega)
  clear c2
  obtain rfl := Option.some.inj H
  go_enter Try.func12, Try.ntmps12
  go_wp2
  go_ret
  exact ⟨by first | rfl | (simp [errW_none, errW_some] <;> rfl) | (simp [*, errW_none, errW_some] <;> rfl), by repeat (first | (with_reducible first | exact HB.out | apply kc1 | apply kc2 | apply kc3) | exact HB.out)⟩
 ·rw [if_neg c2] at H
  have c2b0 : decide (32 < (l0.length : Int)) = false := decide_eq_false c2
  have c2b1 : decide (32 < l0.length) = false := decide_eq_false (by omega)
  clear c2
  have H' := ka H
  clear H
  go_enter Try.func12, Try.ntmps12
  go_wp2
  (try simp only [Act.put, List.setIfInBounds_toArray, List.set_cons_zero, List.set_cons_succ])
  go_loopg [3] k (fun kq v3 w' => ∃ (x3_1 : Int), v3 = .int .i64 x3_1 ∧ Aside0 (trivetref14_May.l0 kq l0 x3_1 = some r) ∧ Aside0 (kq ≤ k) ∧ Aside0 (Below w.heap.size w w'))
  case atStart => exact ⟨(0), (by first | rfl | (simp; done) | (simp [*]; done)), H', ⟨Nat.le_refl _⟩, ⟨by repeat (first | (with_reducible first | exact HB.out | apply kc1 | apply kc2 | apply kc3) | exact HB.out)⟩⟩
  case round =>
   clear H'
   try clear c1
   try clear c2
   try clear c2b0
   try clear c2b1
   try clear p2
   obtain ⟨x3_1, rfl, HA, HK1, HB⟩ := hrel
   cases gk with
   | zero => exact absurd HA.out (by simp [trivetref14_May.l0])
   | succ k1 =>
    have H := HA.out
    clear HA
    simp only [trivetref14_May.l0] at H
    by_cases c3 : x3_1 < (l0.length : Int)
    ·rw [if_pos c3] at H
     have c3b0 : decide (x3_1 < (l0.length : Int)) = true := decide_eq_true c3
     clear c3
     by_cases c4 : 0 ≤ x3_1
     ·rw [if_pos c4] at H
      have c4b0 : decide (0 ≤ x3_1) = true := decide_eq_true c4
      clear c4
      by_cases c5 : ((rd_T48 l0 x3_1).f0) < 1
      ·rw [if_pos c5] at H
       have c5b0 : decide (((rd_T48 l0 x3_1).f0) < 1) = true := decide_eq_true c5
       clear c5
       obtain rfl := Option.some.inj H
       have p456 : 0 ≤ (x3_1 : Int) := of_decide_eq_true (by first | (with_reducible assumption) | assumption)
       have q456 : x3_1 < (l0.length : Int) := of_decide_eq_true (by first | (with_reducible assumption) | assumption)
       obtain ⟨ad456, e456, hx456_0, hx456_1, hx456_2⟩ := at_T48 HR0.out x3_1 p456 q456
       cases e456
       replace hx456_0 := (HB.out.cell (World.block_lt_of_cell? w _ hx456_0)).trans hx456_0
       replace hx456_1 := (HB.out.cell (World.block_lt_of_cell? w _ hx456_1)).trans hx456_1
       replace hx456_2 := (HB.out.cell (World.block_lt_of_cell? w _ hx456_2)).trans hx456_2
       replace p456 := eq_true p456
       replace q456 := eq_true q456
       go_wp2_with (first | ((with_reducible refine gate_dst (N := 4) rfl ?_); refine kx (N := 4) (cs := #[.int .i64 0, .int .i64 0, .int .i64 0]) (t := 48) ?_; intro gb457 hg w6 hbox hb; have n0_ := ka (below_step (kw HB.out) hb); have n1_ := ka (hbox); have n2_ := ka ((by rw [hg]; exact (below_size (kw HB.out)) : w.heap.size ≤ gb457)); have n3_ := n2_; clear HB; have HB := n0_; have BK457 := n1_; have GW457 := n2_; have GE457 := n3_; clear n0_ n1_ n2_ n3_; clear hb hbox hg; have hcz7 := blkAll3 BK457.out))
       go_ret
       exact ⟨by first | rfl | (simp [errW_none, errW_some] <;> rfl) | (simp [*, errW_none, errW_some] <;> rfl), by repeat (first | (with_reducible first | exact HB.out | apply kc1 | apply kc2 | apply kc3 | refine kc4 ?_ GE457.out) | exact HB.out)⟩
      ·rw [if_neg c5] at H
       have c5b0 : decide (((rd_T48 l0 x3_1).f0) < 1) = false := decide_eq_false c5
       clear c5
       by_cases c8 : ((rd_T48 l0 x3_1).f0) > 12
       ·rw [if_pos c8] at H
        have c8b0 : decide (12 < ((rd_T48 l0 x3_1).f0)) = true := decide_eq_true c8
        clear c8
        obtain rfl := Option.some.inj H
        have p456 : 0 ≤ (x3_1 : Int) := of_decide_eq_true (by first | (with_reducible assumption) | assumption)
        have q456 : x3_1 < (l0.length : Int) := of_decide_eq_true (by first | (with_reducible assumption) | assumption)
        obtain ⟨ad456, e456, hx456_0, hx456_1, hx456_2⟩ := at_T48 HR0.out x3_1 p456 q456
        cases e456
        replace hx456_0 := (HB.out.cell (World.block_lt_of_cell? w _ hx456_0)).trans hx456_0
        replace hx456_1 := (HB.out.cell (World.block_lt_of_cell? w _ hx456_1)).trans hx456_1
        replace hx456_2 := (HB.out.cell (World.block_lt_of_cell? w _ hx456_2)).trans hx456_2
        replace p456 := eq_true p456
        replace q456 := eq_true q456
        go_wp2_with (first | ((with_reducible refine gate_dst (N := 4) rfl ?_); refine kx (N := 4) (cs := #[.int .i64 0, .int .i64 0, .int .i64 0]) (t := 48) ?_; intro gb457 hg w9 hbox hb; have n0_ := ka (below_step (kw HB.out) hb); have n1_ := ka (hbox); have n2_ := ka ((by rw [hg]; exact (below_size (kw HB.out)) : w.heap.size ≤ gb457)); have n3_ := n2_; clear HB; have HB := n0_; have BK457 := n1_; have GW457 := n2_; have GE457 := n3_; clear n0_ n1_ n2_ n3_; clear hb hbox hg; have hcz10 := blkAll3 BK457.out))
        go_ret
        exact ⟨by first | rfl | (simp [errW_none, errW_some] <;> rfl) | (simp [*, errW_none, errW_some] <;> rfl), by repeat (first | (with_reducible first | exact HB.out | apply kc1 | apply kc2 | apply kc3 | refine kc4 ?_ GE457.out) | exact HB.out)⟩
       ·rw [if_neg c8] at H
        have c8b0 : decide (12 < ((rd_T48 l0 x3_1).f0)) = false := decide_eq_false c8
        clear c8
        by_cases c11 : ((rd_T48 l0 x3_1).f1) < 1
        ·rw [if_pos c11] at H
         have c11b0 : decide (((rd_T48 l0 x3_1).f1) < 1) = true := decide_eq_true c11
         clear c11
         obtain rfl := Option.some.inj H
         have p456 : 0 ≤ (x3_1 : Int) := of_decide_eq_true (by first | (with_reducible assumption) | assumption)
         have q456 : x3_1 < (l0.length : Int) := of_decide_eq_true (by first | (with_reducible assumption) | assumption)
         obtain ⟨ad456, e456, hx456_0, hx456_1, hx456_2⟩ := at_T48 HR0.out x3_1 p456 q456
         cases e456
         replace hx456_0 := (HB.out.cell (World.block_lt_of_cell? w _ hx456_0)).trans hx456_0
         replace hx456_1 := (HB.out.cell (World.block_lt_of_cell? w _ hx456_1)).trans hx456_1
         replace hx456_2 := (HB.out.cell (World.block_lt_of_cell? w _ hx456_2)).trans hx456_2
         replace p456 := eq_true p456
         replace q456 := eq_true q456
         go_wp2_with (first | ((with_reducible refine gate_dst (N := 4) rfl ?_); refine kx (N := 4) (cs := #[.int .i64 0, .int .i64 0, .int .i64 0]) (t := 48) ?_; intro gb457 hg w12 hbox hb; have n0_ := ka (below_step (kw HB.out) hb); have n1_ := ka (hbox); have n2_ := ka ((by rw [hg]; exact (below_size (kw HB.out)) : w.heap.size ≤ gb457)); have n3_ := n2_; clear HB; have HB := n0_; have BK457 := n1_; have GW457 := n2_; have GE457 := n3_; clear n0_ n1_ n2_ n3_; clear hb hbox hg; have hcz13 := blkAll3 BK457.out))
         go_ret
         exact ⟨by first | rfl | (simp [errW_none, errW_some] <;> rfl) | (simp [*, errW_none, errW_some] <;> rfl), by repeat (first | (with_reducible first | exact HB.out | apply kc1 | apply kc2 | apply kc3 | refine kc4 ?_ GE457.out) | exact HB.out)⟩
        ·rw [if_neg c11] at H
         have c11b0 : decide (((rd_T48 l0 x3_1).f1) < 1) = false := decide_eq_false c11
         clear c11
         by_cases c14 : ((rd_T48 l0 x3_1).f1) > 31
         ·rw [if_pos c14] at H
          have c14b0 : decide (31 < ((rd_T48 l0 x3_1).f1)) = true := decide_eq_true c14
          clear c14
          obtain rfl := Option.some.inj H
          have p456 : 0 ≤ (x3_1 : Int) := of_decide_eq_true (by first | (with_reducible assumption) | assumption)
          have q456 : x3_1 < (l0.length : Int) := of_decide_eq_true (by first | (with_reducible assumption) | assumption)
          obtain ⟨ad456, e456, hx456_0, hx456_1, hx456_2⟩ := at_T48 HR0.out x3_1 p456 q456
          cases e456
          replace hx456_0 := (HB.out.cell (World.block_lt_of_cell? w _ hx456_0)).trans hx456_0
          replace hx456_1 := (HB.out.cell (World.block_lt_of_cell? w _ hx456_1)).trans hx456_1
          replace hx456_2 := (HB.out.cell (World.block_lt_of_cell? w _ hx456_2)).trans hx456_2
          replace p456 := eq_true p456
          replace q456 := eq_true q456
          go_wp2_with (first | ((with_reducible refine gate_dst (N := 4) rfl ?_); refine kx (N := 4) (cs := #[.int .i64 0, .int .i64 0, .int .i64 0]) (t := 48) ?_; intro gb457 hg w15 hbox hb; have n0_ := ka (below_step (kw HB.out) hb); have n1_ := ka (hbox); have n2_ := ka ((by rw [hg]; exact (below_size (kw HB.out)) : w.heap.size ≤ gb457)); have n3_ := n2_; clear HB; have HB := n0_; have BK457 := n1_; have GW457 := n2_; have GE457 := n3_; clear n0_ n1_ n2_ n3_; clear hb hbox hg; have hcz16 := blkAll3 BK457.out))
          go_ret
          exact ⟨by first | rfl | (simp [errW_none, errW_some] <;> rfl) | (simp [*, errW_none, errW_some] <;> rfl), by repeat (first | (with_reducible first | exact HB.out | apply kc1 | apply kc2 | apply kc3 | refine kc4 ?_ GE457.out) | exact HB.out)⟩
         ·rw [if_neg c14] at H
          have c14b0 : decide (31 < ((rd_T48 l0 x3_1).f1)) = false := decide_eq_false c14
          clear c14
          by_cases c17 : ((rd_T48 l0 x3_1).f2) < 1
          ·rw [if_pos c17] at H
           have c17b0 : decide (((rd_T48 l0 x3_1).f2) < 1) = true := decide_eq_true c17
           clear c17
           obtain rfl := Option.some.inj H
           have p456 : 0 ≤ (x3_1 : Int) := of_decide_eq_true (by first | (with_reducible assumption) | assumption)
           have q456 : x3_1 < (l0.length : Int) := of_decide_eq_true (by first | (with_reducible assumption) | assumption)
           obtain ⟨ad456, e456, hx456_0, hx456_1, hx456_2⟩ := at_T48 HR0.out x3_1 p456 q456
           cases e456
           replace hx456_0 := (HB.out.cell (World.block_lt_of_cell? w _ hx456_0)).trans hx456_0
           replace hx456_1 := (HB.out.cell (World.block_lt_of_cell? w _ hx456_1)).trans hx456_1
           replace hx456_2 := (HB.out.cell (World.block_lt_of_cell? w _ hx456_2)).trans hx456_2
           replace p456 := eq_true p456
           replace q456 := eq_true q456
           go_wp2_with (first | ((with_reducible refine gate_dst (N := 4) rfl ?_); refine kx (N := 4) (cs := #[.int .i64 0, .int .i64 0, .int .i64 0]) (t := 48) ?_; intro gb457 hg w18 hbox hb; have n0_ := ka (below_step (kw HB.out) hb); have n1_ := ka (hbox); have n2_ := ka ((by rw [hg]; exact (below_size (kw HB.out)) : w.heap.size ≤ gb457)); have n3_ := n2_; clear HB; have HB := n0_; have BK457 := n1_; have GW457 := n2_; have GE457 := n3_; clear n0_ n1_ n2_ n3_; clear hb hbox hg; have hcz19 := blkAll3 BK457.out))
           go_ret
           exact ⟨by first | rfl | (simp [errW_none, errW_some] <;> rfl) | (simp [*, errW_none, errW_some] <;> rfl), by repeat (first | (with_reducible first | exact HB.out | apply kc1 | apply kc2 | apply kc3 | refine kc4 ?_ GE457.out) | exact HB.out)⟩
          ·rw [if_neg c17] at H
           have c17b0 : decide (((rd_T48 l0 x3_1).f2) < 1) = false := decide_eq_false c17
           clear c17
           by_cases c20 : ((rd_T48 l0 x3_1).f2) > 10000000000000
           ·rw [if_pos c20] at H
            have c20b0 : decide (10000000000000 < ((rd_T48 l0 x3_1).f2)) = true := decide_eq_true c20
            clear c20
            obtain rfl := Option.some.inj H
            have p456 : 0 ≤ (x3_1 : Int) := of_decide_eq_true (by first | (with_reducible assumption) | assumption)
            have q456 : x3_1 < (l0.length : Int) := of_decide_eq_true (by first | (with_reducible assumption) | assumption)
            obtain ⟨ad456, e456, hx456_0, hx456_1, hx456_2⟩ := at_T48 HR0.out x3_1 p456 q456
            cases e456
            replace hx456_0 := (HB.out.cell (World.block_lt_of_cell? w _ hx456_0)).trans hx456_0
            replace hx456_1 := (HB.out.cell (World.block_lt_of_cell? w _ hx456_1)).trans hx456_1
            replace hx456_2 := (HB.out.cell (World.block_lt_of_cell? w _ hx456_2)).trans hx456_2
            replace p456 := eq_true p456
            replace q456 := eq_true q456
            go_wp2_with (first | ((with_reducible refine gate_dst (N := 4) rfl ?_); refine kx (N := 4) (cs := #[.int .i64 0, .int .i64 0, .int .i64 0]) (t := 48) ?_; intro gb457 hg w21 hbox hb; have n0_ := ka (below_step (kw HB.out) hb); have n1_ := ka (hbox); have n2_ := ka ((by rw [hg]; exact (below_size (kw HB.out)) : w.heap.size ≤ gb457)); have n3_ := n2_; clear HB; have HB := n0_; have BK457 := n1_; have GW457 := n2_; have GE457 := n3_; clear n0_ n1_ n2_ n3_; clear hb hbox hg; have hcz22 := blkAll3 BK457.out))
            go_ret
            exact ⟨by first | rfl | (simp [errW_none, errW_some] <;> rfl) | (simp [*, errW_none, errW_some] <;> rfl), by repeat (first | (with_reducible first | exact HB.out | apply kc1 | apply kc2 | apply kc3 | refine kc4 ?_ GE457.out) | exact HB.out)⟩
           ·rw [if_neg c20] at H
            have c20b0 : decide (10000000000000 < ((rd_T48 l0 x3_1).f2)) = false := decide_eq_false c20
            clear c20
            have H' := ka H
            clear H
            have p456 : 0 ≤ (x3_1 : Int) := of_decide_eq_true (by first | (with_reducible assumption) | assumption)
            have q456 : x3_1 < (l0.length : Int) := of_decide_eq_true (by first | (with_reducible assumption) | assumption)
            obtain ⟨ad456, e456, hx456_0, hx456_1, hx456_2⟩ := at_T48 HR0.out x3_1 p456 q456
            cases e456
            replace hx456_0 := (HB.out.cell (World.block_lt_of_cell? w _ hx456_0)).trans hx456_0
            replace hx456_1 := (HB.out.cell (World.block_lt_of_cell? w _ hx456_1)).trans hx456_1
            replace hx456_2 := (HB.out.cell (World.block_lt_of_cell? w _ hx456_2)).trans hx456_2
            replace p456 := eq_true p456
            replace q456 := eq_true q456
            go_wp2_with (first | ((with_reducible refine gate_dst (N := 4) rfl ?_); refine kx (N := 4) (cs := #[.int .i64 0, .int .i64 0, .int .i64 0]) (t := 48) ?_; intro gb457 hg w23 hbox hb; have n0_ := ka (below_step (kw HB.out) hb); have n1_ := ka (hbox); have n2_ := ka ((by rw [hg]; exact (below_size (kw HB.out)) : w.heap.size ≤ gb457)); have n3_ := n2_; clear HB; have HB := n0_; have BK457 := n1_; have GW457 := n2_; have GE457 := n3_; clear n0_ n1_ n2_ n3_; clear hb hbox hg; have hcz24 := blkAll3 BK457.out))
            go_roundg k1
            case measure => have := HK1.out; omega
            case rel => exact ⟨(wrap64 (x3_1 + 1)), (by first | rfl | (simp; done) | (simp [*]; done)), H', ⟨by have := HK1.out; omega⟩, ⟨by repeat (first | (with_reducible first | exact HB.out | apply kc1 | apply kc2 | apply kc3 | refine kc4 ?_ GE457.out) | exact HB.out)⟩⟩
     ·rw [if_neg c4] at H
      exact absurd H (by simp)
    ·rw [if_neg c3] at H
     have c3b0 : decide (x3_1 < (l0.length : Int)) = false := decide_eq_false c3
     clear c3
     obtain rfl := Option.some.inj H
     go_wp2
     go_ret
     exact ⟨by first | rfl | (simp [errW_none, errW_some] <;> rfl) | (simp [*, errW_none, errW_some] <;> rfl), by repeat (first | (with_reducible first | exact HB.out | apply kc1 | apply kc2 | apply kc3) | exact HB.out)⟩

/-! ### trivetref14_May: function 12, its laws -/
theorem trivetref14_May.loop (n : Nat) : ∀ (k i : Nat) (l : List S48), l.length = i + n → l.length ≤ 32 → n < k → trivetref14_May.l0 k l (i : Int) = some (decide (∀ x ∈ l.drop i, calendar_Check.okI x)) := by
 induction n with
 | zero =>
  intro k i l hl hm hk
  obtain ⟨j, rfl⟩ : ∃ j, k = j + 1 := ⟨k - 1, by omega⟩
  simp only [trivetref14_May.l0]
  rw [if_neg (by omega), List.drop_eq_nil_of_le (by omega)]
  simp
 | succ n ih =>
  intro k i l hl hm hk
  obtain ⟨j, rfl⟩ : ∃ j, k = j + 1 := ⟨k - 1, by omega⟩
  have hd : l.drop i = rd_T48 l (i : Int) :: l.drop (i + 1) := by
   unfold rd_T48
   rw [List.drop_eq_getElem_cons (show i < l.length by omega), Int.toNat_natCast, List.getD_eq_getElem?_getD, List.getElem?_eq_getElem (show i < l.length by omega)]; rfl
  have ih' := ih j (i + 1) l (by omega) hm (by omega)
  simp only [trivetref14_May.l0]
  rw [if_pos (by omega), if_pos (by omega), M.w64_id (n := (i : Int) + 1) (by omega) (by omega), hd, show (i : Int) + 1 = ((i + 1 : Nat) : Int) by omega, ih']
  generalize rd_T48 l (i : Int) = x
  generalize l.drop (i + 1) = r
  have no : ¬ calendar_Check.okI x → some false = some (decide (∀ y ∈ x :: r, calendar_Check.okI y)) := fun h => by rw [decide_eq_false (fun g => h (g x (by simp)))]
  by_cases c1 : x.f0 < 1
  ·rw [if_pos c1]; exact no (by unfold calendar_Check.okI; omega)
  by_cases c2 : x.f0 > 12
  ·rw [if_neg c1, if_pos c2]; exact no (by unfold calendar_Check.okI; omega)
  by_cases c3 : x.f1 < 1
  ·rw [if_neg c1, if_neg c2, if_pos c3]; exact no (by unfold calendar_Check.okI; omega)
  by_cases c4 : x.f1 > 31
  ·rw [if_neg c1, if_neg c2, if_neg c3, if_pos c4]; exact no (by unfold calendar_Check.okI; omega)
  by_cases c5 : x.f2 < 1
  ·rw [if_neg c1, if_neg c2, if_neg c3, if_neg c4, if_pos c5]; exact no (by unfold calendar_Check.okI; omega)
  by_cases c6 : x.f2 > 10000000000000
  ·rw [if_neg c1, if_neg c2, if_neg c3, if_neg c4, if_neg c5, if_pos c6]; exact no (by unfold calendar_Check.okI; omega)
  rw [if_neg c1, if_neg c2, if_neg c3, if_neg c4, if_neg c5, if_neg c6]
  have hx : calendar_Check.okI x := by unfold calendar_Check.okI; omega
  simp [hx]
theorem trivetref14_May.num (k : Nat) (l : List S48) (hk : 40 ≤ k) : trivetref14_May.f k l = some (decide (calendar_Check.may l)) := by
 unfold trivetref14_May.f
 by_cases h : (l.length : Int) > 32
 ·rw [if_pos h, decide_eq_false (fun g => by have := g.1; omega)]
 ·rw [if_neg h]
  have key := trivetref14_May.loop l.length k 0 l (by omega) (by omega) (by omega)
  rw [List.drop_zero] at key
  have e0 : ((0 : Nat) : Int) = 0 := rfl
  rw [e0] at key
  rw [key]
  congr 1
  exact decide_eq_decide.mpr ⟨fun g => ⟨by omega, g⟩, fun g => g.2⟩

/-! ### trivetref04_Months: function 13 -/
mutual
def trivetref04_Months.j0 : Nat → Int → Bool → Int → Int → Int → Option (Int × Int × Int × Bool)
 | 0, _, _, _, _, _ => none
 | k + 1, x1, x12, x459000, x459001, x459002 => if x12 = true then (some (0, 0, 0, false)) else (trivetref04_Months.l0 k x1 x459000 x459001 x459002)
def trivetref04_Months.l0 : Nat → Int → Int → Int → Int → Option (Int × Int × Int × Bool)
 | 0, _, _, _, _ => none
 | k + 1, x1, x459000, x459001, x459002 => if x1 > 0 then (if (wrap64 (x459001 + 1)) > 12 then (trivetref04_Months.l0 k (wrap64 (x1 - 1)) (wrap64 (x459000 + 1)) 1 x459002) else (trivetref04_Months.l0 k (wrap64 (x1 - 1)) x459000 (wrap64 (x459001 + 1)) x459002)) else (trivetref04_Months.l1 k x1 x459000 x459001 x459002)
def trivetref04_Months.l1 : Nat → Int → Int → Int → Int → Option (Int × Int × Int × Bool)
 | 0, _, _, _, _ => none
 | k + 1, x1, x459000, x459001, x459002 => if x1 < 0 then (if (wrap64 (x459001 - 1)) < 1 then (trivetref04_Months.l1 k (wrap64 (x1 + 1)) (wrap64 (x459000 - 1)) 12 x459002) else (trivetref04_Months.l1 k (wrap64 (x1 + 1)) x459000 (wrap64 (x459001 - 1)) x459002)) else ((trivetref04_Days_s.f x459000 x459001).bind fun t460 => (if t460 = 0 then (some (0, 0, 0, false)) else (if x459002 > t460 then (some (x459000, x459001, t460, true)) else (some (x459000, x459001, x459002, true)))))
end
def trivetref04_Months.f (k : Nat) (a0_0 : Int) (a0_1 : Int) (a0_2 : Int) (a1 : Int) : Option (Int × Int × Int × Bool) := if a1 < (-3600) then (trivetref04_Months.j0 k a1 true a0_0 a0_1 a0_2) else (trivetref04_Months.j0 k a1 (decide (a1 > 3600)) a0_0 a0_1 a0_2)
theorem trivetref04_Months.mono_l : ∀ k, (∀ y0 y1 y2 y3 y4, LeO (trivetref04_Months.j0 k y0 y1 y2 y3 y4) (trivetref04_Months.j0 (k + 1) y0 y1 y2 y3 y4)) ∧ (∀ y0 y1 y2 y3, LeO (trivetref04_Months.l0 k y0 y1 y2 y3) (trivetref04_Months.l0 (k + 1) y0 y1 y2 y3)) ∧ (∀ y0 y1 y2 y3, LeO (trivetref04_Months.l1 k y0 y1 y2 y3) (trivetref04_Months.l1 (k + 1) y0 y1 y2 y3))
 | 0 => ⟨fun _ _ _ _ _ r h => by simp [trivetref04_Months.j0] at h, fun _ _ _ _ r h => by simp [trivetref04_Months.l0] at h, fun _ _ _ _ r h => by simp [trivetref04_Months.l1] at h⟩
 | k + 1 => by
  obtain ⟨ih0, ih1, ih2⟩ := trivetref04_Months.mono_l k
  refine ⟨?_, ?_, ?_⟩
  ·intro y0 y1 y2 y3 y4
   unfold trivetref04_Months.j0
   repeat' first
   | (with_reducible exact ih0 _ _ _ _ _)
   | (with_reducible exact ih1 _ _ _ _)
   | (with_reducible exact ih2 _ _ _ _)
   | (with_reducible exact LeO.refl _)
   | (with_reducible exact LeO.none _)
   | (with_reducible refine LeO.ite ?_ ?_)
   | (with_reducible refine LeO.bind ?_ (fun _ => ?_))
   | exact ih0 _ _ _ _ _
   | exact ih1 _ _ _ _
   | exact ih2 _ _ _ _
   | exact LeO.none _
   | refine LeO.ite ?_ ?_
   | refine LeO.bind ?_ (fun _ => ?_)
  ·intro y0 y1 y2 y3
   unfold trivetref04_Months.l0
   repeat' first
   | (with_reducible exact ih0 _ _ _ _ _)
   | (with_reducible exact ih1 _ _ _ _)
   | (with_reducible exact ih2 _ _ _ _)
   | (with_reducible exact LeO.refl _)
   | (with_reducible exact LeO.none _)
   | (with_reducible refine LeO.ite ?_ ?_)
   | (with_reducible refine LeO.bind ?_ (fun _ => ?_))
   | exact ih0 _ _ _ _ _
   | exact ih1 _ _ _ _
   | exact ih2 _ _ _ _
   | exact LeO.none _
   | refine LeO.ite ?_ ?_
   | refine LeO.bind ?_ (fun _ => ?_)
  ·intro y0 y1 y2 y3
   unfold trivetref04_Months.l1
   repeat' first
   | (with_reducible exact ih0 _ _ _ _ _)
   | (with_reducible exact ih1 _ _ _ _)
   | (with_reducible exact ih2 _ _ _ _)
   | (with_reducible exact LeO.refl _)
   | (with_reducible exact LeO.none _)
   | (with_reducible refine LeO.ite ?_ ?_)
   | (with_reducible refine LeO.bind ?_ (fun _ => ?_))
   | exact ih0 _ _ _ _ _
   | exact ih1 _ _ _ _
   | exact ih2 _ _ _ _
   | exact LeO.none _
   | refine LeO.ite ?_ ?_
   | refine LeO.bind ?_ (fun _ => ?_)
theorem trivetref04_Months.mono : ∀ a0 a1 a2 a3 k, LeO (trivetref04_Months.f k a0 a1 a2 a3) (trivetref04_Months.f (k + 1) a0 a1 a2 a3) := by
 intro a0 a1 a2 a3 k
 obtain ⟨ih0, ih1, ih2⟩ := trivetref04_Months.mono_l k
 unfold trivetref04_Months.f
 repeat' first
   | (with_reducible exact ih0 _ _ _ _ _)
   | (with_reducible exact ih1 _ _ _ _)
   | (with_reducible exact ih2 _ _ _ _)
   | (with_reducible exact LeO.refl _)
   | (with_reducible exact LeO.none _)
   | (with_reducible refine LeO.ite ?_ ?_)
   | (with_reducible refine LeO.bind ?_ (fun _ => ?_))
   | exact ih0 _ _ _ _ _
   | exact ih1 _ _ _ _
   | exact ih2 _ _ _ _
   | exact LeO.none _
   | refine LeO.ite ?_ ?_
   | refine LeO.bind ?_ (fun _ => ?_)
set_option maxHeartbeats 8000000 in
set_option maxRecDepth 100000 in
theorem trivetref04_Months.calls (k : Nat) (a0_0 : Int) (a0_1 : Int) (a0_2 : Int) (a1 : Int) (r1 : Int) (r2 : Int) (r3 : Int) (r4 : Bool) (w : World) (h : trivetref04_Months.f k a0_0 a0_1 a0_2 a1 = some (r1, r2, r3, r4)) :
  Calls Try.prog 13 #[.agg #[.int .i64 a0_0, .int .i64 a0_1, .int .i64 a0_2], .int .i64 a1] w fun e w' => e = .returned (.tuple #[.agg #[.int .i64 r1, .int .i64 r2, .int .i64 r3], .bool r4]) ∧ Below w.heap.size w w' := by
 have hu30 := Try.underlying30
 have HB := ka (Below.refl w.heap.size w)
 have H : (if a1 < (-3600) then (trivetref04_Months.j0 k a1 true a0_0 a0_1 a0_2) else (trivetref04_Months.j0 k a1 (decide (a1 > 3600)) a0_0 a0_1 a0_2)) = some (r1, r2, r3, r4) := h
 clear h
 have HC3 := ka H
 clear H
 go_enter Try.func13, Try.ntmps13
 go_upto_region 1 with (first | ((with_reducible refine gate_dst (N := 2) rfl ?_); refine kx (N := 2) (cs := #[.int .i64 a0_0, .int .i64 a0_1, .int .i64 a0_2]) (t := 30) ?_; intro gb458 hg w4 hbox hb; have n0_ := ka (below_step (kw HB.out) hb); have n1_ := ka (hbox); have n2_ := ka ((by rw [hg]; exact (below_size (kw HB.out)) : w.heap.size ≤ gb458)); have n3_ := n2_; clear HB; have HB := n0_; have BK458 := n1_; have GW458 := n2_; have GE458 := n3_; clear n0_ n1_ n2_ n3_; clear hb hbox hg) | ((with_reducible refine gate_dst (N := 4) rfl ?_); refine kx (N := 4) (cs := #[.int .i64 0, .int .i64 0, .int .i64 0]) (t := 30) ?_; intro gb459 hg w5 hbox hb; have n0_ := ka (blk_below (g := gb458) (kz BK458.out) hb); have n1_ := ka (below_step (kw HB.out) hb); have n2_ := ka (hbox); have n3_ := ka ((by rw [hg]; exact (below_size (kw HB.out)) : w.heap.size ≤ gb459)); have n4_ := n3_; have n5_ := ka ((by rw [hg]; exact Nat.ne_of_lt (blk_lt (g := gb458) (kz BK458.out)) : gb458 ≠ gb459)); have n6_ := ka n5_.out.symm; clear BK458; clear HB; have BK458 := n0_; have HB := n1_; have BK459 := n2_; have GW459 := n3_; have GE459 := n4_; have NB458_459 := n5_; have NB459_458 := n6_; clear n0_ n1_ n2_ n3_ n4_ n5_ n6_; clear hb hbox hg))
 (try simp only [Act.put, List.setIfInBounds_toArray, List.set_cons_zero, List.set_cons_succ])
 go_cut [12] (fun v12 wc => ∃ (kq : Nat) (x12_2 : Bool), v12 = .bool x12_2 ∧ Aside0 (trivetref04_Months.j0 kq a1 x12_2 a0_0 a0_1 a0_2 = some (r1, r2, r3, r4)) ∧ Aside0 (kq ≤ k) ∧ Aside0 (wc.heap[gb458]? = some (.cells #[.int .i64 a0_0, .int .i64 a0_1, .int .i64 a0_2] 30 (0, 0))) ∧ Aside0 (wc.heap[gb459]? = some (.cells #[.int .i64 0, .int .i64 0, .int .i64 0] 30 (0, 0))) ∧ Aside0 (Below w.heap.size w wc))
 case first =>
  have H := HC3.out
  clear HC3
  by_cases c6 : a1 < (-3600)
  ·rw [if_pos c6] at H
   have c6b0 : decide (a1 < (-3600)) = true := decide_eq_true c6
   clear c6
   (first | rw [c6b0] | (simp only [i64_w, i32_w]; rw [c6b0]) | skip)
   have H' := ka H
   clear H
   go_wp2
   go_meet
   case rel => exact ⟨_, (true), (by first | rfl | (simp; done) | (simp [*]; done)), H', ⟨by first | omega | exact Nat.le_refl _⟩, ⟨by (with_reducible repeat (first | apply kb1 | apply kb2 | apply kb3)); exact BK458.out⟩, ⟨by (with_reducible repeat (first | apply kb1 | apply kb2 | apply kb3)); exact BK459.out⟩, ⟨by repeat (first | (with_reducible first | exact HB.out | apply kc1 | apply kc2 | apply kc3 | refine kc4 ?_ GE458.out | refine kc4 ?_ GE459.out) | exact HB.out)⟩⟩
  ·rw [if_neg c6] at H
   have c6b0 : decide (a1 < (-3600)) = false := decide_eq_false c6
   clear c6
   (first | rw [c6b0] | (simp only [i64_w, i32_w]; rw [c6b0]) | skip)
   have H' := ka H
   clear H
   go_wp2
   go_meet
   case rel => exact ⟨_, (decide (a1 > 3600)), (by first | rfl | (simp; done) | (simp [*]; done)), H', ⟨by first | omega | exact Nat.le_refl _⟩, ⟨by (with_reducible repeat (first | apply kb1 | apply kb2 | apply kb3)); exact BK458.out⟩, ⟨by (with_reducible repeat (first | apply kb1 | apply kb2 | apply kb3)); exact BK459.out⟩, ⟨by repeat (first | (with_reducible first | exact HB.out | apply kc1 | apply kc2 | apply kc3 | refine kc4 ?_ GE458.out | refine kc4 ?_ GE459.out) | exact HB.out)⟩⟩
 case rest =>
  clear HC3
  try clear c1
  try clear p2
  try clear c6
  try clear c6b0
  obtain ⟨kq, x12_2, rfl, HA, HJ2, BK458, BK459, HB⟩ := hcut
  cases kq with
  | zero => exact absurd HA.out (by simp [trivetref04_Months.j0])
  | succ kj2 =>
   have H := HA.out
   clear HA
   simp only [trivetref04_Months.j0] at H
   by_cases c7 : x12_2 = true
   ·subst c7
    have H1 : (some (0, 0, 0, false)) = some (r1, r2, r3, r4) := by rw [if_pos rfl] at H; exact H
    clear H
    have H := H1
    clear H1
    simp only [Option.some.injEq, Prod.mk.injEq] at H
    obtain ⟨rfl, rfl, rfl, rfl⟩ := H
    have hnb8 := NB459_458.out
    have hnc8 := NB458_459.out
    have hcz9 := blkAll3 BK459.out
    go_wp2
    refine bodyPost_ret (results_ct rfl _ _ gb459 30 #[.int .i64 0, .int .i64 0, .int .i64 0] (0, 0) _ rfl (by (with_reducible repeat (first | apply kb1 | apply kb2 | apply kb3 | apply blkPut3_2 | apply blkPut3_1 | apply blkPut3_0)); exact BK459.out) Try.underlying30 rfl (by kernel_rfl)) rfl ?_
    exact ⟨by first | rfl | (simp [errW_none, errW_some] <;> rfl) | (simp [*, errW_none, errW_some] <;> rfl), by repeat (first | (with_reducible first | exact HB.out | apply kc1 | apply kc2 | apply kc3 | refine kc4 ?_ GE458.out | refine kc4 ?_ GE459.out) | exact HB.out)⟩
   ·replace c7 := Bool.eq_false_iff.mpr c7
    subst c7
    have H1 : (trivetref04_Months.l0 kj2 a1 a0_0 a0_1 a0_2) = some (r1, r2, r3, r4) := by rw [if_neg (show ¬ (false = true) by decide)] at H; exact H
    clear H
    have H := H1
    clear H1
    have H' := ka H
    clear H
    go_wp2
    (try simp only [Act.put, List.setIfInBounds_toArray, List.set_cons_zero, List.set_cons_succ])
    go_loopg [1] kj2 (fun kq v1 w' => ∃ (x1_2 : Int) (x459000_2 : Int) (x459001_2 : Int), v1 = .int .i64 x1_2 ∧ Aside0 (trivetref04_Months.l0 kq x1_2 x459000_2 x459001_2 a0_2 = some (r1, r2, r3, r4)) ∧ Aside0 (kq ≤ kj2) ∧ Aside0 (w'.heap[gb458]? = some (.cells #[.int .i64 x459000_2, .int .i64 x459001_2, .int .i64 a0_2] 30 (0, 0))) ∧ Aside0 (w'.heap[gb459]? = some (.cells #[.int .i64 0, .int .i64 0, .int .i64 0] 30 (0, 0))) ∧ Aside0 (Below w.heap.size w w'))
    case atStart => exact ⟨(a1), (a0_0), (a0_1), (by first | rfl | (simp; done) | (simp [*]; done)), H', ⟨Nat.le_refl _⟩, ⟨by (with_reducible repeat (first | apply kb1 | apply kb2 | apply kb3)); exact BK458.out⟩, ⟨by (with_reducible repeat (first | apply kb1 | apply kb2 | apply kb3)); exact BK459.out⟩, ⟨by repeat (first | (with_reducible first | exact HB.out | apply kc1 | apply kc2 | apply kc3 | refine kc4 ?_ GE458.out | refine kc4 ?_ GE459.out) | exact HB.out)⟩⟩
    case round =>
     clear H'
     try clear c1
     try clear p2
     try clear c6
     try clear c6b0
     try clear c7
     try clear c8
     try clear hcz9
     try clear p2
     obtain ⟨x1_2, x459000_2, x459001_2, rfl, HA, HK2, BK458, BK459, HB⟩ := hrel
     cases gk with
     | zero => exact absurd HA.out (by simp [trivetref04_Months.l0])
     | succ k2 =>
      have H := HA.out
      clear HA
      simp only [trivetref04_Months.l0] at H
      by_cases c10 : x1_2 > 0
      ·rw [if_pos c10] at H
       have c10b0 : decide (0 < x1_2) = true := decide_eq_true c10
       clear c10
       by_cases c11 : (wrap64 (x459001_2 + 1)) > 12
       ·rw [if_pos c11] at H
        have c11b0 : decide (12 < (wrap64 (x459001_2 + 1))) = true := decide_eq_true c11
        clear c11
        have H' := ka H
        clear H
        have hnb12 := NB458_459.out
        have hnc12 := NB459_458.out
        have hcz13 := blkAll3 BK458.out
        go_wp2
        go_roundg k2
        case measure => have := HJ2.out; have := HK2.out; omega
        case rel => exact ⟨(wrap64 (x1_2 - 1)), (wrap64 (x459000_2 + 1)), (1), (by first | rfl | (simp; done) | (simp [*]; done)), H', ⟨by have := HJ2.out; have := HK2.out; omega⟩, ⟨by (with_reducible repeat (first | apply kb1 | apply kb2 | apply kb3 | apply blkPut3_0 | apply blkPut3_1)); exact BK458.out⟩, ⟨by (with_reducible repeat (first | apply kb1 | apply kb2 | apply kb3 | refine kb4 ?_ NB459_458.out _)); exact BK459.out⟩, ⟨by repeat (first | (with_reducible first | exact HB.out | apply kc1 | apply kc2 | apply kc3 | refine kc4 ?_ GE458.out | refine kc4 ?_ GE459.out) | exact HB.out)⟩⟩
       ·rw [if_neg c11] at H
        have c11b0 : decide (12 < (wrap64 (x459001_2 + 1))) = false := decide_eq_false c11
        clear c11
        have H' := ka H
        clear H
        have hnb14 := NB458_459.out
        have hnc14 := NB459_458.out
        have hcz15 := blkAll3 BK458.out
        go_wp2
        go_roundg k2
        case measure => have := HJ2.out; have := HK2.out; omega
        case rel => exact ⟨(wrap64 (x1_2 - 1)), (x459000_2), (wrap64 (x459001_2 + 1)), (by first | rfl | (simp; done) | (simp [*]; done)), H', ⟨by have := HJ2.out; have := HK2.out; omega⟩, ⟨by (with_reducible repeat (first | apply kb1 | apply kb2 | apply kb3)); refine blk_put (cs := #[.int .i64 x459000_2, .int .i64 x459001_2, .int .i64 a0_2]) ?_ 1 _ rfl; (with_reducible repeat (first | apply kb1 | apply kb2 | apply kb3)); exact BK458.out⟩, ⟨by (with_reducible repeat (first | apply kb1 | apply kb2 | apply kb3)); refine kb4 ?_ NB459_458.out _; (with_reducible repeat (first | apply kb1 | apply kb2 | apply kb3)); exact BK459.out⟩, ⟨by repeat (first | (with_reducible first | exact HB.out | apply kc1 | apply kc2 | apply kc3 | refine kc4 ?_ GE458.out | refine kc4 ?_ GE459.out) | exact HB.out)⟩⟩
      ·rw [if_neg c10] at H
       have c10b0 : decide (0 < x1_2) = false := decide_eq_false c10
       clear c10
       have H' := ka H
       clear H
       go_wp2
       (try simp only [Act.put, List.setIfInBounds_toArray, List.set_cons_zero, List.set_cons_succ])
       go_loopg [1] k2 (fun kq v1 w' => ∃ (x1_3 : Int) (x459000_3 : Int) (x459001_3 : Int), v1 = .int .i64 x1_3 ∧ Aside0 (trivetref04_Months.l1 kq x1_3 x459000_3 x459001_3 a0_2 = some (r1, r2, r3, r4)) ∧ Aside0 (kq ≤ k2) ∧ Aside0 (w'.heap[gb458]? = some (.cells #[.int .i64 x459000_3, .int .i64 x459001_3, .int .i64 a0_2] 30 (0, 0))) ∧ Aside0 (w'.heap[gb459]? = some (.cells #[.int .i64 0, .int .i64 0, .int .i64 0] 30 (0, 0))) ∧ Aside0 (Below w.heap.size w w'))
       case atStart => exact ⟨(x1_2), (x459000_2), (x459001_2), (by first | rfl | (simp; done) | (simp [*]; done)), H', ⟨Nat.le_refl _⟩, ⟨by (with_reducible repeat (first | apply kb1 | apply kb2 | apply kb3)); exact BK458.out⟩, ⟨by (with_reducible repeat (first | apply kb1 | apply kb2 | apply kb3)); exact BK459.out⟩, ⟨by repeat (first | (with_reducible first | exact HB.out | apply kc1 | apply kc2 | apply kc3 | refine kc4 ?_ GE458.out | refine kc4 ?_ GE459.out) | exact HB.out)⟩⟩
       case round =>
        clear H'
        try clear c1
        try clear p2
        try clear c6
        try clear c6b0
        try clear p6
        try clear c7
        try clear c8
        try clear c10
        try clear c10b0
        try clear c11
        try clear c11b0
        try clear c12
        try clear c13
        try clear c14
        try clear hcz13
        try clear hcz15
        try clear hcz9
        try clear p2
        obtain ⟨x1_3, x459000_3, x459001_3, rfl, HA, HK3, BK458, BK459, HB⟩ := hrel
        cases gk with
        | zero => exact absurd HA.out (by simp [trivetref04_Months.l1])
        | succ k3 =>
         have H := HA.out
         clear HA
         simp only [trivetref04_Months.l1] at H
         by_cases c16 : x1_3 < 0
         ·rw [if_pos c16] at H
          have c16b0 : decide (x1_3 < 0) = true := decide_eq_true c16
          clear c16
          by_cases c17 : (wrap64 (x459001_3 - 1)) < 1
          ·rw [if_pos c17] at H
           have c17b0 : decide ((wrap64 (x459001_3 - 1)) < 1) = true := decide_eq_true c17
           clear c17
           have H' := ka H
           clear H
           have hnb18 := NB458_459.out
           have hnc18 := NB459_458.out
           have hcz19 := blkAll3 BK458.out
           go_wp2
           go_roundg k3
           case measure => have := HJ2.out; have := HK2.out; have := HK3.out; omega
           case rel => exact ⟨(wrap64 (x1_3 + 1)), (wrap64 (x459000_3 - 1)), (12), (by first | rfl | (simp; done) | (simp [*]; done)), H', ⟨by have := HJ2.out; have := HK2.out; have := HK3.out; omega⟩, ⟨by (with_reducible repeat (first | apply kb1 | apply kb2 | apply kb3 | apply blkPut3_0 | apply blkPut3_1)); exact BK458.out⟩, ⟨by (with_reducible repeat (first | apply kb1 | apply kb2 | apply kb3 | refine kb4 ?_ NB459_458.out _)); exact BK459.out⟩, ⟨by repeat (first | (with_reducible first | exact HB.out | apply kc1 | apply kc2 | apply kc3 | refine kc4 ?_ GE458.out | refine kc4 ?_ GE459.out) | exact HB.out)⟩⟩
          ·rw [if_neg c17] at H
           have c17b0 : decide ((wrap64 (x459001_3 - 1)) < 1) = false := decide_eq_false c17
           clear c17
           have H' := ka H
           clear H
           have hnb20 := NB458_459.out
           have hnc20 := NB459_458.out
           have hcz21 := blkAll3 BK458.out
           go_wp2
           go_roundg k3
           case measure => have := HJ2.out; have := HK2.out; have := HK3.out; omega
           case rel => exact ⟨(wrap64 (x1_3 + 1)), (x459000_3), (wrap64 (x459001_3 - 1)), (by first | rfl | (simp; done) | (simp [*]; done)), H', ⟨by have := HJ2.out; have := HK2.out; have := HK3.out; omega⟩, ⟨by (with_reducible repeat (first | apply kb1 | apply kb2 | apply kb3)); refine blk_put (cs := #[.int .i64 x459000_3, .int .i64 x459001_3, .int .i64 a0_2]) ?_ 1 _ rfl; (with_reducible repeat (first | apply kb1 | apply kb2 | apply kb3)); exact BK458.out⟩, ⟨by (with_reducible repeat (first | apply kb1 | apply kb2 | apply kb3)); refine kb4 ?_ NB459_458.out _; (with_reducible repeat (first | apply kb1 | apply kb2 | apply kb3)); exact BK459.out⟩, ⟨by repeat (first | (with_reducible first | exact HB.out | apply kc1 | apply kc2 | apply kc3 | refine kc4 ?_ GE458.out | refine kc4 ?_ GE459.out) | exact HB.out)⟩⟩
         ·rw [if_neg c16] at H
          have c16b0 : decide (x1_3 < 0) = false := decide_eq_false c16
          clear c16
          replace H := Option.bind_eq_some_iff.mp H
          obtain ⟨t460, A220, H⟩ := H
          replace H : (if t460 = 0 then (some (0, 0, 0, false)) else (if a0_2 > t460 then (some (x459000_3, x459001_3, t460, true)) else (some (x459000_3, x459001_3, a0_2, true)))) = some (r1, r2, r3, r4) := H
          have A22 := ka A220
          clear A220
          by_cases c23 : t460 = 0
          ·rw [if_pos c23] at H
           have c23b0 : (t460 == 0) = true := beq_iff_eq.mpr c23
           have c23b1 : (t460 != 0) = false := bne_eq_false_iff_eq.mpr c23
           clear c23
           simp only [Option.some.injEq, Prod.mk.injEq] at H
           obtain ⟨rfl, rfl, rfl, rfl⟩ := H
           have hnb24 := NB458_459.out
           have hnc24 := NB459_458.out
           have hcz25 := blkAll3 BK458.out
           go_wp2_with (first | ((with_reducible refine gate_callee (f := 24) rfl ?_); refine kg (some 50) rfl rfl Try.func24 (by kernel_rfl) rfl #[.int .i64 x459000_3, .int .i64 x459001_3] rfl ?_; (with_reducible refine (trivetref04_Days_s.calls x459000_3 x459001_3 t460 _ A22.out).mono ?_); rintro e w' ⟨rfl, ⟨nd, rfl⟩⟩; refine ⟨_, rfl, ?_⟩; (try (rw [drewN_self wr]; generalize hq_ : World.drewN wr _ = wr; replace BK458 : Aside0 (wr.heap[gb458]? = some (.cells #[.int .i64 x459000_3, .int .i64 x459001_3, .int .i64 a0_2] 30 (0, 0))) := ⟨by rw [← hq_]; exact (kz BK458.out)⟩; replace BK459 : Aside0 (wr.heap[gb459]? = some (.cells #[.int .i64 0, .int .i64 0, .int .i64 0] 30 (0, 0))) := ⟨by rw [← hq_]; exact (kz BK459.out)⟩; replace HB : Aside0 (Below w.heap.size w wr) := ⟨by rw [← hq_]; exact (kw HB.out)⟩; clear hq_)); have hcz26 := blkAll3 BK459.out))
           refine bodyPost_ret (results_ct rfl _ _ gb459 30 #[.int .i64 0, .int .i64 0, .int .i64 0] (0, 0) _ rfl (by (with_reducible repeat (first | apply kb1 | apply kb2 | apply kb3 | apply blkPut3_2 | apply blkPut3_1 | apply blkPut3_0)); exact BK459.out) Try.underlying30 rfl (by kernel_rfl)) rfl ?_
           exact ⟨by first | rfl | (simp [errW_none, errW_some] <;> rfl) | (simp [*, errW_none, errW_some] <;> rfl), by repeat (first | (with_reducible first | exact HB.out | apply kc1 | apply kc2 | apply kc3 | refine kc4 ?_ GE458.out | refine kc4 ?_ GE459.out) | exact HB.out)⟩
          ·rw [if_neg c23] at H
           have c23b0 : (t460 == 0) = false := beq_eq_false_iff_ne.mpr c23
           have c23b1 : (t460 != 0) = true := bne_iff_ne.mpr c23
           by_cases c27 : a0_2 > t460
           ·rw [if_pos c27] at H
            have c27b0 : decide (t460 < a0_2) = true := decide_eq_true c27
            clear c27
            simp only [Option.some.injEq, Prod.mk.injEq] at H
            obtain ⟨rfl, rfl, rfl, rfl⟩ := H
            have hnb28 := NB458_459.out
            have hnc28 := NB459_458.out
            have hcz29 := blkAll3 BK458.out
            go_wp2_with (first | ((with_reducible refine gate_callee (f := 24) rfl ?_); refine kg (some 50) rfl rfl Try.func24 (by kernel_rfl) rfl #[.int .i64 x459000_3, .int .i64 x459001_3] rfl ?_; (with_reducible refine (trivetref04_Days_s.calls x459000_3 x459001_3 t460 _ A22.out).mono ?_); rintro e w' ⟨rfl, ⟨nd, rfl⟩⟩; refine ⟨_, rfl, ?_⟩; (try (rw [drewN_self wr]; generalize hq_ : World.drewN wr _ = wr; replace BK458 : Aside0 (wr.heap[gb458]? = some (.cells #[.int .i64 x459000_3, .int .i64 x459001_3, .int .i64 a0_2] 30 (0, 0))) := ⟨by rw [← hq_]; exact (kz BK458.out)⟩; replace BK459 : Aside0 (wr.heap[gb459]? = some (.cells #[.int .i64 0, .int .i64 0, .int .i64 0] 30 (0, 0))) := ⟨by rw [← hq_]; exact (kz BK459.out)⟩; replace HB : Aside0 (Below w.heap.size w wr) := ⟨by rw [← hq_]; exact (kw HB.out)⟩; clear hq_)); have hcz30 := blkAll3 BK458.out; have hcz31 := blkAll3 BK459.out))
            refine bodyPost_ret (results_ct rfl _ _ gb459 30 #[.int .i64 x459000_3, .int .i64 x459001_3, .int .i64 t460] (0, 0) _ rfl (by (with_reducible repeat (first | apply kb1 | apply kb2 | apply kb3 | apply blkPut3_2 | apply blkPut3_1 | apply blkPut3_0 | refine kb4 ?_ NB459_458.out _)); exact BK459.out) Try.underlying30 rfl (by kernel_rfl)) rfl ?_
            exact ⟨by first | rfl | (simp [errW_none, errW_some] <;> rfl) | (simp [*, errW_none, errW_some] <;> rfl), by repeat (first | (with_reducible first | exact HB.out | apply kc1 | apply kc2 | apply kc3 | refine kc4 ?_ GE458.out | refine kc4 ?_ GE459.out) | exact HB.out)⟩
           ·rw [if_neg c27] at H
            have c27b0 : decide (t460 < a0_2) = false := decide_eq_false c27
            clear c27
            simp only [Option.some.injEq, Prod.mk.injEq] at H
            obtain ⟨rfl, rfl, rfl, rfl⟩ := H
            have hnb32 := NB458_459.out
            have hnc32 := NB459_458.out
            have hcz33 := blkAll3 BK458.out
            go_wp2_with (first | ((with_reducible refine gate_callee (f := 24) rfl ?_); refine kg (some 50) rfl rfl Try.func24 (by kernel_rfl) rfl #[.int .i64 x459000_3, .int .i64 x459001_3] rfl ?_; (with_reducible refine (trivetref04_Days_s.calls x459000_3 x459001_3 t460 _ A22.out).mono ?_); rintro e w' ⟨rfl, ⟨nd, rfl⟩⟩; refine ⟨_, rfl, ?_⟩; (try (rw [drewN_self wr]; generalize hq_ : World.drewN wr _ = wr; replace BK458 : Aside0 (wr.heap[gb458]? = some (.cells #[.int .i64 x459000_3, .int .i64 x459001_3, .int .i64 a0_2] 30 (0, 0))) := ⟨by rw [← hq_]; exact (kz BK458.out)⟩; replace BK459 : Aside0 (wr.heap[gb459]? = some (.cells #[.int .i64 0, .int .i64 0, .int .i64 0] 30 (0, 0))) := ⟨by rw [← hq_]; exact (kz BK459.out)⟩; replace HB : Aside0 (Below w.heap.size w wr) := ⟨by rw [← hq_]; exact (kw HB.out)⟩; clear hq_)); have hcz34 := blkAll3 BK458.out; have hcz35 := blkAll3 BK459.out))
            refine bodyPost_ret (results_ct rfl _ _ gb459 30 #[.int .i64 x459000_3, .int .i64 x459001_3, .int .i64 a0_2] (0, 0) _ rfl (by (with_reducible repeat (first | apply kb1 | apply kb2 | apply kb3 | apply blkPut3_2 | apply blkPut3_1 | apply blkPut3_0)); exact BK459.out) Try.underlying30 rfl (by kernel_rfl)) rfl ?_
            exact ⟨by first | rfl | (simp [errW_none, errW_some] <;> rfl) | (simp [*, errW_none, errW_some] <;> rfl), by repeat (first | (with_reducible first | exact HB.out | apply kc1 | apply kc2 | apply kc3 | refine kc4 ?_ GE458.out | refine kc4 ?_ GE459.out) | exact HB.out)⟩

/-! ### trivetref04_Months_s: function 13, told plainly -/
theorem trivetref04_Months.end_ (t d : Int) (hd : 1 ≤ d ∧ d ≤ 31) (k : Nat) (hk : 1 ≤ k) : trivetref04_Months.l1 k 0 (t / 12) (t % 12 + 1) d =
  some (if M.inYears t then (t / 12, t % 12 + 1, M.cut d (M.len t), true) else (0, 0, 0, false)) := by
 obtain ⟨k, rfl⟩ : ∃ m, k = m + 1 := ⟨k - 1, by omega⟩
 have hi := M.inYears_iff t
 simp only [trivetref04_Months.l1]
 rw [if_neg (by decide)]
 unfold trivetref04_Days_s.f
 rw [Option.bind_some]
 by_cases hz : M.days (t / 12) (t % 12 + 1) = 0
 ·rw [if_pos hz, if_neg (fun h => hi.mp h hz)]
 ·rw [if_neg hz, if_pos (hi.mpr hz)]
  unfold M.cut M.len
  by_cases hg : d > M.days (t / 12) (t % 12 + 1)
  ·rw [if_pos hg, if_neg (by omega)]
  ·rw [if_neg hg, if_pos (by omega)]
theorem trivetref04_Months.up (d : Int) (hd : 1 ≤ d ∧ d ≤ 31) : ∀ (j : Nat) (t : Int), 0 ≤ t → t + j ≤ 100000 → ∀ k, j + 2 ≤ k →
  trivetref04_Months.l0 k j (t / 12) (t % 12 + 1) d = some (if M.inYears (t + j) then ((t + j) / 12, (t + j) % 12 + 1, M.cut d (M.len (t + j)), true) else (0, 0, 0, false)) := by
 intro j
 induction j with
 | zero =>
  intro t h0 h1 k hk
  obtain ⟨k, rfl⟩ : ∃ m, k = m + 1 := ⟨k - 1, by omega⟩
  simp only [trivetref04_Months.l0]
  rw [if_neg (by decide), show t + ((0 : Nat) : Int) = t by omega]
  exact trivetref04_Months.end_ t d hd k (by omega)
 | succ j ih =>
  intro t h0 h1 k hk
  obtain ⟨k, rfl⟩ : ∃ m, k = m + 1 := ⟨k - 1, by omega⟩
  have i := ih (t + 1) (by omega) (by omega) k (by omega)
  rw [show t + 1 + (j : Int) = t + ((j + 1 : Nat) : Int) by omega] at i
  simp only [trivetref04_Months.l0]
  rw [if_pos (by omega), M.w64_id (n := t % 12 + 1 + 1) (by omega) (by omega), M.w64_id (n := ((j + 1 : Nat) : Int) - 1) (by omega) (by omega), M.w64_id (n := t / 12 + 1) (by omega) (by omega), show ((j + 1 : Nat) : Int) - 1 = j by omega]
  by_cases h : t % 12 + 1 + 1 > 12
  ·rw [if_pos h]
   rw [show (t + 1) / 12 = t / 12 + 1 by omega, show (t + 1) % 12 + 1 = 1 by omega] at i
   exact i
  ·rw [if_neg h]
   rw [show (t + 1) / 12 = t / 12 by omega, show (t + 1) % 12 = t % 12 + 1 by omega] at i
   exact i
theorem trivetref04_Months.down (d : Int) (hd : 1 ≤ d ∧ d ≤ 31) : ∀ (j : Nat) (t : Int), 0 ≤ t - j → t ≤ 100000 → ∀ k, j + 2 ≤ k →
  trivetref04_Months.l1 k (-(j : Int)) (t / 12) (t % 12 + 1) d = some (if M.inYears (t - j) then ((t - j) / 12, (t - j) % 12 + 1, M.cut d (M.len (t - j)), true) else (0, 0, 0, false)) := by
 intro j
 induction j with
 | zero =>
  intro t h0 h1 k hk
  rw [show t - ((0 : Nat) : Int) = t by omega, show -((0 : Nat) : Int) = 0 by omega]
  exact trivetref04_Months.end_ t d hd k (by omega)
 | succ j ih =>
  intro t h0 h1 k hk
  obtain ⟨k, rfl⟩ : ∃ m, k = m + 1 := ⟨k - 1, by omega⟩
  have i := ih (t - 1) (by omega) (by omega) k (by omega)
  rw [show t - 1 - (j : Int) = t - ((j + 1 : Nat) : Int) by omega] at i
  simp only [trivetref04_Months.l1]
  rw [if_pos (by omega), M.w64_id (n := t % 12 + 1 - 1) (by omega) (by omega), M.w64_id (n := -((j + 1 : Nat) : Int) + 1) (by omega) (by omega), M.w64_id (n := t / 12 - 1) (by omega) (by omega), show -((j + 1 : Nat) : Int) + 1 = -(j : Int) by omega]
  by_cases h : t % 12 + 1 - 1 < 1
  ·rw [if_pos h]
   rw [show (t - 1) / 12 = t / 12 - 1 by omega, show (t - 1) % 12 + 1 = 12 by omega] at i
   exact i
  ·rw [if_neg h]
   rw [show (t - 1) / 12 = t / 12 by omega, show (t - 1) % 12 = t % 12 - 1 by omega, show t % 12 - 1 + 1 = t % 12 + 1 - 1 by omega] at i
   exact i
theorem trivetref04_Months.tells (y m d n : Int) (h : 1900 ≤ y ∧ y ≤ 2199 ∧ 1 ≤ m ∧ m ≤ 12 ∧ 1 ≤ d ∧ d ≤ 31) (k : Nat) (hk : 3700 ≤ k) : trivetref04_Months.f k y m d n =
  some (if -3600 ≤ n ∧ n ≤ 3600 ∧ M.inYears (M.mt y m + n) then ((M.mt y m + n) / 12, (M.mt y m + n) % 12 + 1, M.cut d (M.len (M.mt y m + n)), true) else (0, 0, 0, false)) := by
 obtain ⟨k, rfl⟩ : ∃ m, k = m + 1 := ⟨k - 1, by omega⟩
 have ey : M.mt y m / 12 = y := by unfold M.mt; omega
 have em : M.mt y m % 12 + 1 = m := by unfold M.mt; omega
 have et : 22800 ≤ M.mt y m ∧ M.mt y m ≤ 26399 := by unfold M.mt; omega
 unfold trivetref04_Months.f
 by_cases h1 : n < -3600
 ·rw [if_pos h1, if_neg (fun hh => by have := hh.1; omega)]
  simp [trivetref04_Months.j0]
 rw [if_neg h1]
 by_cases h2 : n > 3600
 ·rw [decide_eq_true h2, if_neg (fun hh => by have := hh.2.1; omega)]
  simp [trivetref04_Months.j0]
 rw [decide_eq_false h2]
 simp only [trivetref04_Months.j0]
 rw [if_neg (by decide)]
 have conj : (-3600 ≤ n ∧ n ≤ 3600 ∧ M.inYears (M.mt y m + n)) = M.inYears (M.mt y m + n) := by apply propext; exact ⟨fun hh => hh.2.2, fun hh => ⟨by omega, by omega, hh⟩⟩
 simp only [conj]
 by_cases h0 : 0 ≤ n
 ·have u := trivetref04_Months.up d (by omega) n.toNat (M.mt y m) (by omega) (by omega) k (by omega)
  rw [ey, em, Int.toNat_of_nonneg h0] at u
  exact u
 ·obtain ⟨k, rfl⟩ : ∃ m, k = m + 1 := ⟨k - 1, by omega⟩
  simp only [trivetref04_Months.l0]
  rw [if_neg (by omega)]
  have u := trivetref04_Months.down d (by omega) (-n).toNat (M.mt y m) (by omega) (by omega) k (by omega)
  rw [ey, em, Int.toNat_of_nonneg (show 0 ≤ -n by omega), show M.mt y m - -n = M.mt y m + n by omega, Int.neg_neg] at u
  exact u
def trivetref04_Months_s.f (y m d n : Int) : Option (Int × Int × Int × Bool) :=
 if 1900 ≤ y ∧ y ≤ 2199 ∧ 1 ≤ m ∧ m ≤ 12 ∧ 1 ≤ d ∧ d ≤ 31 then some (if -3600 ≤ n ∧ n ≤ 3600 ∧ M.inYears (M.mt y m + n) then ((M.mt y m + n) / 12, (M.mt y m + n) % 12 + 1, M.cut d (M.len (M.mt y m + n)), true) else (0, 0, 0, false)) else none
theorem trivetref04_Months_s.calls (a0_0 : Int) (a0_1 : Int) (a0_2 : Int) (a1 : Int) (r1 : Int) (r2 : Int) (r3 : Int) (r4 : Bool) (w : World) (h : trivetref04_Months_s.f a0_0 a0_1 a0_2 a1 = some (r1, r2, r3, r4)) :
  Calls Try.prog 13 #[.agg #[.int .i64 a0_0, .int .i64 a0_1, .int .i64 a0_2], .int .i64 a1] w fun e w' => e = .returned (.tuple #[.agg #[.int .i64 r1, .int .i64 r2, .int .i64 r3], .bool r4]) ∧ Below w.heap.size w w' := by
 unfold trivetref04_Months_s.f at h
 split at h
 ·rename_i hr
  exact trivetref04_Months.calls (3700) a0_0 a0_1 a0_2 a1 r1 r2 r3 r4 w ((trivetref04_Months.tells a0_0 a0_1 a0_2 a1 hr (3700) (Nat.le_refl _)).trans h)
 ·cases h
theorem trivetref04_Months_s.yes {y m d n : Int} (h : M.date y m d) (hn : -3600 ≤ n ∧ n ≤ 3600 ∧ M.inYears (M.mt y m + n)) : trivetref04_Months_s.f y m d n = some ((M.mt y m + n) / 12, (M.mt y m + n) % 12 + 1, M.cut d (M.len (M.mt y m + n)), true) := by have a := M.date_in h; unfold trivetref04_Months_s.f; rw [if_pos (show 1900 ≤ y ∧ y ≤ 2199 ∧ 1 ≤ m ∧ m ≤ 12 ∧ 1 ≤ d ∧ d ≤ 31 by omega), if_pos hn]
theorem trivetref04_Months_s.no {y m d n : Int} (h : M.date y m d) (hn : ¬ (-3600 ≤ n ∧ n ≤ 3600 ∧ M.inYears (M.mt y m + n))) : trivetref04_Months_s.f y m d n = some (0, 0, 0, false) := by have a := M.date_in h; unfold trivetref04_Months_s.f; rw [if_pos (show 1900 ≤ y ∧ y ≤ 2199 ∧ 1 ≤ m ∧ m ≤ 12 ∧ 1 ≤ d ∧ d ≤ 31 by omega), if_neg hn]

end Go.Proofs.Ytmkfbaoglmmhjaa.P
