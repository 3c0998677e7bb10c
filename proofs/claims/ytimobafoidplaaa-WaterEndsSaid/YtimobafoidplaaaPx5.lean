-- Written by a program of this session out of the translation of the seat: Lean functions and the proofs that the Go functions come to them.
import Derived.Test.YtimobafoidplaaaPx0
import Derived.Test.YtimobafoidplaaaPx2
import Derived.Test.YtimobafoidplaaaPx4
namespace Go.Proofs.Ytimobafoidplaaa.P
open Go.RowKit Go.Proofs.YtimobafoidplaaaW.PrintWords Go.Proofs.YtimobafoidplaaaW.PrintLast Go.Proofs.YtimobafoidplaaaW.PrintMore
attribute [local go_sem] max2_int min2_int max_two min_two max_three min_three max_four min_four   -- for this text's walks alone
set_option linter.unusedVariables false
set_option linter.unusedSimpArgs false

/-! ### water_Check: function 27 -/
def water_Check.f (a0_0 : Int) (a0_1 : Int) (a0_2 : Int) (a0_3 : Int) (a0_4 : Int) (a0_5 : Int) (a0_6 : Int) (a0_7 : Int) (a0_8 : Int) (a0_9 : Int) (a0_10 : Int) (a0_11 : Int) (a0_12 : Int) (a0_13 : Int) (a0_14 : Int) : Option (Option Int) := (date_Of_s.f a0_11).bind fun bt131 => (if bt131.2.2.2.isNone = true then (if bt131.2.2.1 = 1 then ((terms_Check_s.f a0_0 a0_1 a0_2 a0_3 a0_4 a0_5 a0_6 a0_7 a0_8).bind fun t137 => (if t137.isNone = true then ((water_cents_s.f a0_9).bind fun t139 => (if t139 = true then (if a0_10 < 1 then (some (some 1)) else (if a0_10 > 20000000000000 then (some (some 1)) else (if a0_12 < 0 then (some (some 1)) else (if a0_12 > 480 then (some (some 1)) else ((water_cents_s.f a0_13).bind fun t140 => (if t140 = true then ((water_cents_s.f a0_14).bind fun t141 => (if t141 = true then (some none) else (some (some 1)))) else (some (some 1)))))))) else (some (some 1)))) else (some (some 1)))) else (some (some 1))) else (some (some 1)))
set_option maxHeartbeats 8000000 in
set_option maxRecDepth 100000 in
theorem water_Check.calls (a0_0 : Int) (a0_1 : Int) (a0_2 : Int) (a0_3 : Int) (a0_4 : Int) (a0_5 : Int) (a0_6 : Int) (a0_7 : Int) (a0_8 : Int) (a0_9 : Int) (a0_10 : Int) (a0_11 : Int) (a0_12 : Int) (a0_13 : Int) (a0_14 : Int) (r : Option Int) (w : World) (h : water_Check.f a0_0 a0_1 a0_2 a0_3 a0_4 a0_5 a0_6 a0_7 a0_8 a0_9 a0_10 a0_11 a0_12 a0_13 a0_14 = some r) :
  Calls Try.prog 27 #[.agg #[.int .i64 a0_0, .int .i64 a0_1, .int .i64 a0_2, .int .i64 a0_3, .int .i64 a0_4, .int .i64 a0_5, .int .i64 a0_6, .int .i64 a0_7, .int .i64 a0_8, .int .i64 a0_9, .int .i64 a0_10, .int .i64 a0_11, .int .i64 a0_12, .int .i64 a0_13, .int .i64 a0_14]] w fun e w' => e = .returned (errW r) ∧ Below w.heap.size w w' := by
 have hu25 := Try.underlying25
 have hu53 := Try.underlying53
 have hu23 := Try.underlying23
 have hu30 := Try.underlying30
 have hu34 := Try.underlying34
 have HB := ka (Below.refl w.heap.size w)
 have H : ((date_Of_s.f a0_11).bind fun bt131 => (if bt131.2.2.2.isNone = true then (if bt131.2.2.1 = 1 then ((terms_Check_s.f a0_0 a0_1 a0_2 a0_3 a0_4 a0_5 a0_6 a0_7 a0_8).bind fun t137 => (if t137.isNone = true then ((water_cents_s.f a0_9).bind fun t139 => (if t139 = true then (if a0_10 < 1 then (some (some 1)) else (if a0_10 > 20000000000000 then (some (some 1)) else (if a0_12 < 0 then (some (some 1)) else (if a0_12 > 480 then (some (some 1)) else ((water_cents_s.f a0_13).bind fun t140 => (if t140 = true then ((water_cents_s.f a0_14).bind fun t141 => (if t141 = true then (some none) else (some (some 1)))) else (some (some 1)))))))) else (some (some 1)))) else (some (some 1)))) else (some (some 1))) else (some (some 1)))) = some r := h
 clear h
 replace H := Option.bind_eq_some_iff.mp H
 obtain ⟨⟨t131, t132, t133, t134⟩, A20, H⟩ := H
 replace H : (if t134.isNone = true then (if t133 = 1 then ((terms_Check_s.f a0_0 a0_1 a0_2 a0_3 a0_4 a0_5 a0_6 a0_7 a0_8).bind fun t137 => (if t137.isNone = true then ((water_cents_s.f a0_9).bind fun t139 => (if t139 = true then (if a0_10 < 1 then (some (some 1)) else (if a0_10 > 20000000000000 then (some (some 1)) else (if a0_12 < 0 then (some (some 1)) else (if a0_12 > 480 then (some (some 1)) else ((water_cents_s.f a0_13).bind fun t140 => (if t140 = true then ((water_cents_s.f a0_14).bind fun t141 => (if t141 = true then (some none) else (some (some 1)))) else (some (some 1)))))))) else (some (some 1)))) else (some (some 1)))) else (some (some 1))) else (some (some 1))) = some r := H
 have A2 := ka A20
 clear A20
 rcases t134 with _ | q136
 ·have H1 : (if t133 = 1 then ((terms_Check_s.f a0_0 a0_1 a0_2 a0_3 a0_4 a0_5 a0_6 a0_7 a0_8).bind fun t137 => (if t137.isNone = true then ((water_cents_s.f a0_9).bind fun t139 => (if t139 = true then (if a0_10 < 1 then (some (some 1)) else (if a0_10 > 20000000000000 then (some (some 1)) else (if a0_12 < 0 then (some (some 1)) else (if a0_12 > 480 then (some (some 1)) else ((water_cents_s.f a0_13).bind fun t140 => (if t140 = true then ((water_cents_s.f a0_14).bind fun t141 => (if t141 = true then (some none) else (some (some 1)))) else (some (some 1)))))))) else (some (some 1)))) else (some (some 1)))) else (some (some 1))) = some r := by rw [if_pos (show (none : Option Int).isNone = true by rfl)] at H; exact H
  clear H
  have H := H1
  clear H1
  try simp only [errW_none, errW_some]
  by_cases c3 : t133 = 1
  ·rw [if_pos c3] at H
   have c3b0 : (t133 == 1) = true := beq_iff_eq.mpr c3
   have c3b1 : (t133 != 1) = false := bne_eq_false_iff_eq.mpr c3
   clear c3
   replace H := Option.bind_eq_some_iff.mp H
   obtain ⟨t137, A40, H⟩ := H
   replace H : (if t137.isNone = true then ((water_cents_s.f a0_9).bind fun t139 => (if t139 = true then (if a0_10 < 1 then (some (some 1)) else (if a0_10 > 20000000000000 then (some (some 1)) else (if a0_12 < 0 then (some (some 1)) else (if a0_12 > 480 then (some (some 1)) else ((water_cents_s.f a0_13).bind fun t140 => (if t140 = true then ((water_cents_s.f a0_14).bind fun t141 => (if t141 = true then (some none) else (some (some 1)))) else (some (some 1)))))))) else (some (some 1)))) else (some (some 1))) = some r := H
   have A4 := ka A40
   clear A40
   rcases t137 with _ | q138
   ·have H1 : ((water_cents_s.f a0_9).bind fun t139 => (if t139 = true then (if a0_10 < 1 then (some (some 1)) else (if a0_10 > 20000000000000 then (some (some 1)) else (if a0_12 < 0 then (some (some 1)) else (if a0_12 > 480 then (some (some 1)) else ((water_cents_s.f a0_13).bind fun t140 => (if t140 = true then ((water_cents_s.f a0_14).bind fun t141 => (if t141 = true then (some none) else (some (some 1)))) else (some (some 1)))))))) else (some (some 1)))) = some r := by rw [if_pos (show (none : Option Int).isNone = true by rfl)] at H; exact H
    clear H
    have H := H1
    clear H1
    try simp only [errW_none, errW_some]
    replace H := Option.bind_eq_some_iff.mp H
    obtain ⟨t139, A50, H⟩ := H
    replace H : (if t139 = true then (if a0_10 < 1 then (some (some 1)) else (if a0_10 > 20000000000000 then (some (some 1)) else (if a0_12 < 0 then (some (some 1)) else (if a0_12 > 480 then (some (some 1)) else ((water_cents_s.f a0_13).bind fun t140 => (if t140 = true then ((water_cents_s.f a0_14).bind fun t141 => (if t141 = true then (some none) else (some (some 1)))) else (some (some 1)))))))) else (some (some 1))) = some r := H
    have A5 := ka A50
    clear A50
    by_cases c6 : t139 = true
    ·subst c6
     have H1 : (if a0_10 < 1 then (some (some 1)) else (if a0_10 > 20000000000000 then (some (some 1)) else (if a0_12 < 0 then (some (some 1)) else (if a0_12 > 480 then (some (some 1)) else ((water_cents_s.f a0_13).bind fun t140 => (if t140 = true then ((water_cents_s.f a0_14).bind fun t141 => (if t141 = true then (some none) else (some (some 1)))) else (some (some 1)))))))) = some r := by rw [if_pos rfl] at H; exact H
     clear H
     have H := H1
     clear H1
     by_cases c7 : a0_10 < 1
     ·rw [if_pos c7] at H
      have c7b0 : decide (a0_10 < 1) = true := decide_eq_true c7
      clear c7
      obtain rfl := Option.some.inj H
      go_enter Try.func27, Try.ntmps27
      go_wp2_with (first | ((with_reducible refine gate_dst (N := 1) rfl ?_); refine kx (N := 1) (cs := #[.int .i64 a0_0, .int .i64 a0_1, .int .i64 a0_2, .int .i64 a0_3, .int .i64 a0_4, .int .i64 a0_5, .int .i64 a0_6, .int .i64 a0_7, .int .i64 a0_8, .int .i64 a0_9, .int .i64 a0_10, .int .i64 a0_11, .int .i64 a0_12, .int .i64 a0_13, .int .i64 a0_14]) (t := 25) ?_; intro gb130 hg w8 hbox hb; have n0_ := ka (below_step (kw HB.out) hb); have n1_ := ka (hbox); have n2_ := ka ((by rw [hg]; exact (below_size (kw HB.out)) : w.heap.size ≤ gb130)); have n3_ := n2_; clear HB; have HB := n0_; have BK130 := n1_; have GW130 := n2_; have GE130 := n3_; clear n0_ n1_ n2_ n3_; clear hb hbox hg; have hcz9 := blkAll15 BK130.out) | ((with_reducible refine gate_callee (f := 35) rfl ?_); refine kg (some 8) rfl rfl Try.func35 (by kernel_rfl) rfl #[.int .i64 a0_11] rfl ?_; (with_reducible refine (date_Of_s.calls a0_11 t131 t132 t133 none _ A2.out).mono ?_); rintro e w10 ⟨rfl, hb⟩; refine ⟨_, rfl, ?_⟩; have n0_ := ka (blk_below (g := gb130) (kz BK130.out) hb); have n1_ := ka (below_step (kw HB.out) hb); clear BK130; clear HB; have BK130 := n0_; have HB := n1_; clear n0_ n1_; (try clear hb); (try clear hb2); (try clear hk); (try clear hi); (try simp only [errW_none, errW_some])) | ((with_reducible refine gate_dst (N := 3) rfl ?_); refine kx (N := 3) (cs := #[.int .i64 0, .int .i64 0, .int .i64 0]) (t := 53) ?_; intro gb135 hg w11 hbox hb; have n0_ := ka (blk_below (g := gb130) (kz BK130.out) hb); have n1_ := ka (below_step (kw HB.out) hb); have n2_ := ka (hbox); have n3_ := ka ((by rw [hg]; exact (below_size (kw HB.out)) : w.heap.size ≤ gb135)); have n4_ := n3_; have n5_ := ka ((by rw [hg]; exact Nat.ne_of_lt (blk_lt (g := gb130) (kz BK130.out)) : gb130 ≠ gb135)); have n6_ := ka n5_.out.symm; clear BK130; clear HB; have BK130 := n0_; have HB := n1_; have BK135 := n2_; have GW135 := n3_; have GE135 := n4_; have NB130_135 := n5_; have NB135_130 := n6_; clear n0_ n1_ n2_ n3_ n4_ n5_ n6_; clear hb hbox hg; have hnb12 := NB135_130.out; have hnc12 := NB130_135.out; have hcz13 := blkAll3 BK135.out; have hcz14 := blkAll15 BK130.out) | (go_at_call 41; (with_reducible refine (terms_Check_s.calls a0_0 a0_1 a0_2 a0_3 a0_4 a0_5 a0_6 a0_7 a0_8 none _ A4.out).mono ?_); rintro e w15 ⟨rfl, hb⟩; have n0_ := ka (blk_below (g := gb130) (o := .cells #[.int .i64 a0_0, .int .i64 a0_1, .int .i64 a0_2, .int .i64 a0_3, .int .i64 a0_4, .int .i64 a0_5, .int .i64 a0_6, .int .i64 a0_7, .int .i64 a0_8, .int .i64 a0_9, .int .i64 a0_10, .int .i64 a0_11, .int .i64 a0_12, .int .i64 a0_13, .int .i64 a0_14] 25 (0, 0)) (by (with_reducible repeat (first | apply kb1 | apply kb2 | apply kb3 | refine kb4 ?_ NB130_135.out _)); exact BK130.out) hb); have n1_ := ka (blk_below (g := gb135) (o := .cells #[.int .i64 t131, .int .i64 t132, .int .i64 t133] 53 (0, 0)) (by (with_reducible repeat (first | apply kb1 | apply kb2 | apply kb3 | apply blkPut3_2 | apply blkPut3_1 | apply blkPut3_0)); exact BK135.out) hb); have n2_ := ka (below_step (kw HB.out) hb); clear BK130; clear BK135; clear HB; have BK130 := n0_; have BK135 := n1_; have HB := n2_; clear n0_ n1_ n2_; (try clear hb); (try clear hb2); (try clear hk); (try clear hi); (try simp only [errW_none, errW_some]); have hcz16 := blkAll15 BK130.out) | (go_at_call 36; (with_reducible refine (water_cents_s.calls a0_9 true _ A5.out).mono ?_); rintro e w' ⟨rfl, ⟨nd, rfl⟩⟩))
      go_ret
      exact ⟨by first | rfl | (simp [errW_none, errW_some] <;> rfl) | (simp [*, errW_none, errW_some] <;> rfl), by repeat (first | (with_reducible first | exact HB.out | apply kc1 | apply kc2 | apply kc3 | refine kc4 ?_ GE130.out | refine kc4 ?_ GE135.out) | exact HB.out)⟩
     ·rw [if_neg c7] at H
      have c7b0 : decide (a0_10 < 1) = false := decide_eq_false c7
      clear c7
      by_cases c17 : a0_10 > 20000000000000
      ·rw [if_pos c17] at H
       have c17b0 : decide (20000000000000 < a0_10) = true := decide_eq_true c17
       clear c17
       obtain rfl := Option.some.inj H
       go_enter Try.func27, Try.ntmps27
       go_wp2_with (first | ((with_reducible refine gate_dst (N := 1) rfl ?_); refine kx (N := 1) (cs := #[.int .i64 a0_0, .int .i64 a0_1, .int .i64 a0_2, .int .i64 a0_3, .int .i64 a0_4, .int .i64 a0_5, .int .i64 a0_6, .int .i64 a0_7, .int .i64 a0_8, .int .i64 a0_9, .int .i64 a0_10, .int .i64 a0_11, .int .i64 a0_12, .int .i64 a0_13, .int .i64 a0_14]) (t := 25) ?_; intro gb130 hg w18 hbox hb; have n0_ := ka (below_step (kw HB.out) hb); have n1_ := ka (hbox); have n2_ := ka ((by rw [hg]; exact (below_size (kw HB.out)) : w.heap.size ≤ gb130)); have n3_ := n2_; clear HB; have HB := n0_; have BK130 := n1_; have GW130 := n2_; have GE130 := n3_; clear n0_ n1_ n2_ n3_; clear hb hbox hg; have hcz19 := blkAll15 BK130.out) | ((with_reducible refine gate_callee (f := 35) rfl ?_); refine kg (some 8) rfl rfl Try.func35 (by kernel_rfl) rfl #[.int .i64 a0_11] rfl ?_; (with_reducible refine (date_Of_s.calls a0_11 t131 t132 t133 none _ A2.out).mono ?_); rintro e w20 ⟨rfl, hb⟩; refine ⟨_, rfl, ?_⟩; have n0_ := ka (blk_below (g := gb130) (kz BK130.out) hb); have n1_ := ka (below_step (kw HB.out) hb); clear BK130; clear HB; have BK130 := n0_; have HB := n1_; clear n0_ n1_; (try clear hb); (try clear hb2); (try clear hk); (try clear hi); (try simp only [errW_none, errW_some])) | ((with_reducible refine gate_dst (N := 3) rfl ?_); refine kx (N := 3) (cs := #[.int .i64 0, .int .i64 0, .int .i64 0]) (t := 53) ?_; intro gb135 hg w21 hbox hb; have n0_ := ka (blk_below (g := gb130) (kz BK130.out) hb); have n1_ := ka (below_step (kw HB.out) hb); have n2_ := ka (hbox); have n3_ := ka ((by rw [hg]; exact (below_size (kw HB.out)) : w.heap.size ≤ gb135)); have n4_ := n3_; have n5_ := ka ((by rw [hg]; exact Nat.ne_of_lt (blk_lt (g := gb130) (kz BK130.out)) : gb130 ≠ gb135)); have n6_ := ka n5_.out.symm; clear BK130; clear HB; have BK130 := n0_; have HB := n1_; have BK135 := n2_; have GW135 := n3_; have GE135 := n4_; have NB130_135 := n5_; have NB135_130 := n6_; clear n0_ n1_ n2_ n3_ n4_ n5_ n6_; clear hb hbox hg; have hnb22 := NB135_130.out; have hnc22 := NB130_135.out; have hcz23 := blkAll3 BK135.out; have hcz24 := blkAll15 BK130.out) | (go_at_call 41; (with_reducible refine (terms_Check_s.calls a0_0 a0_1 a0_2 a0_3 a0_4 a0_5 a0_6 a0_7 a0_8 none _ A4.out).mono ?_); rintro e w25 ⟨rfl, hb⟩; have n0_ := ka (blk_below (g := gb130) (o := .cells #[.int .i64 a0_0, .int .i64 a0_1, .int .i64 a0_2, .int .i64 a0_3, .int .i64 a0_4, .int .i64 a0_5, .int .i64 a0_6, .int .i64 a0_7, .int .i64 a0_8, .int .i64 a0_9, .int .i64 a0_10, .int .i64 a0_11, .int .i64 a0_12, .int .i64 a0_13, .int .i64 a0_14] 25 (0, 0)) (by (with_reducible repeat (first | apply kb1 | apply kb2 | apply kb3 | refine kb4 ?_ NB130_135.out _)); exact BK130.out) hb); have n1_ := ka (blk_below (g := gb135) (o := .cells #[.int .i64 t131, .int .i64 t132, .int .i64 t133] 53 (0, 0)) (by (with_reducible repeat (first | apply kb1 | apply kb2 | apply kb3 | apply blkPut3_2 | apply blkPut3_1 | apply blkPut3_0)); exact BK135.out) hb); have n2_ := ka (below_step (kw HB.out) hb); clear BK130; clear BK135; clear HB; have BK130 := n0_; have BK135 := n1_; have HB := n2_; clear n0_ n1_ n2_; (try clear hb); (try clear hb2); (try clear hk); (try clear hi); (try simp only [errW_none, errW_some]); have hcz26 := blkAll15 BK130.out) | (go_at_call 36; (with_reducible refine (water_cents_s.calls a0_9 true _ A5.out).mono ?_); rintro e w' ⟨rfl, ⟨nd, rfl⟩⟩))
       go_ret
       exact ⟨by first | rfl | (simp [errW_none, errW_some] <;> rfl) | (simp [*, errW_none, errW_some] <;> rfl), by repeat (first | (with_reducible first | exact HB.out | apply kc1 | apply kc2 | apply kc3 | refine kc4 ?_ GE130.out | refine kc4 ?_ GE135.out) | exact HB.out)⟩
      ·rw [if_neg c17] at H
       have c17b0 : decide (20000000000000 < a0_10) = false := decide_eq_false c17
       clear c17
       by_cases c27 : a0_12 < 0
       ·rw [if_pos c27] at H
        have c27b0 : decide (a0_12 < 0) = true := decide_eq_true c27
        clear c27
        obtain rfl := Option.some.inj H
        go_enter Try.func27, Try.ntmps27
        go_wp2_with (first | ((with_reducible refine gate_dst (N := 1) rfl ?_); refine kx (N := 1) (cs := #[.int .i64 a0_0, .int .i64 a0_1, .int .i64 a0_2, .int .i64 a0_3, .int .i64 a0_4, .int .i64 a0_5, .int .i64 a0_6, .int .i64 a0_7, .int .i64 a0_8, .int .i64 a0_9, .int .i64 a0_10, .int .i64 a0_11, .int .i64 a0_12, .int .i64 a0_13, .int .i64 a0_14]) (t := 25) ?_; intro gb130 hg w28 hbox hb; have n0_ := ka (below_step (kw HB.out) hb); have n1_ := ka (hbox); have n2_ := ka ((by rw [hg]; exact (below_size (kw HB.out)) : w.heap.size ≤ gb130)); have n3_ := n2_; clear HB; have HB := n0_; have BK130 := n1_; have GW130 := n2_; have GE130 := n3_; clear n0_ n1_ n2_ n3_; clear hb hbox hg; have hcz29 := blkAll15 BK130.out) | ((with_reducible refine gate_callee (f := 35) rfl ?_); refine kg (some 8) rfl rfl Try.func35 (by kernel_rfl) rfl #[.int .i64 a0_11] rfl ?_; (with_reducible refine (date_Of_s.calls a0_11 t131 t132 t133 none _ A2.out).mono ?_); rintro e w30 ⟨rfl, hb⟩; refine ⟨_, rfl, ?_⟩; have n0_ := ka (blk_below (g := gb130) (kz BK130.out) hb); have n1_ := ka (below_step (kw HB.out) hb); clear BK130; clear HB; have BK130 := n0_; have HB := n1_; clear n0_ n1_; (try clear hb); (try clear hb2); (try clear hk); (try clear hi); (try simp only [errW_none, errW_some])) | ((with_reducible refine gate_dst (N := 3) rfl ?_); refine kx (N := 3) (cs := #[.int .i64 0, .int .i64 0, .int .i64 0]) (t := 53) ?_; intro gb135 hg w31 hbox hb; have n0_ := ka (blk_below (g := gb130) (kz BK130.out) hb); have n1_ := ka (below_step (kw HB.out) hb); have n2_ := ka (hbox); have n3_ := ka ((by rw [hg]; exact (below_size (kw HB.out)) : w.heap.size ≤ gb135)); have n4_ := n3_; have n5_ := ka ((by rw [hg]; exact Nat.ne_of_lt (blk_lt (g := gb130) (kz BK130.out)) : gb130 ≠ gb135)); have n6_ := ka n5_.out.symm; clear BK130; clear HB; have BK130 := n0_; have HB := n1_; have BK135 := n2_; have GW135 := n3_; have GE135 := n4_; have NB130_135 := n5_; have NB135_130 := n6_; clear n0_ n1_ n2_ n3_ n4_ n5_ n6_; clear hb hbox hg; have hnb32 := NB135_130.out; have hnc32 := NB130_135.out; have hcz33 := blkAll3 BK135.out; have hcz34 := blkAll15 BK130.out) | (go_at_call 41; (with_reducible refine (terms_Check_s.calls a0_0 a0_1 a0_2 a0_3 a0_4 a0_5 a0_6 a0_7 a0_8 none _ A4.out).mono ?_); rintro e w35 ⟨rfl, hb⟩; have n0_ := ka (blk_below (g := gb130) (o := .cells #[.int .i64 a0_0, .int .i64 a0_1, .int .i64 a0_2, .int .i64 a0_3, .int .i64 a0_4, .int .i64 a0_5, .int .i64 a0_6, .int .i64 a0_7, .int .i64 a0_8, .int .i64 a0_9, .int .i64 a0_10, .int .i64 a0_11, .int .i64 a0_12, .int .i64 a0_13, .int .i64 a0_14] 25 (0, 0)) (by (with_reducible repeat (first | apply kb1 | apply kb2 | apply kb3 | refine kb4 ?_ NB130_135.out _)); exact BK130.out) hb); have n1_ := ka (blk_below (g := gb135) (o := .cells #[.int .i64 t131, .int .i64 t132, .int .i64 t133] 53 (0, 0)) (by (with_reducible repeat (first | apply kb1 | apply kb2 | apply kb3 | apply blkPut3_2 | apply blkPut3_1 | apply blkPut3_0)); exact BK135.out) hb); have n2_ := ka (below_step (kw HB.out) hb); clear BK130; clear BK135; clear HB; have BK130 := n0_; have BK135 := n1_; have HB := n2_; clear n0_ n1_ n2_; (try clear hb); (try clear hb2); (try clear hk); (try clear hi); (try simp only [errW_none, errW_some]); have hcz36 := blkAll15 BK130.out) | (go_at_call 36; (with_reducible refine (water_cents_s.calls a0_9 true _ A5.out).mono ?_); rintro e w' ⟨rfl, ⟨nd, rfl⟩⟩))
        go_ret
        exact ⟨by first | rfl | (simp [errW_none, errW_some] <;> rfl) | (simp [*, errW_none, errW_some] <;> rfl), by repeat (first | (with_reducible first | exact HB.out | apply kc1 | apply kc2 | apply kc3 | refine kc4 ?_ GE130.out | refine kc4 ?_ GE135.out) | exact HB.out)⟩
       ·rw [if_neg c27] at H
        have c27b0 : decide (a0_12 < 0) = false := decide_eq_false c27
        clear c27
        by_cases c37 : a0_12 > 480
        ·rw [if_pos c37] at H
         have c37b0 : decide (480 < a0_12) = true := decide_eq_true c37
         clear c37
         obtain rfl := Option.some.inj H
         go_enter Try.func27, Try.ntmps27
         go_wp2_with (first | ((with_reducible refine gate_dst (N := 1) rfl ?_); refine kx (N := 1) (cs := #[.int .i64 a0_0, .int .i64 a0_1, .int .i64 a0_2, .int .i64 a0_3, .int .i64 a0_4, .int .i64 a0_5, .int .i64 a0_6, .int .i64 a0_7, .int .i64 a0_8, .int .i64 a0_9, .int .i64 a0_10, .int .i64 a0_11, .int .i64 a0_12, .int .i64 a0_13, .int .i64 a0_14]) (t := 25) ?_; intro gb130 hg w38 hbox hb; have n0_ := ka (below_step (kw HB.out) hb); have n1_ := ka (hbox); have n2_ := ka ((by rw [hg]; exact (below_size (kw HB.out)) : w.heap.size ≤ gb130)); have n3_ := n2_; clear HB; have HB := n0_; have BK130 := n1_; have GW130 := n2_; have GE130 := n3_; clear n0_ n1_ n2_ n3_; clear hb hbox hg; have hcz39 := blkAll15 BK130.out) | ((with_reducible refine gate_callee (f := 35) rfl ?_); refine kg (some 8) rfl rfl Try.func35 (by kernel_rfl) rfl #[.int .i64 a0_11] rfl ?_; (with_reducible refine (date_Of_s.calls a0_11 t131 t132 t133 none _ A2.out).mono ?_); rintro e w40 ⟨rfl, hb⟩; refine ⟨_, rfl, ?_⟩; have n0_ := ka (blk_below (g := gb130) (kz BK130.out) hb); have n1_ := ka (below_step (kw HB.out) hb); clear BK130; clear HB; have BK130 := n0_; have HB := n1_; clear n0_ n1_; (try clear hb); (try clear hb2); (try clear hk); (try clear hi); (try simp only [errW_none, errW_some])) | ((with_reducible refine gate_dst (N := 3) rfl ?_); refine kx (N := 3) (cs := #[.int .i64 0, .int .i64 0, .int .i64 0]) (t := 53) ?_; intro gb135 hg w41 hbox hb; have n0_ := ka (blk_below (g := gb130) (kz BK130.out) hb); have n1_ := ka (below_step (kw HB.out) hb); have n2_ := ka (hbox); have n3_ := ka ((by rw [hg]; exact (below_size (kw HB.out)) : w.heap.size ≤ gb135)); have n4_ := n3_; have n5_ := ka ((by rw [hg]; exact Nat.ne_of_lt (blk_lt (g := gb130) (kz BK130.out)) : gb130 ≠ gb135)); have n6_ := ka n5_.out.symm; clear BK130; clear HB; have BK130 := n0_; have HB := n1_; have BK135 := n2_; have GW135 := n3_; have GE135 := n4_; have NB130_135 := n5_; have NB135_130 := n6_; clear n0_ n1_ n2_ n3_ n4_ n5_ n6_; clear hb hbox hg; have hnb42 := NB135_130.out; have hnc42 := NB130_135.out; have hcz43 := blkAll3 BK135.out; have hcz44 := blkAll15 BK130.out) | (go_at_call 41; (with_reducible refine (terms_Check_s.calls a0_0 a0_1 a0_2 a0_3 a0_4 a0_5 a0_6 a0_7 a0_8 none _ A4.out).mono ?_); rintro e w45 ⟨rfl, hb⟩; have n0_ := ka (blk_below (g := gb130) (o := .cells #[.int .i64 a0_0, .int .i64 a0_1, .int .i64 a0_2, .int .i64 a0_3, .int .i64 a0_4, .int .i64 a0_5, .int .i64 a0_6, .int .i64 a0_7, .int .i64 a0_8, .int .i64 a0_9, .int .i64 a0_10, .int .i64 a0_11, .int .i64 a0_12, .int .i64 a0_13, .int .i64 a0_14] 25 (0, 0)) (by (with_reducible repeat (first | apply kb1 | apply kb2 | apply kb3 | refine kb4 ?_ NB130_135.out _)); exact BK130.out) hb); have n1_ := ka (blk_below (g := gb135) (o := .cells #[.int .i64 t131, .int .i64 t132, .int .i64 t133] 53 (0, 0)) (by (with_reducible repeat (first | apply kb1 | apply kb2 | apply kb3 | apply blkPut3_2 | apply blkPut3_1 | apply blkPut3_0)); exact BK135.out) hb); have n2_ := ka (below_step (kw HB.out) hb); clear BK130; clear BK135; clear HB; have BK130 := n0_; have BK135 := n1_; have HB := n2_; clear n0_ n1_ n2_; (try clear hb); (try clear hb2); (try clear hk); (try clear hi); (try simp only [errW_none, errW_some]); have hcz46 := blkAll15 BK130.out) | (go_at_call 36; (with_reducible refine (water_cents_s.calls a0_9 true _ A5.out).mono ?_); rintro e w' ⟨rfl, ⟨nd, rfl⟩⟩))
         go_ret
         exact ⟨by first | rfl | (simp [errW_none, errW_some] <;> rfl) | (simp [*, errW_none, errW_some] <;> rfl), by repeat (first | (with_reducible first | exact HB.out | apply kc1 | apply kc2 | apply kc3 | refine kc4 ?_ GE130.out | refine kc4 ?_ GE135.out) | exact HB.out)⟩
        ·rw [if_neg c37] at H
         have c37b0 : decide (480 < a0_12) = false := decide_eq_false c37
         clear c37
         replace H := Option.bind_eq_some_iff.mp H
         obtain ⟨t140, A470, H⟩ := H
         replace H : (if t140 = true then ((water_cents_s.f a0_14).bind fun t141 => (if t141 = true then (some none) else (some (some 1)))) else (some (some 1))) = some r := H
         have A47 := ka A470
         clear A470
         by_cases c48 : t140 = true
         ·subst c48
          have H1 : ((water_cents_s.f a0_14).bind fun t141 => (if t141 = true then (some none) else (some (some 1)))) = some r := by rw [if_pos rfl] at H; exact H
          clear H
          have H := H1
          clear H1
          replace H := Option.bind_eq_some_iff.mp H
          obtain ⟨t141, A490, H⟩ := H
          replace H : (if t141 = true then (some none) else (some (some 1))) = some r := H
          have A49 := ka A490
          clear A490
          by_cases c50 : t141 = true
          ·subst c50
           have H1 : (some none) = some r := by rw [if_pos rfl] at H; exact H
           clear H
           have H := H1
           clear H1
           obtain rfl := Option.some.inj H
           go_enter Try.func27, Try.ntmps27
           go_wp2_with (first | ((with_reducible refine gate_dst (N := 1) rfl ?_); refine kx (N := 1) (cs := #[.int .i64 a0_0, .int .i64 a0_1, .int .i64 a0_2, .int .i64 a0_3, .int .i64 a0_4, .int .i64 a0_5, .int .i64 a0_6, .int .i64 a0_7, .int .i64 a0_8, .int .i64 a0_9, .int .i64 a0_10, .int .i64 a0_11, .int .i64 a0_12, .int .i64 a0_13, .int .i64 a0_14]) (t := 25) ?_; intro gb130 hg w51 hbox hb; have n0_ := ka (below_step (kw HB.out) hb); have n1_ := ka (hbox); have n2_ := ka ((by rw [hg]; exact (below_size (kw HB.out)) : w.heap.size ≤ gb130)); have n3_ := n2_; clear HB; have HB := n0_; have BK130 := n1_; have GW130 := n2_; have GE130 := n3_; clear n0_ n1_ n2_ n3_; clear hb hbox hg; have hcz52 := blkAll15 BK130.out) | ((with_reducible refine gate_callee (f := 35) rfl ?_); refine kg (some 8) rfl rfl Try.func35 (by kernel_rfl) rfl #[.int .i64 a0_11] rfl ?_; (with_reducible refine (date_Of_s.calls a0_11 t131 t132 t133 none _ A2.out).mono ?_); rintro e w53 ⟨rfl, hb⟩; refine ⟨_, rfl, ?_⟩; have n0_ := ka (blk_below (g := gb130) (kz BK130.out) hb); have n1_ := ka (below_step (kw HB.out) hb); clear BK130; clear HB; have BK130 := n0_; have HB := n1_; clear n0_ n1_; (try clear hb); (try clear hb2); (try clear hk); (try clear hi); (try simp only [errW_none, errW_some])) | ((with_reducible refine gate_dst (N := 3) rfl ?_); refine kx (N := 3) (cs := #[.int .i64 0, .int .i64 0, .int .i64 0]) (t := 53) ?_; intro gb135 hg w54 hbox hb; have n0_ := ka (blk_below (g := gb130) (kz BK130.out) hb); have n1_ := ka (below_step (kw HB.out) hb); have n2_ := ka (hbox); have n3_ := ka ((by rw [hg]; exact (below_size (kw HB.out)) : w.heap.size ≤ gb135)); have n4_ := n3_; have n5_ := ka ((by rw [hg]; exact Nat.ne_of_lt (blk_lt (g := gb130) (kz BK130.out)) : gb130 ≠ gb135)); have n6_ := ka n5_.out.symm; clear BK130; clear HB; have BK130 := n0_; have HB := n1_; have BK135 := n2_; have GW135 := n3_; have GE135 := n4_; have NB130_135 := n5_; have NB135_130 := n6_; clear n0_ n1_ n2_ n3_ n4_ n5_ n6_; clear hb hbox hg; have hnb55 := NB135_130.out; have hnc55 := NB130_135.out; have hcz56 := blkAll3 BK135.out; have hcz57 := blkAll15 BK130.out) | (go_at_call 41; (with_reducible refine (terms_Check_s.calls a0_0 a0_1 a0_2 a0_3 a0_4 a0_5 a0_6 a0_7 a0_8 none _ A4.out).mono ?_); rintro e w58 ⟨rfl, hb⟩; have n0_ := ka (blk_below (g := gb130) (o := .cells #[.int .i64 a0_0, .int .i64 a0_1, .int .i64 a0_2, .int .i64 a0_3, .int .i64 a0_4, .int .i64 a0_5, .int .i64 a0_6, .int .i64 a0_7, .int .i64 a0_8, .int .i64 a0_9, .int .i64 a0_10, .int .i64 a0_11, .int .i64 a0_12, .int .i64 a0_13, .int .i64 a0_14] 25 (0, 0)) (by (with_reducible repeat (first | apply kb1 | apply kb2 | apply kb3 | refine kb4 ?_ NB130_135.out _)); exact BK130.out) hb); have n1_ := ka (blk_below (g := gb135) (o := .cells #[.int .i64 t131, .int .i64 t132, .int .i64 t133] 53 (0, 0)) (by (with_reducible repeat (first | apply kb1 | apply kb2 | apply kb3 | apply blkPut3_2 | apply blkPut3_1 | apply blkPut3_0)); exact BK135.out) hb); have n2_ := ka (below_step (kw HB.out) hb); clear BK130; clear BK135; clear HB; have BK130 := n0_; have BK135 := n1_; have HB := n2_; clear n0_ n1_ n2_; (try clear hb); (try clear hb2); (try clear hk); (try clear hi); (try simp only [errW_none, errW_some]); have hcz59 := blkAll15 BK130.out) | (go_at_call 36; (with_reducible refine (water_cents_s.calls a0_9 true _ A5.out).mono ?_); rintro e w' ⟨rfl, ⟨nd, rfl⟩⟩) | (go_at_call 36; (with_reducible refine (water_cents_s.calls a0_13 true _ A47.out).mono ?_); rintro e w' ⟨rfl, ⟨nd, rfl⟩⟩) | (go_at_call 36; (with_reducible refine (water_cents_s.calls a0_14 true _ A49.out).mono ?_); rintro e w' ⟨rfl, ⟨nd, rfl⟩⟩))
           go_ret
           exact ⟨by first | rfl | (simp [errW_none, errW_some] <;> rfl) | (simp [*, errW_none, errW_some] <;> rfl), by repeat (first | (with_reducible first | exact HB.out | apply kc1 | apply kc2 | apply kc3 | refine kc4 ?_ GE130.out | refine kc4 ?_ GE135.out) | exact HB.out)⟩
          ·replace c50 := Bool.eq_false_iff.mpr c50
           subst c50
           have H1 : (some (some 1)) = some r := by rw [if_neg (show ¬ (false = true) by decide)] at H; exact H
           clear H
           have H := H1
           clear H1
           obtain rfl := Option.some.inj H
           go_enter Try.func27, Try.ntmps27
           go_wp2_with (first | ((with_reducible refine gate_dst (N := 1) rfl ?_); refine kx (N := 1) (cs := #[.int .i64 a0_0, .int .i64 a0_1, .int .i64 a0_2, .int .i64 a0_3, .int .i64 a0_4, .int .i64 a0_5, .int .i64 a0_6, .int .i64 a0_7, .int .i64 a0_8, .int .i64 a0_9, .int .i64 a0_10, .int .i64 a0_11, .int .i64 a0_12, .int .i64 a0_13, .int .i64 a0_14]) (t := 25) ?_; intro gb130 hg w60 hbox hb; have n0_ := ka (below_step (kw HB.out) hb); have n1_ := ka (hbox); have n2_ := ka ((by rw [hg]; exact (below_size (kw HB.out)) : w.heap.size ≤ gb130)); have n3_ := n2_; clear HB; have HB := n0_; have BK130 := n1_; have GW130 := n2_; have GE130 := n3_; clear n0_ n1_ n2_ n3_; clear hb hbox hg; have hcz61 := blkAll15 BK130.out) | ((with_reducible refine gate_callee (f := 35) rfl ?_); refine kg (some 8) rfl rfl Try.func35 (by kernel_rfl) rfl #[.int .i64 a0_11] rfl ?_; (with_reducible refine (date_Of_s.calls a0_11 t131 t132 t133 none _ A2.out).mono ?_); rintro e w62 ⟨rfl, hb⟩; refine ⟨_, rfl, ?_⟩; have n0_ := ka (blk_below (g := gb130) (kz BK130.out) hb); have n1_ := ka (below_step (kw HB.out) hb); clear BK130; clear HB; have BK130 := n0_; have HB := n1_; clear n0_ n1_; (try clear hb); (try clear hb2); (try clear hk); (try clear hi); (try simp only [errW_none, errW_some])) | ((with_reducible refine gate_dst (N := 3) rfl ?_); refine kx (N := 3) (cs := #[.int .i64 0, .int .i64 0, .int .i64 0]) (t := 53) ?_; intro gb135 hg w63 hbox hb; have n0_ := ka (blk_below (g := gb130) (kz BK130.out) hb); have n1_ := ka (below_step (kw HB.out) hb); have n2_ := ka (hbox); have n3_ := ka ((by rw [hg]; exact (below_size (kw HB.out)) : w.heap.size ≤ gb135)); have n4_ := n3_; have n5_ := ka ((by rw [hg]; exact Nat.ne_of_lt (blk_lt (g := gb130) (kz BK130.out)) : gb130 ≠ gb135)); have n6_ := ka n5_.out.symm; clear BK130; clear HB; have BK130 := n0_; have HB := n1_; have BK135 := n2_; have GW135 := n3_; have GE135 := n4_; have NB130_135 := n5_; have NB135_130 := n6_; clear n0_ n1_ n2_ n3_ n4_ n5_ n6_; clear hb hbox hg; have hnb64 := NB135_130.out; have hnc64 := NB130_135.out; have hcz65 := blkAll3 BK135.out; have hcz66 := blkAll15 BK130.out) | (go_at_call 41; (with_reducible refine (terms_Check_s.calls a0_0 a0_1 a0_2 a0_3 a0_4 a0_5 a0_6 a0_7 a0_8 none _ A4.out).mono ?_); rintro e w67 ⟨rfl, hb⟩; have n0_ := ka (blk_below (g := gb130) (o := .cells #[.int .i64 a0_0, .int .i64 a0_1, .int .i64 a0_2, .int .i64 a0_3, .int .i64 a0_4, .int .i64 a0_5, .int .i64 a0_6, .int .i64 a0_7, .int .i64 a0_8, .int .i64 a0_9, .int .i64 a0_10, .int .i64 a0_11, .int .i64 a0_12, .int .i64 a0_13, .int .i64 a0_14] 25 (0, 0)) (by (with_reducible repeat (first | apply kb1 | apply kb2 | apply kb3 | refine kb4 ?_ NB130_135.out _)); exact BK130.out) hb); have n1_ := ka (blk_below (g := gb135) (o := .cells #[.int .i64 t131, .int .i64 t132, .int .i64 t133] 53 (0, 0)) (by (with_reducible repeat (first | apply kb1 | apply kb2 | apply kb3 | apply blkPut3_2 | apply blkPut3_1 | apply blkPut3_0)); exact BK135.out) hb); have n2_ := ka (below_step (kw HB.out) hb); clear BK130; clear BK135; clear HB; have BK130 := n0_; have BK135 := n1_; have HB := n2_; clear n0_ n1_ n2_; (try clear hb); (try clear hb2); (try clear hk); (try clear hi); (try simp only [errW_none, errW_some]); have hcz68 := blkAll15 BK130.out) | (go_at_call 36; (with_reducible refine (water_cents_s.calls a0_9 true _ A5.out).mono ?_); rintro e w' ⟨rfl, ⟨nd, rfl⟩⟩) | (go_at_call 36; (with_reducible refine (water_cents_s.calls a0_13 true _ A47.out).mono ?_); rintro e w' ⟨rfl, ⟨nd, rfl⟩⟩) | (go_at_call 36; (with_reducible refine (water_cents_s.calls a0_14 false _ A49.out).mono ?_); rintro e w' ⟨rfl, ⟨nd, rfl⟩⟩))
           go_ret
           exact ⟨by first | rfl | (simp [errW_none, errW_some] <;> rfl) | (simp [*, errW_none, errW_some] <;> rfl), by repeat (first | (with_reducible first | exact HB.out | apply kc1 | apply kc2 | apply kc3 | refine kc4 ?_ GE130.out | refine kc4 ?_ GE135.out) | exact HB.out)⟩
         ·replace c48 := Bool.eq_false_iff.mpr c48
          subst c48
          have H1 : (some (some 1)) = some r := by rw [if_neg (show ¬ (false = true) by decide)] at H; exact H
          clear H
          have H := H1
          clear H1
          obtain rfl := Option.some.inj H
          go_enter Try.func27, Try.ntmps27
          go_wp2_with (first | ((with_reducible refine gate_dst (N := 1) rfl ?_); refine kx (N := 1) (cs := #[.int .i64 a0_0, .int .i64 a0_1, .int .i64 a0_2, .int .i64 a0_3, .int .i64 a0_4, .int .i64 a0_5, .int .i64 a0_6, .int .i64 a0_7, .int .i64 a0_8, .int .i64 a0_9, .int .i64 a0_10, .int .i64 a0_11, .int .i64 a0_12, .int .i64 a0_13, .int .i64 a0_14]) (t := 25) ?_; intro gb130 hg w69 hbox hb; have n0_ := ka (below_step (kw HB.out) hb); have n1_ := ka (hbox); have n2_ := ka ((by rw [hg]; exact (below_size (kw HB.out)) : w.heap.size ≤ gb130)); have n3_ := n2_; clear HB; have HB := n0_; have BK130 := n1_; have GW130 := n2_; have GE130 := n3_; clear n0_ n1_ n2_ n3_; clear hb hbox hg; have hcz70 := blkAll15 BK130.out) | ((with_reducible refine gate_callee (f := 35) rfl ?_); refine kg (some 8) rfl rfl Try.func35 (by kernel_rfl) rfl #[.int .i64 a0_11] rfl ?_; (with_reducible refine (date_Of_s.calls a0_11 t131 t132 t133 none _ A2.out).mono ?_); rintro e w71 ⟨rfl, hb⟩; refine ⟨_, rfl, ?_⟩; have n0_ := ka (blk_below (g := gb130) (kz BK130.out) hb); have n1_ := ka (below_step (kw HB.out) hb); clear BK130; clear HB; have BK130 := n0_; have HB := n1_; clear n0_ n1_; (try clear hb); (try clear hb2); (try clear hk); (try clear hi); (try simp only [errW_none, errW_some])) | ((with_reducible refine gate_dst (N := 3) rfl ?_); refine kx (N := 3) (cs := #[.int .i64 0, .int .i64 0, .int .i64 0]) (t := 53) ?_; intro gb135 hg w72 hbox hb; have n0_ := ka (blk_below (g := gb130) (kz BK130.out) hb); have n1_ := ka (below_step (kw HB.out) hb); have n2_ := ka (hbox); have n3_ := ka ((by rw [hg]; exact (below_size (kw HB.out)) : w.heap.size ≤ gb135)); have n4_ := n3_; have n5_ := ka ((by rw [hg]; exact Nat.ne_of_lt (blk_lt (g := gb130) (kz BK130.out)) : gb130 ≠ gb135)); have n6_ := ka n5_.out.symm; clear BK130; clear HB; have BK130 := n0_; have HB := n1_; have BK135 := n2_; have GW135 := n3_; have GE135 := n4_; have NB130_135 := n5_; have NB135_130 := n6_; clear n0_ n1_ n2_ n3_ n4_ n5_ n6_; clear hb hbox hg; have hnb73 := NB135_130.out; have hnc73 := NB130_135.out; have hcz74 := blkAll3 BK135.out; have hcz75 := blkAll15 BK130.out) | (go_at_call 41; (with_reducible refine (terms_Check_s.calls a0_0 a0_1 a0_2 a0_3 a0_4 a0_5 a0_6 a0_7 a0_8 none _ A4.out).mono ?_); rintro e w76 ⟨rfl, hb⟩; have n0_ := ka (blk_below (g := gb130) (o := .cells #[.int .i64 a0_0, .int .i64 a0_1, .int .i64 a0_2, .int .i64 a0_3, .int .i64 a0_4, .int .i64 a0_5, .int .i64 a0_6, .int .i64 a0_7, .int .i64 a0_8, .int .i64 a0_9, .int .i64 a0_10, .int .i64 a0_11, .int .i64 a0_12, .int .i64 a0_13, .int .i64 a0_14] 25 (0, 0)) (by (with_reducible repeat (first | apply kb1 | apply kb2 | apply kb3 | refine kb4 ?_ NB130_135.out _)); exact BK130.out) hb); have n1_ := ka (blk_below (g := gb135) (o := .cells #[.int .i64 t131, .int .i64 t132, .int .i64 t133] 53 (0, 0)) (by (with_reducible repeat (first | apply kb1 | apply kb2 | apply kb3 | apply blkPut3_2 | apply blkPut3_1 | apply blkPut3_0)); exact BK135.out) hb); have n2_ := ka (below_step (kw HB.out) hb); clear BK130; clear BK135; clear HB; have BK130 := n0_; have BK135 := n1_; have HB := n2_; clear n0_ n1_ n2_; (try clear hb); (try clear hb2); (try clear hk); (try clear hi); (try simp only [errW_none, errW_some]); have hcz77 := blkAll15 BK130.out) | (go_at_call 36; (with_reducible refine (water_cents_s.calls a0_9 true _ A5.out).mono ?_); rintro e w' ⟨rfl, ⟨nd, rfl⟩⟩) | (go_at_call 36; (with_reducible refine (water_cents_s.calls a0_13 false _ A47.out).mono ?_); rintro e w' ⟨rfl, ⟨nd, rfl⟩⟩))
          go_ret
          exact ⟨by first | rfl | (simp [errW_none, errW_some] <;> rfl) | (simp [*, errW_none, errW_some] <;> rfl), by repeat (first | (with_reducible first | exact HB.out | apply kc1 | apply kc2 | apply kc3 | refine kc4 ?_ GE130.out | refine kc4 ?_ GE135.out) | exact HB.out)⟩
    ·replace c6 := Bool.eq_false_iff.mpr c6
     subst c6
     have H1 : (some (some 1)) = some r := by rw [if_neg (show ¬ (false = true) by decide)] at H; exact H
     clear H
     have H := H1
     clear H1
     obtain rfl := Option.some.inj H
     go_enter Try.func27, Try.ntmps27
     go_wp2_with (first | ((with_reducible refine gate_dst (N := 1) rfl ?_); refine kx (N := 1) (cs := #[.int .i64 a0_0, .int .i64 a0_1, .int .i64 a0_2, .int .i64 a0_3, .int .i64 a0_4, .int .i64 a0_5, .int .i64 a0_6, .int .i64 a0_7, .int .i64 a0_8, .int .i64 a0_9, .int .i64 a0_10, .int .i64 a0_11, .int .i64 a0_12, .int .i64 a0_13, .int .i64 a0_14]) (t := 25) ?_; intro gb130 hg w78 hbox hb; have n0_ := ka (below_step (kw HB.out) hb); have n1_ := ka (hbox); have n2_ := ka ((by rw [hg]; exact (below_size (kw HB.out)) : w.heap.size ≤ gb130)); have n3_ := n2_; clear HB; have HB := n0_; have BK130 := n1_; have GW130 := n2_; have GE130 := n3_; clear n0_ n1_ n2_ n3_; clear hb hbox hg; have hcz79 := blkAll15 BK130.out) | ((with_reducible refine gate_callee (f := 35) rfl ?_); refine kg (some 8) rfl rfl Try.func35 (by kernel_rfl) rfl #[.int .i64 a0_11] rfl ?_; (with_reducible refine (date_Of_s.calls a0_11 t131 t132 t133 none _ A2.out).mono ?_); rintro e w80 ⟨rfl, hb⟩; refine ⟨_, rfl, ?_⟩; have n0_ := ka (blk_below (g := gb130) (kz BK130.out) hb); have n1_ := ka (below_step (kw HB.out) hb); clear BK130; clear HB; have BK130 := n0_; have HB := n1_; clear n0_ n1_; (try clear hb); (try clear hb2); (try clear hk); (try clear hi); (try simp only [errW_none, errW_some])) | ((with_reducible refine gate_dst (N := 3) rfl ?_); refine kx (N := 3) (cs := #[.int .i64 0, .int .i64 0, .int .i64 0]) (t := 53) ?_; intro gb135 hg w81 hbox hb; have n0_ := ka (blk_below (g := gb130) (kz BK130.out) hb); have n1_ := ka (below_step (kw HB.out) hb); have n2_ := ka (hbox); have n3_ := ka ((by rw [hg]; exact (below_size (kw HB.out)) : w.heap.size ≤ gb135)); have n4_ := n3_; have n5_ := ka ((by rw [hg]; exact Nat.ne_of_lt (blk_lt (g := gb130) (kz BK130.out)) : gb130 ≠ gb135)); have n6_ := ka n5_.out.symm; clear BK130; clear HB; have BK130 := n0_; have HB := n1_; have BK135 := n2_; have GW135 := n3_; have GE135 := n4_; have NB130_135 := n5_; have NB135_130 := n6_; clear n0_ n1_ n2_ n3_ n4_ n5_ n6_; clear hb hbox hg; have hnb82 := NB135_130.out; have hnc82 := NB130_135.out; have hcz83 := blkAll3 BK135.out; have hcz84 := blkAll15 BK130.out) | (go_at_call 41; (with_reducible refine (terms_Check_s.calls a0_0 a0_1 a0_2 a0_3 a0_4 a0_5 a0_6 a0_7 a0_8 none _ A4.out).mono ?_); rintro e w85 ⟨rfl, hb⟩; have n0_ := ka (blk_below (g := gb130) (o := .cells #[.int .i64 a0_0, .int .i64 a0_1, .int .i64 a0_2, .int .i64 a0_3, .int .i64 a0_4, .int .i64 a0_5, .int .i64 a0_6, .int .i64 a0_7, .int .i64 a0_8, .int .i64 a0_9, .int .i64 a0_10, .int .i64 a0_11, .int .i64 a0_12, .int .i64 a0_13, .int .i64 a0_14] 25 (0, 0)) (by (with_reducible repeat (first | apply kb1 | apply kb2 | apply kb3 | refine kb4 ?_ NB130_135.out _)); exact BK130.out) hb); have n1_ := ka (blk_below (g := gb135) (o := .cells #[.int .i64 t131, .int .i64 t132, .int .i64 t133] 53 (0, 0)) (by (with_reducible repeat (first | apply kb1 | apply kb2 | apply kb3 | apply blkPut3_2 | apply blkPut3_1 | apply blkPut3_0)); exact BK135.out) hb); have n2_ := ka (below_step (kw HB.out) hb); clear BK130; clear BK135; clear HB; have BK130 := n0_; have BK135 := n1_; have HB := n2_; clear n0_ n1_ n2_; (try clear hb); (try clear hb2); (try clear hk); (try clear hi); (try simp only [errW_none, errW_some]); have hcz86 := blkAll15 BK130.out) | (go_at_call 36; (with_reducible refine (water_cents_s.calls a0_9 false _ A5.out).mono ?_); rintro e w' ⟨rfl, ⟨nd, rfl⟩⟩))
     go_ret
     exact ⟨by first | rfl | (simp [errW_none, errW_some] <;> rfl) | (simp [*, errW_none, errW_some] <;> rfl), by repeat (first | (with_reducible first | exact HB.out | apply kc1 | apply kc2 | apply kc3 | refine kc4 ?_ GE130.out | refine kc4 ?_ GE135.out) | exact HB.out)⟩
   ·have H1 : (some (some 1)) = some r := by rw [if_neg (show ¬ (some q138).isNone = true by simp)] at H; exact H
    clear H
    have H := H1
    clear H1
    try simp only [errW_none, errW_some]
    obtain rfl := Option.some.inj H
    go_enter Try.func27, Try.ntmps27
    go_wp2_with (first | ((with_reducible refine gate_dst (N := 1) rfl ?_); refine kx (N := 1) (cs := #[.int .i64 a0_0, .int .i64 a0_1, .int .i64 a0_2, .int .i64 a0_3, .int .i64 a0_4, .int .i64 a0_5, .int .i64 a0_6, .int .i64 a0_7, .int .i64 a0_8, .int .i64 a0_9, .int .i64 a0_10, .int .i64 a0_11, .int .i64 a0_12, .int .i64 a0_13, .int .i64 a0_14]) (t := 25) ?_; intro gb130 hg w87 hbox hb; have n0_ := ka (below_step (kw HB.out) hb); have n1_ := ka (hbox); have n2_ := ka ((by rw [hg]; exact (below_size (kw HB.out)) : w.heap.size ≤ gb130)); have n3_ := n2_; clear HB; have HB := n0_; have BK130 := n1_; have GW130 := n2_; have GE130 := n3_; clear n0_ n1_ n2_ n3_; clear hb hbox hg; have hcz88 := blkAll15 BK130.out) | ((with_reducible refine gate_callee (f := 35) rfl ?_); refine kg (some 8) rfl rfl Try.func35 (by kernel_rfl) rfl #[.int .i64 a0_11] rfl ?_; (with_reducible refine (date_Of_s.calls a0_11 t131 t132 t133 none _ A2.out).mono ?_); rintro e w89 ⟨rfl, hb⟩; refine ⟨_, rfl, ?_⟩; have n0_ := ka (blk_below (g := gb130) (kz BK130.out) hb); have n1_ := ka (below_step (kw HB.out) hb); clear BK130; clear HB; have BK130 := n0_; have HB := n1_; clear n0_ n1_; (try clear hb); (try clear hb2); (try clear hk); (try clear hi); (try simp only [errW_none, errW_some])) | ((with_reducible refine gate_dst (N := 3) rfl ?_); refine kx (N := 3) (cs := #[.int .i64 0, .int .i64 0, .int .i64 0]) (t := 53) ?_; intro gb135 hg w90 hbox hb; have n0_ := ka (blk_below (g := gb130) (kz BK130.out) hb); have n1_ := ka (below_step (kw HB.out) hb); have n2_ := ka (hbox); have n3_ := ka ((by rw [hg]; exact (below_size (kw HB.out)) : w.heap.size ≤ gb135)); have n4_ := n3_; have n5_ := ka ((by rw [hg]; exact Nat.ne_of_lt (blk_lt (g := gb130) (kz BK130.out)) : gb130 ≠ gb135)); have n6_ := ka n5_.out.symm; clear BK130; clear HB; have BK130 := n0_; have HB := n1_; have BK135 := n2_; have GW135 := n3_; have GE135 := n4_; have NB130_135 := n5_; have NB135_130 := n6_; clear n0_ n1_ n2_ n3_ n4_ n5_ n6_; clear hb hbox hg; have hnb91 := NB135_130.out; have hnc91 := NB130_135.out; have hcz92 := blkAll3 BK135.out; have hcz93 := blkAll15 BK130.out) | (go_at_call 41; (with_reducible refine (terms_Check_s.calls a0_0 a0_1 a0_2 a0_3 a0_4 a0_5 a0_6 a0_7 a0_8 (some q138) _ A4.out).mono ?_); rintro e w94 ⟨rfl, hb⟩; have n0_ := ka (blk_below (g := gb130) (o := .cells #[.int .i64 a0_0, .int .i64 a0_1, .int .i64 a0_2, .int .i64 a0_3, .int .i64 a0_4, .int .i64 a0_5, .int .i64 a0_6, .int .i64 a0_7, .int .i64 a0_8, .int .i64 a0_9, .int .i64 a0_10, .int .i64 a0_11, .int .i64 a0_12, .int .i64 a0_13, .int .i64 a0_14] 25 (0, 0)) (by (with_reducible repeat (first | apply kb1 | apply kb2 | apply kb3 | refine kb4 ?_ NB130_135.out _)); exact BK130.out) hb); have n1_ := ka (blk_below (g := gb135) (o := .cells #[.int .i64 t131, .int .i64 t132, .int .i64 t133] 53 (0, 0)) (by (with_reducible repeat (first | apply kb1 | apply kb2 | apply kb3 | apply blkPut3_2 | apply blkPut3_1 | apply blkPut3_0)); exact BK135.out) hb); have n2_ := ka (below_step (kw HB.out) hb); clear BK130; clear BK135; clear HB; have BK130 := n0_; have BK135 := n1_; have HB := n2_; clear n0_ n1_ n2_; (try clear hb); (try clear hb2); (try clear hk); (try clear hi); (try simp only [errW_none, errW_some])))
    go_ret
    exact ⟨by first | rfl | (simp [errW_none, errW_some] <;> rfl) | (simp [*, errW_none, errW_some] <;> rfl), by repeat (first | (with_reducible first | exact HB.out | apply kc1 | apply kc2 | apply kc3 | refine kc4 ?_ GE130.out | refine kc4 ?_ GE135.out) | exact HB.out)⟩
  ·rw [if_neg c3] at H
   have c3b0 : (t133 == 1) = false := beq_eq_false_iff_ne.mpr c3
   have c3b1 : (t133 != 1) = true := bne_iff_ne.mpr c3
   obtain rfl := Option.some.inj H
   go_enter Try.func27, Try.ntmps27
   go_wp2_with (first | ((with_reducible refine gate_dst (N := 1) rfl ?_); refine kx (N := 1) (cs := #[.int .i64 a0_0, .int .i64 a0_1, .int .i64 a0_2, .int .i64 a0_3, .int .i64 a0_4, .int .i64 a0_5, .int .i64 a0_6, .int .i64 a0_7, .int .i64 a0_8, .int .i64 a0_9, .int .i64 a0_10, .int .i64 a0_11, .int .i64 a0_12, .int .i64 a0_13, .int .i64 a0_14]) (t := 25) ?_; intro gb130 hg w95 hbox hb; have n0_ := ka (below_step (kw HB.out) hb); have n1_ := ka (hbox); have n2_ := ka ((by rw [hg]; exact (below_size (kw HB.out)) : w.heap.size ≤ gb130)); have n3_ := n2_; clear HB; have HB := n0_; have BK130 := n1_; have GW130 := n2_; have GE130 := n3_; clear n0_ n1_ n2_ n3_; clear hb hbox hg; have hcz96 := blkAll15 BK130.out) | ((with_reducible refine gate_callee (f := 35) rfl ?_); refine kg (some 8) rfl rfl Try.func35 (by kernel_rfl) rfl #[.int .i64 a0_11] rfl ?_; (with_reducible refine (date_Of_s.calls a0_11 t131 t132 t133 none _ A2.out).mono ?_); rintro e w97 ⟨rfl, hb⟩; refine ⟨_, rfl, ?_⟩; have n0_ := ka (blk_below (g := gb130) (kz BK130.out) hb); have n1_ := ka (below_step (kw HB.out) hb); clear BK130; clear HB; have BK130 := n0_; have HB := n1_; clear n0_ n1_; (try clear hb); (try clear hb2); (try clear hk); (try clear hi); (try simp only [errW_none, errW_some])) | ((with_reducible refine gate_dst (N := 3) rfl ?_); refine kx (N := 3) (cs := #[.int .i64 0, .int .i64 0, .int .i64 0]) (t := 53) ?_; intro gb135 hg w98 hbox hb; have n0_ := ka (blk_below (g := gb130) (kz BK130.out) hb); have n1_ := ka (below_step (kw HB.out) hb); have n2_ := ka (hbox); have n3_ := ka ((by rw [hg]; exact (below_size (kw HB.out)) : w.heap.size ≤ gb135)); have n4_ := n3_; have n5_ := ka ((by rw [hg]; exact Nat.ne_of_lt (blk_lt (g := gb130) (kz BK130.out)) : gb130 ≠ gb135)); have n6_ := ka n5_.out.symm; clear BK130; clear HB; have BK130 := n0_; have HB := n1_; have BK135 := n2_; have GW135 := n3_; have GE135 := n4_; have NB130_135 := n5_; have NB135_130 := n6_; clear n0_ n1_ n2_ n3_ n4_ n5_ n6_; clear hb hbox hg; have hnb99 := NB135_130.out; have hnc99 := NB130_135.out; have hcz100 := blkAll3 BK135.out))
   go_ret
   exact ⟨by first | rfl | (simp [errW_none, errW_some] <;> rfl) | (simp [*, errW_none, errW_some] <;> rfl), by repeat (first | (with_reducible first | exact HB.out | apply kc1 | apply kc2 | apply kc3 | refine kc4 ?_ GE130.out | refine kc4 ?_ GE135.out) | exact HB.out)⟩
 ·have H1 : (some (some 1)) = some r := by rw [if_neg (show ¬ (some q136).isNone = true by simp)] at H; exact H
  clear H
  have H := H1
  clear H1
  try simp only [errW_none, errW_some]
  obtain rfl := Option.some.inj H
  go_enter Try.func27, Try.ntmps27
  go_wp2_with (first | ((with_reducible refine gate_dst (N := 1) rfl ?_); refine kx (N := 1) (cs := #[.int .i64 a0_0, .int .i64 a0_1, .int .i64 a0_2, .int .i64 a0_3, .int .i64 a0_4, .int .i64 a0_5, .int .i64 a0_6, .int .i64 a0_7, .int .i64 a0_8, .int .i64 a0_9, .int .i64 a0_10, .int .i64 a0_11, .int .i64 a0_12, .int .i64 a0_13, .int .i64 a0_14]) (t := 25) ?_; intro gb130 hg w101 hbox hb; have n0_ := ka (below_step (kw HB.out) hb); have n1_ := ka (hbox); have n2_ := ka ((by rw [hg]; exact (below_size (kw HB.out)) : w.heap.size ≤ gb130)); have n3_ := n2_; clear HB; have HB := n0_; have BK130 := n1_; have GW130 := n2_; have GE130 := n3_; clear n0_ n1_ n2_ n3_; clear hb hbox hg; have hcz102 := blkAll15 BK130.out) | ((with_reducible refine gate_callee (f := 35) rfl ?_); refine kg (some 8) rfl rfl Try.func35 (by kernel_rfl) rfl #[.int .i64 a0_11] rfl ?_; (with_reducible refine (date_Of_s.calls a0_11 t131 t132 t133 (some q136) _ A2.out).mono ?_); rintro e w103 ⟨rfl, hb⟩; refine ⟨_, rfl, ?_⟩; have n0_ := ka (blk_below (g := gb130) (kz BK130.out) hb); have n1_ := ka (below_step (kw HB.out) hb); clear BK130; clear HB; have BK130 := n0_; have HB := n1_; clear n0_ n1_; (try clear hb); (try clear hb2); (try clear hk); (try clear hi); (try simp only [errW_none, errW_some])) | ((with_reducible refine gate_dst (N := 3) rfl ?_); refine kx (N := 3) (cs := #[.int .i64 0, .int .i64 0, .int .i64 0]) (t := 53) ?_; intro gb135 hg w104 hbox hb; have n0_ := ka (blk_below (g := gb130) (kz BK130.out) hb); have n1_ := ka (below_step (kw HB.out) hb); have n2_ := ka (hbox); have n3_ := ka ((by rw [hg]; exact (below_size (kw HB.out)) : w.heap.size ≤ gb135)); have n4_ := n3_; have n5_ := ka ((by rw [hg]; exact Nat.ne_of_lt (blk_lt (g := gb130) (kz BK130.out)) : gb130 ≠ gb135)); have n6_ := ka n5_.out.symm; clear BK130; clear HB; have BK130 := n0_; have HB := n1_; have BK135 := n2_; have GW135 := n3_; have GE135 := n4_; have NB130_135 := n5_; have NB135_130 := n6_; clear n0_ n1_ n2_ n3_ n4_ n5_ n6_; clear hb hbox hg; have hnb105 := NB135_130.out; have hnc105 := NB130_135.out; have hcz106 := blkAll3 BK135.out))
  go_ret
  exact ⟨by first | rfl | (simp [errW_none, errW_some] <;> rfl) | (simp [*, errW_none, errW_some] <;> rfl), by repeat (first | (with_reducible first | exact HB.out | apply kc1 | apply kc2 | apply kc3 | refine kc4 ?_ GE130.out | refine kc4 ?_ GE135.out) | exact HB.out)⟩

/-! ### water_Check_s: function 27, told plainly -/
theorem water_Check.tells (b r m f e i w fe g bal lvl du cnt sus late : Int) (h : M.In r ∧ M.In f ∧ M.In fe ∧ M.In du) : water_Check.f b r m f e i w fe g bal lvl du cnt sus late = some (if M.loanOk b r m f e i w fe g bal lvl du cnt sus late then none else some 1) := by
 have out : ¬ M.loanOk b r m f e i w fe g bal lvl du cnt sus late → (some (some 1) : Option (Option Int)) = some (if M.loanOk b r m f e i w fe g bal lvl du cnt sus late then none else some 1) := fun hn => by rw [if_neg hn]
 unfold water_Check.f
 by_cases h1 : -25567 ≤ du ∧ du ≤ 84005
 case neg =>
  rw [date_Of_s.no h.2.2.2 h1, Option.bind_some]
  exact out (fun hh => h1 ⟨hh.2.1.1, hh.2.1.2.1⟩)
 rw [date_Of_s.yes h1, Option.bind_some, if_pos (show ((none : Option Int).isNone = true) from rfl)]
 by_cases h2 : M.dy du = 1
 case neg => rw [if_neg h2]; exact out (fun hh => h2 hh.2.1.2.2)
 rw [if_pos h2, terms_Check_s.at_ ⟨h.1, h.2.1, h.2.2.1⟩, Option.bind_some]
 by_cases h3 : M.termsOk b r m f e i w fe g
 case neg => rw [if_neg h3]; exact out (fun hh => h3 hh.1)
 rw [if_pos h3, if_pos (show ((none : Option Int).isNone = true) from rfl), water_cents_s.at_, Option.bind_some]
 by_cases h4 : M.cent bal
 case neg => rw [if_neg (by simpa using h4)]; exact out (fun hh => h4 hh.2.2.1)
 rw [if_pos (decide_eq_true h4)]
 by_cases h5 : lvl < 1
 case pos => rw [if_pos h5]; exact out (fun hh => by have := hh.2.2.2.1; omega)
 rw [if_neg h5]
 by_cases h6 : lvl > 20000000000000
 case pos => rw [if_pos h6]; exact out (fun hh => by have := hh.2.2.2.2.1; omega)
 rw [if_neg h6]
 by_cases h7 : cnt < 0
 case pos => rw [if_pos h7]; exact out (fun hh => by have := hh.2.2.2.2.2.1; omega)
 rw [if_neg h7]
 by_cases h8 : cnt > 480
 case pos => rw [if_pos h8]; exact out (fun hh => by have := hh.2.2.2.2.2.2.1; omega)
 rw [if_neg h8, water_cents_s.at_, Option.bind_some]
 by_cases h9 : M.cent sus
 case neg => rw [if_neg (by simpa using h9)]; exact out (fun hh => h9 hh.2.2.2.2.2.2.2.1)
 rw [if_pos (decide_eq_true h9), water_cents_s.at_, Option.bind_some]
 by_cases h10 : M.cent late
 case neg => rw [if_neg (by simpa using h10)]; exact out (fun hh => h10 hh.2.2.2.2.2.2.2.2)
 rw [if_pos (decide_eq_true h10), if_pos ⟨h3, ⟨h1.1, h1.2, h2⟩, h4, by omega, by omega, by omega, by omega, h9, h10⟩]
def water_Check_s.f (b r m f e i w fe g bal lvl du cnt sus late : Int) : Option (Option Int) := if M.In r ∧ M.In f ∧ M.In fe ∧ M.In du then some (if M.loanOk b r m f e i w fe g bal lvl du cnt sus late then none else some 1) else none
theorem water_Check_s.calls (a0_0 : Int) (a0_1 : Int) (a0_2 : Int) (a0_3 : Int) (a0_4 : Int) (a0_5 : Int) (a0_6 : Int) (a0_7 : Int) (a0_8 : Int) (a0_9 : Int) (a0_10 : Int) (a0_11 : Int) (a0_12 : Int) (a0_13 : Int) (a0_14 : Int) (r : Option Int) (w : World) (h : water_Check_s.f a0_0 a0_1 a0_2 a0_3 a0_4 a0_5 a0_6 a0_7 a0_8 a0_9 a0_10 a0_11 a0_12 a0_13 a0_14 = some r) :
  Calls Try.prog 27 #[.agg #[.int .i64 a0_0, .int .i64 a0_1, .int .i64 a0_2, .int .i64 a0_3, .int .i64 a0_4, .int .i64 a0_5, .int .i64 a0_6, .int .i64 a0_7, .int .i64 a0_8, .int .i64 a0_9, .int .i64 a0_10, .int .i64 a0_11, .int .i64 a0_12, .int .i64 a0_13, .int .i64 a0_14]] w fun e w' => e = .returned (errW r) ∧ Below w.heap.size w w' := by
 unfold water_Check_s.f at h
 split at h
 ·rename_i hr
  exact water_Check.calls a0_0 a0_1 a0_2 a0_3 a0_4 a0_5 a0_6 a0_7 a0_8 a0_9 a0_10 a0_11 a0_12 a0_13 a0_14 r w ((water_Check.tells a0_0 a0_1 a0_2 a0_3 a0_4 a0_5 a0_6 a0_7 a0_8 a0_9 a0_10 a0_11 a0_12 a0_13 a0_14 hr).trans h)
 ·cases h
theorem water_Check_s.at_ {b r m f e i w fe g bal lvl du cnt sus late : Int} (h : M.In r ∧ M.In f ∧ M.In fe ∧ M.In du) : water_Check_s.f b r m f e i w fe g bal lvl du cnt sus late = some (if M.loanOk b r m f e i w fe g bal lvl du cnt sus late then none else some 1) := by unfold water_Check_s.f; rw [if_pos h]

/-! ### water_may: function 22 -/
def water_may.f (a0_0 : Int) (a0_1 : Int) (a0_2 : Int) (a0_3 : Int) (a0_4 : Int) (a0_5 : Int) (a0_6 : Int) (a0_7 : Int) (a0_8 : Int) (a0_9 : Int) (a0_10 : Int) (a0_11 : Int) (a0_12 : Int) (a0_13 : Int) (a0_14 : Int) (a1 : Int) (a2 : Int) : Option (Bool) := (date_Of_s.f a1).bind fun bt143 => ((water_Check_s.f a0_0 a0_1 a0_2 a0_3 a0_4 a0_5 a0_6 a0_7 a0_8 a0_9 a0_10 a0_11 a0_12 a0_13 a0_14).bind fun t148 => (if t148.isNone = true then (if bt143.2.2.2.isNone = true then (if a2 ≥ 1 then ((water_cents_s.f a2).bind fun t151 => (some t151)) else (some false)) else (some false)) else (some false)))
set_option maxHeartbeats 8000000 in
set_option maxRecDepth 100000 in
theorem water_may.calls (a0_0 : Int) (a0_1 : Int) (a0_2 : Int) (a0_3 : Int) (a0_4 : Int) (a0_5 : Int) (a0_6 : Int) (a0_7 : Int) (a0_8 : Int) (a0_9 : Int) (a0_10 : Int) (a0_11 : Int) (a0_12 : Int) (a0_13 : Int) (a0_14 : Int) (a1 : Int) (a2 : Int) (r : Bool) (w : World) (h : water_may.f a0_0 a0_1 a0_2 a0_3 a0_4 a0_5 a0_6 a0_7 a0_8 a0_9 a0_10 a0_11 a0_12 a0_13 a0_14 a1 a2 = some r) :
  Calls Try.prog 22 #[.agg #[.int .i64 a0_0, .int .i64 a0_1, .int .i64 a0_2, .int .i64 a0_3, .int .i64 a0_4, .int .i64 a0_5, .int .i64 a0_6, .int .i64 a0_7, .int .i64 a0_8, .int .i64 a0_9, .int .i64 a0_10, .int .i64 a0_11, .int .i64 a0_12, .int .i64 a0_13, .int .i64 a0_14], .int .i64 a1, .int .i64 a2] w fun e w' => e = .returned (.bool r) ∧ Below w.heap.size w w' := by
 have hu25 := Try.underlying25
 have hu53 := Try.underlying53
 have hu30 := Try.underlying30
 have hu34 := Try.underlying34
 have HB := ka (Below.refl w.heap.size w)
 have H : ((date_Of_s.f a1).bind fun bt143 => ((water_Check_s.f a0_0 a0_1 a0_2 a0_3 a0_4 a0_5 a0_6 a0_7 a0_8 a0_9 a0_10 a0_11 a0_12 a0_13 a0_14).bind fun t148 => (if t148.isNone = true then (if bt143.2.2.2.isNone = true then (if a2 ≥ 1 then ((water_cents_s.f a2).bind fun t151 => (some t151)) else (some false)) else (some false)) else (some false)))) = some r := h
 clear h
 replace H := Option.bind_eq_some_iff.mp H
 obtain ⟨⟨t143, t144, t145, t146⟩, A40, H⟩ := H
 replace H : ((water_Check_s.f a0_0 a0_1 a0_2 a0_3 a0_4 a0_5 a0_6 a0_7 a0_8 a0_9 a0_10 a0_11 a0_12 a0_13 a0_14).bind fun t148 => (if t148.isNone = true then (if t146.isNone = true then (if a2 ≥ 1 then ((water_cents_s.f a2).bind fun t151 => (some t151)) else (some false)) else (some false)) else (some false))) = some r := H
 have A4 := ka A40
 clear A40
 replace H := Option.bind_eq_some_iff.mp H
 obtain ⟨t148, A50, H⟩ := H
 replace H : (if t148.isNone = true then (if t146.isNone = true then (if a2 ≥ 1 then ((water_cents_s.f a2).bind fun t151 => (some t151)) else (some false)) else (some false)) else (some false)) = some r := H
 have A5 := ka A50
 clear A50
 rcases t148 with _ | q149
 ·have H1 : (if t146.isNone = true then (if a2 ≥ 1 then ((water_cents_s.f a2).bind fun t151 => (some t151)) else (some false)) else (some false)) = some r := by rw [if_pos (show (none : Option Int).isNone = true by rfl)] at H; exact H
  clear H
  have H := H1
  clear H1
  try simp only [errW_none, errW_some]
  rcases t146 with _ | q150
  ·have H1 : (if a2 ≥ 1 then ((water_cents_s.f a2).bind fun t151 => (some t151)) else (some false)) = some r := by rw [if_pos (show (none : Option Int).isNone = true by rfl)] at H; exact H
   clear H
   have H := H1
   clear H1
   try simp only [errW_none, errW_some]
   by_cases c6 : a2 ≥ 1
   ·rw [if_pos c6] at H
    have c6b0 : decide (1 ≤ a2) = true := decide_eq_true c6
    clear c6
    replace H := Option.bind_eq_some_iff.mp H
    obtain ⟨t151, A70, H⟩ := H
    replace H : (some t151) = some r := H
    have A7 := ka A70
    clear A70
    obtain rfl := Option.some.inj H
    go_enter Try.func22, Try.ntmps22
    go_wp2_with (first | ((with_reducible refine gate_dst (N := 3) rfl ?_); refine kx (N := 3) (cs := #[.int .i64 a0_0, .int .i64 a0_1, .int .i64 a0_2, .int .i64 a0_3, .int .i64 a0_4, .int .i64 a0_5, .int .i64 a0_6, .int .i64 a0_7, .int .i64 a0_8, .int .i64 a0_9, .int .i64 a0_10, .int .i64 a0_11, .int .i64 a0_12, .int .i64 a0_13, .int .i64 a0_14]) (t := 25) ?_; intro gb142 hg w8 hbox hb; have n0_ := ka (below_step (kw HB.out) hb); have n1_ := ka (hbox); have n2_ := ka ((by rw [hg]; exact (below_size (kw HB.out)) : w.heap.size ≤ gb142)); have n3_ := n2_; clear HB; have HB := n0_; have BK142 := n1_; have GW142 := n2_; have GE142 := n3_; clear n0_ n1_ n2_ n3_; clear hb hbox hg) | ((with_reducible refine gate_callee (f := 35) rfl ?_); refine kg (some 11) rfl rfl Try.func35 (by kernel_rfl) rfl #[.int .i64 a1] rfl ?_; (with_reducible refine (date_Of_s.calls a1 t143 t144 t145 none _ A4.out).mono ?_); rintro e w9 ⟨rfl, hb⟩; refine ⟨_, rfl, ?_⟩; have n0_ := ka (blk_below (g := gb142) (kz BK142.out) hb); have n1_ := ka (below_step (kw HB.out) hb); clear BK142; clear HB; have BK142 := n0_; have HB := n1_; clear n0_ n1_; (try clear hb); (try clear hb2); (try clear hk); (try clear hi); (try simp only [errW_none, errW_some])) | ((with_reducible refine gate_dst (N := 7) rfl ?_); refine kx (N := 7) (cs := #[.int .i64 0, .int .i64 0, .int .i64 0]) (t := 53) ?_; intro gb147 hg w10 hbox hb; have n0_ := ka (blk_below (g := gb142) (kz BK142.out) hb); have n1_ := ka (below_step (kw HB.out) hb); have n2_ := ka (hbox); have n3_ := ka ((by rw [hg]; exact (below_size (kw HB.out)) : w.heap.size ≤ gb147)); have n4_ := n3_; have n5_ := ka ((by rw [hg]; exact Nat.ne_of_lt (blk_lt (g := gb142) (kz BK142.out)) : gb142 ≠ gb147)); have n6_ := ka n5_.out.symm; clear BK142; clear HB; have BK142 := n0_; have HB := n1_; have BK147 := n2_; have GW147 := n3_; have GE147 := n4_; have NB142_147 := n5_; have NB147_142 := n6_; clear n0_ n1_ n2_ n3_ n4_ n5_ n6_; clear hb hbox hg; have hnb11 := NB147_142.out; have hnc11 := NB142_147.out; have hcz12 := blkAll3 BK147.out; have hcz13 := blkAll15 BK142.out) | ((with_reducible refine gate_callee (f := 27) rfl ?_); refine kg (some 15) rfl rfl Try.func27 (by kernel_rfl) rfl #[.agg #[.int .i64 a0_0, .int .i64 a0_1, .int .i64 a0_2, .int .i64 a0_3, .int .i64 a0_4, .int .i64 a0_5, .int .i64 a0_6, .int .i64 a0_7, .int .i64 a0_8, .int .i64 a0_9, .int .i64 a0_10, .int .i64 a0_11, .int .i64 a0_12, .int .i64 a0_13, .int .i64 a0_14]] rfl ?_; (with_reducible refine (water_Check_s.calls a0_0 a0_1 a0_2 a0_3 a0_4 a0_5 a0_6 a0_7 a0_8 a0_9 a0_10 a0_11 a0_12 a0_13 a0_14 none _ A5.out).mono ?_); rintro e w14 ⟨rfl, hb⟩; refine ⟨_, rfl, ?_⟩; have n0_ := ka (blk_below (g := gb142) (o := .cells #[.int .i64 a0_0, .int .i64 a0_1, .int .i64 a0_2, .int .i64 a0_3, .int .i64 a0_4, .int .i64 a0_5, .int .i64 a0_6, .int .i64 a0_7, .int .i64 a0_8, .int .i64 a0_9, .int .i64 a0_10, .int .i64 a0_11, .int .i64 a0_12, .int .i64 a0_13, .int .i64 a0_14] 25 (0, 0)) (by (with_reducible repeat (first | apply kb1 | apply kb2 | apply kb3 | refine kb4 ?_ NB142_147.out _)); exact BK142.out) hb); have n1_ := ka (blk_below (g := gb147) (o := .cells #[.int .i64 t143, .int .i64 t144, .int .i64 t145] 53 (0, 0)) (by (with_reducible repeat (first | apply kb1 | apply kb2 | apply kb3 | apply blkPut3_2 | apply blkPut3_1 | apply blkPut3_0)); exact BK147.out) hb); have n2_ := ka (below_step (kw HB.out) hb); clear BK142; clear BK147; clear HB; have BK142 := n0_; have BK147 := n1_; have HB := n2_; clear n0_ n1_ n2_; (try clear hb); (try clear hb2); (try clear hk); (try clear hi); (try simp only [errW_none, errW_some])) | (go_at_call 36; (with_reducible refine (water_cents_s.calls a2 t151 _ A7.out).mono ?_); rintro e w' ⟨rfl, ⟨nd, rfl⟩⟩) | ((with_reducible refine gate_load (T := 25) rfl ?_); first | refine load_event (g := gb142) rfl rfl rfl Try.underlying25 rfl (by (with_reducible repeat (first | apply kb1 | apply kb2 | apply kb3)); with_reducible exact BK142.out) (by kernel_rfl) ?_))
    go_ret
    exact ⟨by first | rfl | (simp [errW_none, errW_some] <;> rfl) | (simp [*, errW_none, errW_some] <;> rfl), by repeat (first | (with_reducible first | exact HB.out | apply kc1 | apply kc2 | apply kc3 | refine kc4 ?_ GE142.out | refine kc4 ?_ GE147.out) | exact HB.out)⟩
   ·rw [if_neg c6] at H
    have c6b0 : decide (1 ≤ a2) = false := decide_eq_false c6
    clear c6
    obtain rfl := Option.some.inj H
    go_enter Try.func22, Try.ntmps22
    go_wp2_with (first | ((with_reducible refine gate_dst (N := 3) rfl ?_); refine kx (N := 3) (cs := #[.int .i64 a0_0, .int .i64 a0_1, .int .i64 a0_2, .int .i64 a0_3, .int .i64 a0_4, .int .i64 a0_5, .int .i64 a0_6, .int .i64 a0_7, .int .i64 a0_8, .int .i64 a0_9, .int .i64 a0_10, .int .i64 a0_11, .int .i64 a0_12, .int .i64 a0_13, .int .i64 a0_14]) (t := 25) ?_; intro gb142 hg w15 hbox hb; have n0_ := ka (below_step (kw HB.out) hb); have n1_ := ka (hbox); have n2_ := ka ((by rw [hg]; exact (below_size (kw HB.out)) : w.heap.size ≤ gb142)); have n3_ := n2_; clear HB; have HB := n0_; have BK142 := n1_; have GW142 := n2_; have GE142 := n3_; clear n0_ n1_ n2_ n3_; clear hb hbox hg) | ((with_reducible refine gate_callee (f := 35) rfl ?_); refine kg (some 11) rfl rfl Try.func35 (by kernel_rfl) rfl #[.int .i64 a1] rfl ?_; (with_reducible refine (date_Of_s.calls a1 t143 t144 t145 none _ A4.out).mono ?_); rintro e w16 ⟨rfl, hb⟩; refine ⟨_, rfl, ?_⟩; have n0_ := ka (blk_below (g := gb142) (kz BK142.out) hb); have n1_ := ka (below_step (kw HB.out) hb); clear BK142; clear HB; have BK142 := n0_; have HB := n1_; clear n0_ n1_; (try clear hb); (try clear hb2); (try clear hk); (try clear hi); (try simp only [errW_none, errW_some])) | ((with_reducible refine gate_dst (N := 7) rfl ?_); refine kx (N := 7) (cs := #[.int .i64 0, .int .i64 0, .int .i64 0]) (t := 53) ?_; intro gb147 hg w17 hbox hb; have n0_ := ka (blk_below (g := gb142) (kz BK142.out) hb); have n1_ := ka (below_step (kw HB.out) hb); have n2_ := ka (hbox); have n3_ := ka ((by rw [hg]; exact (below_size (kw HB.out)) : w.heap.size ≤ gb147)); have n4_ := n3_; have n5_ := ka ((by rw [hg]; exact Nat.ne_of_lt (blk_lt (g := gb142) (kz BK142.out)) : gb142 ≠ gb147)); have n6_ := ka n5_.out.symm; clear BK142; clear HB; have BK142 := n0_; have HB := n1_; have BK147 := n2_; have GW147 := n3_; have GE147 := n4_; have NB142_147 := n5_; have NB147_142 := n6_; clear n0_ n1_ n2_ n3_ n4_ n5_ n6_; clear hb hbox hg; have hnb18 := NB147_142.out; have hnc18 := NB142_147.out; have hcz19 := blkAll3 BK147.out; have hcz20 := blkAll15 BK142.out) | ((with_reducible refine gate_callee (f := 27) rfl ?_); refine kg (some 15) rfl rfl Try.func27 (by kernel_rfl) rfl #[.agg #[.int .i64 a0_0, .int .i64 a0_1, .int .i64 a0_2, .int .i64 a0_3, .int .i64 a0_4, .int .i64 a0_5, .int .i64 a0_6, .int .i64 a0_7, .int .i64 a0_8, .int .i64 a0_9, .int .i64 a0_10, .int .i64 a0_11, .int .i64 a0_12, .int .i64 a0_13, .int .i64 a0_14]] rfl ?_; (with_reducible refine (water_Check_s.calls a0_0 a0_1 a0_2 a0_3 a0_4 a0_5 a0_6 a0_7 a0_8 a0_9 a0_10 a0_11 a0_12 a0_13 a0_14 none _ A5.out).mono ?_); rintro e w21 ⟨rfl, hb⟩; refine ⟨_, rfl, ?_⟩; have n0_ := ka (blk_below (g := gb142) (o := .cells #[.int .i64 a0_0, .int .i64 a0_1, .int .i64 a0_2, .int .i64 a0_3, .int .i64 a0_4, .int .i64 a0_5, .int .i64 a0_6, .int .i64 a0_7, .int .i64 a0_8, .int .i64 a0_9, .int .i64 a0_10, .int .i64 a0_11, .int .i64 a0_12, .int .i64 a0_13, .int .i64 a0_14] 25 (0, 0)) (by (with_reducible repeat (first | apply kb1 | apply kb2 | apply kb3 | refine kb4 ?_ NB142_147.out _)); exact BK142.out) hb); have n1_ := ka (blk_below (g := gb147) (o := .cells #[.int .i64 t143, .int .i64 t144, .int .i64 t145] 53 (0, 0)) (by (with_reducible repeat (first | apply kb1 | apply kb2 | apply kb3 | apply blkPut3_2 | apply blkPut3_1 | apply blkPut3_0)); exact BK147.out) hb); have n2_ := ka (below_step (kw HB.out) hb); clear BK142; clear BK147; clear HB; have BK142 := n0_; have BK147 := n1_; have HB := n2_; clear n0_ n1_ n2_; (try clear hb); (try clear hb2); (try clear hk); (try clear hi); (try simp only [errW_none, errW_some])) | ((with_reducible refine gate_load (T := 25) rfl ?_); first | refine load_event (g := gb142) rfl rfl rfl Try.underlying25 rfl (by (with_reducible repeat (first | apply kb1 | apply kb2 | apply kb3)); with_reducible exact BK142.out) (by kernel_rfl) ?_))
    go_ret
    exact ⟨by first | rfl | (simp [errW_none, errW_some] <;> rfl) | (simp [*, errW_none, errW_some] <;> rfl), by repeat (first | (with_reducible first | exact HB.out | apply kc1 | apply kc2 | apply kc3 | refine kc4 ?_ GE142.out | refine kc4 ?_ GE147.out) | exact HB.out)⟩
  ·have H1 : (some false) = some r := by rw [if_neg (show ¬ (some q150).isNone = true by simp)] at H; exact H
   clear H
   have H := H1
   clear H1
   try simp only [errW_none, errW_some]
   obtain rfl := Option.some.inj H
   go_enter Try.func22, Try.ntmps22
   go_wp2_with (first | ((with_reducible refine gate_dst (N := 3) rfl ?_); refine kx (N := 3) (cs := #[.int .i64 a0_0, .int .i64 a0_1, .int .i64 a0_2, .int .i64 a0_3, .int .i64 a0_4, .int .i64 a0_5, .int .i64 a0_6, .int .i64 a0_7, .int .i64 a0_8, .int .i64 a0_9, .int .i64 a0_10, .int .i64 a0_11, .int .i64 a0_12, .int .i64 a0_13, .int .i64 a0_14]) (t := 25) ?_; intro gb142 hg w22 hbox hb; have n0_ := ka (below_step (kw HB.out) hb); have n1_ := ka (hbox); have n2_ := ka ((by rw [hg]; exact (below_size (kw HB.out)) : w.heap.size ≤ gb142)); have n3_ := n2_; clear HB; have HB := n0_; have BK142 := n1_; have GW142 := n2_; have GE142 := n3_; clear n0_ n1_ n2_ n3_; clear hb hbox hg) | ((with_reducible refine gate_callee (f := 35) rfl ?_); refine kg (some 11) rfl rfl Try.func35 (by kernel_rfl) rfl #[.int .i64 a1] rfl ?_; (with_reducible refine (date_Of_s.calls a1 t143 t144 t145 (some q150) _ A4.out).mono ?_); rintro e w23 ⟨rfl, hb⟩; refine ⟨_, rfl, ?_⟩; have n0_ := ka (blk_below (g := gb142) (kz BK142.out) hb); have n1_ := ka (below_step (kw HB.out) hb); clear BK142; clear HB; have BK142 := n0_; have HB := n1_; clear n0_ n1_; (try clear hb); (try clear hb2); (try clear hk); (try clear hi); (try simp only [errW_none, errW_some])) | ((with_reducible refine gate_dst (N := 7) rfl ?_); refine kx (N := 7) (cs := #[.int .i64 0, .int .i64 0, .int .i64 0]) (t := 53) ?_; intro gb147 hg w24 hbox hb; have n0_ := ka (blk_below (g := gb142) (kz BK142.out) hb); have n1_ := ka (below_step (kw HB.out) hb); have n2_ := ka (hbox); have n3_ := ka ((by rw [hg]; exact (below_size (kw HB.out)) : w.heap.size ≤ gb147)); have n4_ := n3_; have n5_ := ka ((by rw [hg]; exact Nat.ne_of_lt (blk_lt (g := gb142) (kz BK142.out)) : gb142 ≠ gb147)); have n6_ := ka n5_.out.symm; clear BK142; clear HB; have BK142 := n0_; have HB := n1_; have BK147 := n2_; have GW147 := n3_; have GE147 := n4_; have NB142_147 := n5_; have NB147_142 := n6_; clear n0_ n1_ n2_ n3_ n4_ n5_ n6_; clear hb hbox hg; have hnb25 := NB147_142.out; have hnc25 := NB142_147.out; have hcz26 := blkAll3 BK147.out; have hcz27 := blkAll15 BK142.out) | ((with_reducible refine gate_callee (f := 27) rfl ?_); refine kg (some 15) rfl rfl Try.func27 (by kernel_rfl) rfl #[.agg #[.int .i64 a0_0, .int .i64 a0_1, .int .i64 a0_2, .int .i64 a0_3, .int .i64 a0_4, .int .i64 a0_5, .int .i64 a0_6, .int .i64 a0_7, .int .i64 a0_8, .int .i64 a0_9, .int .i64 a0_10, .int .i64 a0_11, .int .i64 a0_12, .int .i64 a0_13, .int .i64 a0_14]] rfl ?_; (with_reducible refine (water_Check_s.calls a0_0 a0_1 a0_2 a0_3 a0_4 a0_5 a0_6 a0_7 a0_8 a0_9 a0_10 a0_11 a0_12 a0_13 a0_14 none _ A5.out).mono ?_); rintro e w28 ⟨rfl, hb⟩; refine ⟨_, rfl, ?_⟩; have n0_ := ka (blk_below (g := gb142) (o := .cells #[.int .i64 a0_0, .int .i64 a0_1, .int .i64 a0_2, .int .i64 a0_3, .int .i64 a0_4, .int .i64 a0_5, .int .i64 a0_6, .int .i64 a0_7, .int .i64 a0_8, .int .i64 a0_9, .int .i64 a0_10, .int .i64 a0_11, .int .i64 a0_12, .int .i64 a0_13, .int .i64 a0_14] 25 (0, 0)) (by (with_reducible repeat (first | apply kb1 | apply kb2 | apply kb3 | refine kb4 ?_ NB142_147.out _)); exact BK142.out) hb); have n1_ := ka (blk_below (g := gb147) (o := .cells #[.int .i64 t143, .int .i64 t144, .int .i64 t145] 53 (0, 0)) (by (with_reducible repeat (first | apply kb1 | apply kb2 | apply kb3 | apply blkPut3_2 | apply blkPut3_1 | apply blkPut3_0)); exact BK147.out) hb); have n2_ := ka (below_step (kw HB.out) hb); clear BK142; clear BK147; clear HB; have BK142 := n0_; have BK147 := n1_; have HB := n2_; clear n0_ n1_ n2_; (try clear hb); (try clear hb2); (try clear hk); (try clear hi); (try simp only [errW_none, errW_some])) | ((with_reducible refine gate_load (T := 25) rfl ?_); first | refine load_event (g := gb142) rfl rfl rfl Try.underlying25 rfl (by (with_reducible repeat (first | apply kb1 | apply kb2 | apply kb3)); with_reducible exact BK142.out) (by kernel_rfl) ?_))
   go_ret
   exact ⟨by first | rfl | (simp [errW_none, errW_some] <;> rfl) | (simp [*, errW_none, errW_some] <;> rfl), by repeat (first | (with_reducible first | exact HB.out | apply kc1 | apply kc2 | apply kc3 | refine kc4 ?_ GE142.out | refine kc4 ?_ GE147.out) | exact HB.out)⟩
 ·have H1 : (some false) = some r := by rw [if_neg (show ¬ (some q149).isNone = true by simp)] at H; exact H
  clear H
  have H := H1
  clear H1
  try simp only [errW_none, errW_some]
  obtain rfl := Option.some.inj H
  go_enter Try.func22, Try.ntmps22
  go_wp2_with (first | ((with_reducible refine gate_dst (N := 3) rfl ?_); refine kx (N := 3) (cs := #[.int .i64 a0_0, .int .i64 a0_1, .int .i64 a0_2, .int .i64 a0_3, .int .i64 a0_4, .int .i64 a0_5, .int .i64 a0_6, .int .i64 a0_7, .int .i64 a0_8, .int .i64 a0_9, .int .i64 a0_10, .int .i64 a0_11, .int .i64 a0_12, .int .i64 a0_13, .int .i64 a0_14]) (t := 25) ?_; intro gb142 hg w29 hbox hb; have n0_ := ka (below_step (kw HB.out) hb); have n1_ := ka (hbox); have n2_ := ka ((by rw [hg]; exact (below_size (kw HB.out)) : w.heap.size ≤ gb142)); have n3_ := n2_; clear HB; have HB := n0_; have BK142 := n1_; have GW142 := n2_; have GE142 := n3_; clear n0_ n1_ n2_ n3_; clear hb hbox hg) | ((with_reducible refine gate_callee (f := 35) rfl ?_); refine kg (some 11) rfl rfl Try.func35 (by kernel_rfl) rfl #[.int .i64 a1] rfl ?_; (with_reducible refine (date_Of_s.calls a1 t143 t144 t145 t146 _ A4.out).mono ?_); rintro e w30 ⟨rfl, hb⟩; refine ⟨_, rfl, ?_⟩; have n0_ := ka (blk_below (g := gb142) (kz BK142.out) hb); have n1_ := ka (below_step (kw HB.out) hb); clear BK142; clear HB; have BK142 := n0_; have HB := n1_; clear n0_ n1_; (try clear hb); (try clear hb2); (try clear hk); (try clear hi); (try simp only [errW_none, errW_some])) | ((with_reducible refine gate_dst (N := 7) rfl ?_); refine kx (N := 7) (cs := #[.int .i64 0, .int .i64 0, .int .i64 0]) (t := 53) ?_; intro gb147 hg w31 hbox hb; have n0_ := ka (blk_below (g := gb142) (kz BK142.out) hb); have n1_ := ka (below_step (kw HB.out) hb); have n2_ := ka (hbox); have n3_ := ka ((by rw [hg]; exact (below_size (kw HB.out)) : w.heap.size ≤ gb147)); have n4_ := n3_; have n5_ := ka ((by rw [hg]; exact Nat.ne_of_lt (blk_lt (g := gb142) (kz BK142.out)) : gb142 ≠ gb147)); have n6_ := ka n5_.out.symm; clear BK142; clear HB; have BK142 := n0_; have HB := n1_; have BK147 := n2_; have GW147 := n3_; have GE147 := n4_; have NB142_147 := n5_; have NB147_142 := n6_; clear n0_ n1_ n2_ n3_ n4_ n5_ n6_; clear hb hbox hg; have hnb32 := NB147_142.out; have hnc32 := NB142_147.out; have hcz33 := blkAll3 BK147.out; have hcz34 := blkAll15 BK142.out) | ((with_reducible refine gate_callee (f := 27) rfl ?_); refine kg (some 15) rfl rfl Try.func27 (by kernel_rfl) rfl #[.agg #[.int .i64 a0_0, .int .i64 a0_1, .int .i64 a0_2, .int .i64 a0_3, .int .i64 a0_4, .int .i64 a0_5, .int .i64 a0_6, .int .i64 a0_7, .int .i64 a0_8, .int .i64 a0_9, .int .i64 a0_10, .int .i64 a0_11, .int .i64 a0_12, .int .i64 a0_13, .int .i64 a0_14]] rfl ?_; (with_reducible refine (water_Check_s.calls a0_0 a0_1 a0_2 a0_3 a0_4 a0_5 a0_6 a0_7 a0_8 a0_9 a0_10 a0_11 a0_12 a0_13 a0_14 (some q149) _ A5.out).mono ?_); rintro e w35 ⟨rfl, hb⟩; refine ⟨_, rfl, ?_⟩; have n0_ := ka (blk_below (g := gb142) (o := .cells #[.int .i64 a0_0, .int .i64 a0_1, .int .i64 a0_2, .int .i64 a0_3, .int .i64 a0_4, .int .i64 a0_5, .int .i64 a0_6, .int .i64 a0_7, .int .i64 a0_8, .int .i64 a0_9, .int .i64 a0_10, .int .i64 a0_11, .int .i64 a0_12, .int .i64 a0_13, .int .i64 a0_14] 25 (0, 0)) (by (with_reducible repeat (first | apply kb1 | apply kb2 | apply kb3 | refine kb4 ?_ NB142_147.out _)); exact BK142.out) hb); have n1_ := ka (blk_below (g := gb147) (o := .cells #[.int .i64 t143, .int .i64 t144, .int .i64 t145] 53 (0, 0)) (by (with_reducible repeat (first | apply kb1 | apply kb2 | apply kb3 | apply blkPut3_2 | apply blkPut3_1 | apply blkPut3_0)); exact BK147.out) hb); have n2_ := ka (below_step (kw HB.out) hb); clear BK142; clear BK147; clear HB; have BK142 := n0_; have BK147 := n1_; have HB := n2_; clear n0_ n1_ n2_; (try clear hb); (try clear hb2); (try clear hk); (try clear hi); (try simp only [errW_none, errW_some])) | ((with_reducible refine gate_load (T := 25) rfl ?_); first | refine load_event (g := gb142) rfl rfl rfl Try.underlying25 rfl (by (with_reducible repeat (first | apply kb1 | apply kb2 | apply kb3)); with_reducible exact BK142.out) (by kernel_rfl) ?_))
  go_ret
  exact ⟨by first | rfl | (simp [errW_none, errW_some] <;> rfl) | (simp [*, errW_none, errW_some] <;> rfl), by repeat (first | (with_reducible first | exact HB.out | apply kc1 | apply kc2 | apply kc3 | refine kc4 ?_ GE142.out | refine kc4 ?_ GE147.out) | exact HB.out)⟩

/-! ### water_may_s: function 22, told plainly -/
theorem water_may.tells (b r m f e i w fe g bal lvl du cnt sus late day a : Int) (h : M.In r ∧ M.In f ∧ M.In fe ∧ M.In du ∧ M.In day) : water_may.f b r m f e i w fe g bal lvl du cnt sus late day a = some (decide (M.askOk b r m f e i w fe g bal lvl du cnt sus late day a)) := by
 have h0 : M.In r ∧ M.In f ∧ M.In fe ∧ M.In du := ⟨h.1, h.2.1, h.2.2.1, h.2.2.2.1⟩
 have out : ¬ M.askOk b r m f e i w fe g bal lvl du cnt sus late day a → (some false : Option Bool) = some (decide (M.askOk b r m f e i w fe g bal lvl du cnt sus late day a)) := fun hn => by rw [decide_eq_false hn]
 unfold water_may.f
 by_cases h1 : -25567 ≤ day ∧ day ≤ 84005
 ·rw [date_Of_s.yes h1, Option.bind_some, water_Check_s.at_ h0, Option.bind_some]
  by_cases h2 : M.loanOk b r m f e i w fe g bal lvl du cnt sus late
  case neg => rw [if_neg h2]; exact out (fun hh => h2 hh.1)
  rw [if_pos h2, if_pos (show ((none : Option Int).isNone = true) from rfl), if_pos (show ((none : Option Int).isNone = true) from rfl)]
  by_cases h3 : a ≥ 1
  case neg => rw [if_neg h3]; exact out (fun hh => h3 hh.2.2.1)
  rw [if_pos h3, water_cents_s.at_, Option.bind_some]
  refine congrArg some (decide_eq_decide.mpr ⟨fun hc => ⟨h2, h1, h3, hc.2⟩, fun hh => ⟨by omega, hh.2.2.2⟩⟩)
 ·rw [date_Of_s.no h.2.2.2.2 h1, Option.bind_some, water_Check_s.at_ h0, Option.bind_some]
  have hn : ¬ M.askOk b r m f e i w fe g bal lvl du cnt sus late day a := fun hh => h1 hh.2.1
  by_cases h2 : M.loanOk b r m f e i w fe g bal lvl du cnt sus late
  ·rw [if_pos h2]; exact out hn
  ·rw [if_neg h2]; exact out hn
def water_may_s.f (b r m f e i w fe g bal lvl du cnt sus late day a : Int) : Option Bool := if M.In r ∧ M.In f ∧ M.In fe ∧ M.In du ∧ M.In day then some (decide (M.askOk b r m f e i w fe g bal lvl du cnt sus late day a)) else none
theorem water_may_s.calls (a0_0 : Int) (a0_1 : Int) (a0_2 : Int) (a0_3 : Int) (a0_4 : Int) (a0_5 : Int) (a0_6 : Int) (a0_7 : Int) (a0_8 : Int) (a0_9 : Int) (a0_10 : Int) (a0_11 : Int) (a0_12 : Int) (a0_13 : Int) (a0_14 : Int) (a1 : Int) (a2 : Int) (r : Bool) (w : World) (h : water_may_s.f a0_0 a0_1 a0_2 a0_3 a0_4 a0_5 a0_6 a0_7 a0_8 a0_9 a0_10 a0_11 a0_12 a0_13 a0_14 a1 a2 = some r) :
  Calls Try.prog 22 #[.agg #[.int .i64 a0_0, .int .i64 a0_1, .int .i64 a0_2, .int .i64 a0_3, .int .i64 a0_4, .int .i64 a0_5, .int .i64 a0_6, .int .i64 a0_7, .int .i64 a0_8, .int .i64 a0_9, .int .i64 a0_10, .int .i64 a0_11, .int .i64 a0_12, .int .i64 a0_13, .int .i64 a0_14], .int .i64 a1, .int .i64 a2] w fun e w' => e = .returned (.bool r) ∧ Below w.heap.size w w' := by
 unfold water_may_s.f at h
 split at h
 ·rename_i hr
  exact water_may.calls a0_0 a0_1 a0_2 a0_3 a0_4 a0_5 a0_6 a0_7 a0_8 a0_9 a0_10 a0_11 a0_12 a0_13 a0_14 a1 a2 r w ((water_may.tells a0_0 a0_1 a0_2 a0_3 a0_4 a0_5 a0_6 a0_7 a0_8 a0_9 a0_10 a0_11 a0_12 a0_13 a0_14 a1 a2 hr).trans h)
 ·cases h
theorem water_may_s.at_ {b r m f e i w fe g bal lvl du cnt sus late day a : Int} (h : M.In r ∧ M.In f ∧ M.In fe ∧ M.In du ∧ M.In day) : water_may_s.f b r m f e i w fe g bal lvl du cnt sus late day a = some (decide (M.askOk b r m f e i w fe g bal lvl du cnt sus late day a)) := by unfold water_may_s.f; rw [if_pos h]

/-! ### rate_may: function 42 -/
def rate_may.f (a0 : Int) (a1 : Int) : Option (Bool) := if a0 ≥ 0 then (if a0 ≤ 10000000000000 then (if a1 ≥ 0 then (some (decide (a1 ≤ 300000))) else (some false)) else (some false)) else (some false)
set_option maxHeartbeats 8000000 in
set_option maxRecDepth 100000 in
theorem rate_may.calls (a0 : Int) (a1 : Int) (r : Bool) (w : World) (h : rate_may.f a0 a1 = some r) :
  Calls Try.prog 42 #[.int .i64 a0, .int .i64 a1] w fun e w' => e = .returned (.bool r) ∧ Drawn0 w w' := by
 have H : (if a0 ≥ 0 then (if a0 ≤ 10000000000000 then (if a1 ≥ 0 then (some (decide (a1 ≤ 300000))) else (some false)) else (some false)) else (some false)) = some r := h
 clear h
 by_cases c3 : a0 ≥ 0
 ·rw [if_pos c3] at H
  have c3b0 : decide (0 ≤ a0) = true := decide_eq_true c3
  clear c3
  by_cases c4 : a0 ≤ 10000000000000
  ·rw [if_pos c4] at H
   have c4b0 : decide (a0 ≤ 10000000000000) = true := decide_eq_true c4
   clear c4
   by_cases c5 : a1 ≥ 0
   ·rw [if_pos c5] at H
    have c5b0 : decide (0 ≤ a1) = true := decide_eq_true c5
    clear c5
    obtain rfl := Option.some.inj H
    go_enter Try.func42, Try.ntmps42
    go_wp2
    go_ret
    exact ⟨by first | rfl | (simp; done) | (simp [*]; done), by repeat (first | exact Drawn0.refl _ | apply Drawn0.step)⟩
   ·rw [if_neg c5] at H
    have c5b0 : decide (0 ≤ a1) = false := decide_eq_false c5
    clear c5
    obtain rfl := Option.some.inj H
    go_enter Try.func42, Try.ntmps42
    go_wp2
    go_ret
    exact ⟨by first | rfl | (simp; done) | (simp [*]; done), by repeat (first | exact Drawn0.refl _ | apply Drawn0.step)⟩
  ·rw [if_neg c4] at H
   have c4b0 : decide (a0 ≤ 10000000000000) = false := decide_eq_false c4
   clear c4
   obtain rfl := Option.some.inj H
   go_enter Try.func42, Try.ntmps42
   go_wp2
   go_ret
   exact ⟨by first | rfl | (simp; done) | (simp [*]; done), by repeat (first | exact Drawn0.refl _ | apply Drawn0.step)⟩
 ·rw [if_neg c3] at H
  have c3b0 : decide (0 ≤ a0) = false := decide_eq_false c3
  clear c3
  obtain rfl := Option.some.inj H
  go_enter Try.func42, Try.ntmps42
  go_wp2
  go_ret
  exact ⟨by first | rfl | (simp; done) | (simp [*]; done), by repeat (first | exact Drawn0.refl _ | apply Drawn0.step)⟩

/-! ### cents_size: function 50 -/
def cents_size.f (a0 : Int) : Option (Int × Bool) := if a0 < 0 then (some (IntKind.u64.wrap (-(IntKind.u64.wrap (a0))), true)) else (some (IntKind.u64.wrap (a0), false))
set_option maxHeartbeats 8000000 in
set_option maxRecDepth 100000 in
theorem cents_size.calls (a0 : Int) (r1 : Int) (r2 : Bool) (w : World) (h : cents_size.f a0 = some (r1, r2)) :
  Calls Try.prog 50 #[.int .i64 a0] w fun e w' => e = .returned (.tuple #[.int .u64 r1, .bool r2]) ∧ Drawn0 w w' := by
 have H : (if a0 < 0 then (some (IntKind.u64.wrap (-(IntKind.u64.wrap (a0))), true)) else (some (IntKind.u64.wrap (a0), false))) = some (r1, r2) := h
 clear h
 by_cases c2 : a0 < 0
 ·rw [if_pos c2] at H
  have c2b0 : decide (a0 < 0) = true := decide_eq_true c2
  clear c2
  simp only [Option.some.injEq, Prod.mk.injEq] at H
  obtain ⟨rfl, rfl⟩ := H
  go_enter Try.func50, Try.ntmps50
  go_wp2
  go_ret2
  exact ⟨by first | rfl | (simp; done) | (simp [*]; done), by repeat (first | exact Drawn0.refl _ | apply Drawn0.step)⟩
 ·rw [if_neg c2] at H
  have c2b0 : decide (a0 < 0) = false := decide_eq_false c2
  clear c2
  simp only [Option.some.injEq, Prod.mk.injEq] at H
  obtain ⟨rfl, rfl⟩ := H
  go_enter Try.func50, Try.ntmps50
  go_wp2
  go_ret2
  exact ⟨by first | rfl | (simp; done) | (simp [*]; done), by repeat (first | exact Drawn0.refl _ | apply Drawn0.step)⟩

/-! ### bits_Mul64: function 51 -/
def bits_Mul64.f (a0 : Int) (a1 : Int) : Option (Int × Int) := some (IntKind.u64.wrap ((IntKind.u64.wrap ((IntKind.u64.wrap ((a0 / 4294967296) * (a1 / 4294967296))) + ((IntKind.u64.wrap ((IntKind.u64.wrap ((a0 / 4294967296) * (Go.bits .and .u64 a1 4294967295))) + ((IntKind.u64.wrap ((Go.bits .and .u64 a0 4294967295) * (Go.bits .and .u64 a1 4294967295))) / 4294967296))) / 4294967296))) + ((IntKind.u64.wrap ((Go.bits .and .u64 (IntKind.u64.wrap ((IntKind.u64.wrap ((a0 / 4294967296) * (Go.bits .and .u64 a1 4294967295))) + ((IntKind.u64.wrap ((Go.bits .and .u64 a0 4294967295) * (Go.bits .and .u64 a1 4294967295))) / 4294967296))) 4294967295) + (IntKind.u64.wrap ((Go.bits .and .u64 a0 4294967295) * (a1 / 4294967296))))) / 4294967296)), IntKind.u64.wrap (a0 * a1))
set_option maxHeartbeats 8000000 in
set_option maxRecDepth 100000 in
theorem bits_Mul64.calls (a0 : Int) (a1 : Int) (r1 : Int) (r2 : Int) (w : World) (h : bits_Mul64.f a0 a1 = some (r1, r2)) :
  Calls Try.prog 51 #[.int .u64 a0, .int .u64 a1] w fun e w' => e = .returned (.tuple #[.int .u64 r1, .int .u64 r2]) ∧ Drawn0 w w' := by
 have H : (some (IntKind.u64.wrap ((IntKind.u64.wrap ((IntKind.u64.wrap ((a0 / 4294967296) * (a1 / 4294967296))) + ((IntKind.u64.wrap ((IntKind.u64.wrap ((a0 / 4294967296) * (Go.bits .and .u64 a1 4294967295))) + ((IntKind.u64.wrap ((Go.bits .and .u64 a0 4294967295) * (Go.bits .and .u64 a1 4294967295))) / 4294967296))) / 4294967296))) + ((IntKind.u64.wrap ((Go.bits .and .u64 (IntKind.u64.wrap ((IntKind.u64.wrap ((a0 / 4294967296) * (Go.bits .and .u64 a1 4294967295))) + ((IntKind.u64.wrap ((Go.bits .and .u64 a0 4294967295) * (Go.bits .and .u64 a1 4294967295))) / 4294967296))) 4294967295) + (IntKind.u64.wrap ((Go.bits .and .u64 a0 4294967295) * (a1 / 4294967296))))) / 4294967296)), IntKind.u64.wrap (a0 * a1))) = some (r1, r2) := h
 clear h
 simp only [Option.some.injEq, Prod.mk.injEq] at H
 obtain ⟨rfl, rfl⟩ := H
 go_enter Try.func51, Try.ntmps51
 go_wp2
 go_ret2
 exact ⟨by first | rfl | (simp; done) | (simp [*]; done), by repeat (first | exact Drawn0.refl _ | apply Drawn0.step)⟩

/-! ### bits_Mul64_s: function 51, told plainly -/
theorem bits_Mul64.tells (a0 a1 : Int) (h : 0 ≤ a0 ∧ a0 < 18446744073709551616 ∧ 0 ≤ a1 ∧ a1 < 18446744073709551616) :
  bits_Mul64.f a0 a1 = some (a0 * a1 / 18446744073709551616, a0 * a1 % 18446744073709551616) := by
 obtain ⟨p0, p1, p2, p3⟩ := h
 obtain ⟨x, rfl⟩ := Int.eq_ofNat_of_zero_le p0
 obtain ⟨y, rfl⟩ := Int.eq_ofNat_of_zero_le p2
 unfold bits_Mul64.f
 rw [M.and_low _ p0 p1, M.and_low _ p2 p3]
 obtain ⟨h1, h2, h3, h4⟩ := Go.Lib.mul64_hi x y (by omega) (by omega)
 have ha := Go.Lib.half_mul_le (a := x / 4294967296) (b := y / 4294967296) (by omega) (by omega)
 have hb := Go.Lib.half_mul_le (a := x / 4294967296) (b := y % 4294967296) (by omega) (by omega)
 have hc := Go.Lib.half_mul_le (a := x % 4294967296) (b := y / 4294967296) (by omega) (by omega)
 have hd := Go.Lib.half_mul_le (a := x % 4294967296) (b := y % 4294967296) (by omega) (by omega)
 have ca : (x : Int) / 4294967296 * ((y : Int) / 4294967296) = ((x / 4294967296 * (y / 4294967296) : Nat) : Int) := by simp
 have cb : (x : Int) / 4294967296 * ((y : Int) % 4294967296) = ((x / 4294967296 * (y % 4294967296) : Nat) : Int) := by simp
 have cc : (x : Int) % 4294967296 * ((y : Int) / 4294967296) = ((x % 4294967296 * (y / 4294967296) : Nat) : Int) := by simp
 have cd : (x : Int) % 4294967296 * ((y : Int) % 4294967296) = ((x % 4294967296 * (y % 4294967296) : Nat) : Int) := by simp
 have ce : (x : Int) * (y : Int) = ((x * y : Nat) : Int) := by simp
 rw [ca, cb, cc, cd, ce]
 generalize x / 4294967296 * (y / 4294967296) = a at *
 generalize x / 4294967296 * (y % 4294967296) = b at *
 generalize x % 4294967296 * (y / 4294967296) = c at *
 generalize x % 4294967296 * (y % 4294967296) = d at *
 generalize x * y = e at *
 rw [M.wrapu_id (n := (a : Int)) (by omega) (by omega), M.wrapu_id (n := (b : Int)) (by omega) (by omega), M.wrapu_id (n := (c : Int)) (by omega) (by omega), M.wrapu_id (n := (d : Int)) (by omega) (by omega)]
 rw [M.wrapu_id (n := (b : Int) + (d : Int) / 4294967296) (by omega) (by omega)]
 rw [M.and_low _ (by omega) (by omega)]
 rw [M.wrapu_id (n := (a : Int) + ((b : Int) + (d : Int) / 4294967296) / 4294967296) (by omega) (by omega)]
 rw [M.wrapu_id (n := ((b : Int) + (d : Int) / 4294967296) % 4294967296 + (c : Int)) (by omega) (by omega)]
 rw [M.wrapu_id (by omega) (by omega), M.wrapu]
 congr 2
 omega
def bits_Mul64_s.f (a0 : Int) (a1 : Int) : Option (Int × Int) :=
 if 0 ≤ a0 ∧ a0 < 18446744073709551616 ∧ 0 ≤ a1 ∧ a1 < 18446744073709551616 then some (a0 * a1 / 18446744073709551616, a0 * a1 % 18446744073709551616) else none
theorem bits_Mul64_s.calls (a0 : Int) (a1 : Int) (r1 : Int) (r2 : Int) (w : World) (h : bits_Mul64_s.f a0 a1 = some (r1, r2)) :
  Calls Try.prog 51 #[.int .u64 a0, .int .u64 a1] w fun e w' => e = .returned (.tuple #[.int .u64 r1, .int .u64 r2]) ∧ Drawn0 w w' := by
 unfold bits_Mul64_s.f at h
 split at h
 ·rename_i hr
  exact bits_Mul64.calls a0 a1 r1 r2 w ((bits_Mul64.tells a0 a1 hr).trans h)
 ·cases h

/-! ### bits_Len64: function 61 -/
def bits_Len64.f (a0 : Int) : Option (Int) := if 0 ≤ a0 ∧ a0 < 18446744073709551616 then some (Go.Lib.bitLen a0.toNat : Int) else none
theorem bits_Len64.calls (a0 : Int) (r : Int) (w : World) (h : bits_Len64.f a0 = some r) :
  Calls Try.prog 61 #[.int .u64 a0] w fun e w' => e = .returned (.int .i64 r) ∧ Drawn0 w w' := by
 unfold bits_Len64.f at h
 split at h
 ·rename_i hr
  injection h with h
  subst h
  refine (B.len64 a0 w hr.1 (by omega)).mono ?_
  rintro e w' ⟨rfl, rfl⟩
  exact ⟨rfl, Drawn0.refl _⟩
 ·cases h

/-! ### bits_LeadingZeros64: function 58 -/
def bits_LeadingZeros64.f (a0 : Int) : Option (Int) := (bits_Len64.f a0).bind fun t152 => (some (wrap64 (64 - t152)))
set_option maxHeartbeats 8000000 in
set_option maxRecDepth 100000 in
theorem bits_LeadingZeros64.calls (a0 : Int) (r : Int) (w : World) (h : bits_LeadingZeros64.f a0 = some r) :
  Calls Try.prog 58 #[.int .u64 a0] w fun e w' => e = .returned (.int .i64 r) ∧ Drawn0 w w' := by
 have H : ((bits_Len64.f a0).bind fun t152 => (some (wrap64 (64 - t152)))) = some r := h
 clear h
 replace H := Option.bind_eq_some_iff.mp H
 obtain ⟨t152, A20, H⟩ := H
 replace H : (some (wrap64 (64 - t152))) = some r := H
 have A2 := ka A20
 clear A20
 obtain rfl := Option.some.inj H
 go_enter Try.func58, Try.ntmps58
 go_wp2_with (first | ((with_reducible refine gate_callee (f := 61) rfl ?_); refine kg (some 4) rfl rfl Try.func61 (by kernel_rfl) rfl #[.int .u64 a0] rfl ?_; (with_reducible refine (bits_Len64.calls a0 t152 _ A2.out).mono ?_); rintro e w' ⟨rfl, ⟨nd, rfl⟩⟩; refine ⟨_, rfl, ?_⟩))
 go_ret
 exact ⟨by first | rfl | (simp; done) | (simp [*]; done), by repeat (first | exact Drawn0.refl _ | apply Drawn0.step)⟩

end Go.Proofs.Ytimobafoidplaaa.P
