-- Written by a program of this session out of the translation of the seat: Lean functions and the proofs that the Go functions come to them.
import Derived.Test.YtimobafoidplaaaPx0
import Derived.Test.YtimobafoidplaaaPx5
import Derived.Test.YtimobafoidplaaaPx10
namespace Go.Proofs.Ytimobafoidplaaa.P
open Go.RowKit Go.Proofs.YtimobafoidplaaaW.PrintWords Go.Proofs.YtimobafoidplaaaW.PrintLast Go.Proofs.YtimobafoidplaaaW.PrintMore
attribute [local go_sem] max2_int min2_int max_two min_two max_three min_three max_four min_four   -- for this text's walks alone
set_option linter.unusedVariables false
set_option linter.unusedSimpArgs false

/-! ### water_Pay: function 11 -/
mutual
def water_Pay.l0 : Nat → Int → Bool → Int → Int → Int → Int → Int → Int → Int → Int → Int → Int → Int → Int → Int → Int → Int → Int → Int → Int → Int → Int → Int → Option (Int × Int × Int × Int × Int × Int × Int × Int × Int × Int × Int × Int × Int × Int × Int × Int × Int × Int × Int × Int × Int × Option Int)
 | 0, _, _, _, _, _, _, _, _, _, _, _, _, _, _, _, _, _, _, _, _, _, _, _ => none
 | k + 1, x1, x10, x210000, x210001, x210002, x210003, x210004, x210005, x210006, x210007, x210008, x210009, x210010, x210011, x210012, x210013, x210014, x214000, x214001, x214002, x214003, x214004, x214005 => if x10 = true then ((water_one_s.f x210000 x210001 x210002 x210003 x210004 x210005 x210006 x210007 x210008 x210009 x210010 x210011 x210012 x210013 x210014 x1 x214000 x214001 x214002 x214003 x214004 x214005).bind fun bt214 => (water_Pay.l0 k x1 bt214.2.2.2.2.2.2.2.2.2.2.2.2.2.2.2.2.2.2.2.2.2 bt214.1 bt214.2.1 bt214.2.2.1 bt214.2.2.2.1 bt214.2.2.2.2.1 bt214.2.2.2.2.2.1 bt214.2.2.2.2.2.2.1 bt214.2.2.2.2.2.2.2.1 bt214.2.2.2.2.2.2.2.2.1 bt214.2.2.2.2.2.2.2.2.2.1 bt214.2.2.2.2.2.2.2.2.2.2.1 bt214.2.2.2.2.2.2.2.2.2.2.2.1 bt214.2.2.2.2.2.2.2.2.2.2.2.2.1 bt214.2.2.2.2.2.2.2.2.2.2.2.2.2.1 bt214.2.2.2.2.2.2.2.2.2.2.2.2.2.2.1 bt214.2.2.2.2.2.2.2.2.2.2.2.2.2.2.2.1 bt214.2.2.2.2.2.2.2.2.2.2.2.2.2.2.2.2.1 bt214.2.2.2.2.2.2.2.2.2.2.2.2.2.2.2.2.2.1 bt214.2.2.2.2.2.2.2.2.2.2.2.2.2.2.2.2.2.2.1 bt214.2.2.2.2.2.2.2.2.2.2.2.2.2.2.2.2.2.2.2.1 bt214.2.2.2.2.2.2.2.2.2.2.2.2.2.2.2.2.2.2.2.2.1)) else (if x210009 = 0 then (some (x210000, x210001, x210002, x210003, x210004, x210005, x210006, x210007, x210008, x210009, x210010, x210011, x210012, wrap64 (x210013 - (mn x210014 x210013)), wrap64 (x210014 - (mn x210014 x210013)), x214000, x214001, x214002, x214003, mn x210014 x210013, wrap64 (x210013 - (mn x210014 x210013)), none)) else (if x210011 > x1 then (water_Pay.j1 k x210000 x210001 x210002 x210003 x210004 x210005 x210006 x210007 x210008 x210009 x210010 x210011 x210012 (wrap64 (x210013 - (mn x210014 x210013))) (wrap64 (x210014 - (mn x210014 x210013))) x214000 x214001 x214002 x214003 (mn x210014 x210013) x214005) else (water_Pay.j1 k x210000 x210001 x210002 x210003 x210004 x210005 x210006 x210007 x210008 x210009 x210010 x210011 x210012 x210013 x210014 x214000 x214001 x214002 x214003 x214004 x214005)))
def water_Pay.j1 : Nat → Int → Int → Int → Int → Int → Int → Int → Int → Int → Int → Int → Int → Int → Int → Int → Int → Int → Int → Int → Int → Int → Option (Int × Int × Int × Int × Int × Int × Int × Int × Int × Int × Int × Int × Int × Int × Int × Int × Int × Int × Int × Int × Int × Option Int)
 | 0, _, _, _, _, _, _, _, _, _, _, _, _, _, _, _, _, _, _, _, _, _ => none
 | k + 1, x210000, x210001, x210002, x210003, x210004, x210005, x210006, x210007, x210008, x210009, x210010, x210011, x210012, x210013, x210014, x214000, x214001, x214002, x214003, x214004, x214005 => some (x210000, x210001, x210002, x210003, x210004, x210005, x210006, x210007, x210008, x210009, x210010, x210011, x210012, x210013, x210014, x214000, x214001, x214002, x214003, x214004, x210013, none)
end
def water_Pay.f (k : Nat) (a0_0 : Int) (a0_1 : Int) (a0_2 : Int) (a0_3 : Int) (a0_4 : Int) (a0_5 : Int) (a0_6 : Int) (a0_7 : Int) (a0_8 : Int) (a0_9 : Int) (a0_10 : Int) (a0_11 : Int) (a0_12 : Int) (a0_13 : Int) (a0_14 : Int) (a1 : Int) (a2 : Int) : Option (Int × Int × Int × Int × Int × Int × Int × Int × Int × Int × Int × Int × Int × Int × Int × Int × Int × Int × Int × Int × Int × Option Int) := (water_may_s.f a0_0 a0_1 a0_2 a0_3 a0_4 a0_5 a0_6 a0_7 a0_8 a0_9 a0_10 a0_11 a0_12 a0_13 a0_14 a1 a2).bind fun t212 => (if t212 = true then (if (wrap64 (a0_13 + a2)) > 10000000000000 then (some (0, 0, 0, 0, 0, 0, 0, 0, 0, 0, 0, 0, 0, 0, 0, 0, 0, 0, 0, 0, 0, some 3)) else (water_Pay.l0 k a1 true a0_0 a0_1 a0_2 a0_3 a0_4 a0_5 a0_6 a0_7 a0_8 a0_9 a0_10 a0_11 a0_12 (wrap64 (a0_13 + a2)) a0_14 0 0 0 0 0 0)) else (some (0, 0, 0, 0, 0, 0, 0, 0, 0, 0, 0, 0, 0, 0, 0, 0, 0, 0, 0, 0, 0, some 1)))
theorem water_Pay.mono_l : ∀ k, (∀ y0 y1 y2 y3 y4 y5 y6 y7 y8 y9 y10 y11 y12 y13 y14 y15 y16 y17 y18 y19 y20 y21 y22, LeO (water_Pay.l0 k y0 y1 y2 y3 y4 y5 y6 y7 y8 y9 y10 y11 y12 y13 y14 y15 y16 y17 y18 y19 y20 y21 y22) (water_Pay.l0 (k + 1) y0 y1 y2 y3 y4 y5 y6 y7 y8 y9 y10 y11 y12 y13 y14 y15 y16 y17 y18 y19 y20 y21 y22)) ∧ (∀ y0 y1 y2 y3 y4 y5 y6 y7 y8 y9 y10 y11 y12 y13 y14 y15 y16 y17 y18 y19 y20, LeO (water_Pay.j1 k y0 y1 y2 y3 y4 y5 y6 y7 y8 y9 y10 y11 y12 y13 y14 y15 y16 y17 y18 y19 y20) (water_Pay.j1 (k + 1) y0 y1 y2 y3 y4 y5 y6 y7 y8 y9 y10 y11 y12 y13 y14 y15 y16 y17 y18 y19 y20))
 | 0 => ⟨fun _ _ _ _ _ _ _ _ _ _ _ _ _ _ _ _ _ _ _ _ _ _ _ r h => by simp [water_Pay.l0] at h, fun _ _ _ _ _ _ _ _ _ _ _ _ _ _ _ _ _ _ _ _ _ r h => by simp [water_Pay.j1] at h⟩
 | k + 1 => by
  obtain ⟨ih0, ih1⟩ := water_Pay.mono_l k
  refine ⟨?_, ?_⟩
  ·intro y0 y1 y2 y3 y4 y5 y6 y7 y8 y9 y10 y11 y12 y13 y14 y15 y16 y17 y18 y19 y20 y21 y22
   unfold water_Pay.l0
   repeat' first
   | (with_reducible exact ih0 _ _ _ _ _ _ _ _ _ _ _ _ _ _ _ _ _ _ _ _ _ _ _)
   | (with_reducible exact ih1 _ _ _ _ _ _ _ _ _ _ _ _ _ _ _ _ _ _ _ _ _)
   | (with_reducible exact LeO.refl _)
   | (with_reducible exact LeO.none _)
   | (with_reducible refine LeO.ite ?_ ?_)
   | (with_reducible refine LeO.bind ?_ (fun _ => ?_))
   | exact ih0 _ _ _ _ _ _ _ _ _ _ _ _ _ _ _ _ _ _ _ _ _ _ _
   | exact ih1 _ _ _ _ _ _ _ _ _ _ _ _ _ _ _ _ _ _ _ _ _
   | exact LeO.none _
   | refine LeO.ite ?_ ?_
   | refine LeO.bind ?_ (fun _ => ?_)
  ·intro y0 y1 y2 y3 y4 y5 y6 y7 y8 y9 y10 y11 y12 y13 y14 y15 y16 y17 y18 y19 y20
   unfold water_Pay.j1
   repeat' first
   | (with_reducible exact ih0 _ _ _ _ _ _ _ _ _ _ _ _ _ _ _ _ _ _ _ _ _ _ _)
   | (with_reducible exact ih1 _ _ _ _ _ _ _ _ _ _ _ _ _ _ _ _ _ _ _ _ _)
   | (with_reducible exact LeO.refl _)
   | (with_reducible exact LeO.none _)
   | (with_reducible refine LeO.ite ?_ ?_)
   | (with_reducible refine LeO.bind ?_ (fun _ => ?_))
   | exact ih0 _ _ _ _ _ _ _ _ _ _ _ _ _ _ _ _ _ _ _ _ _ _ _
   | exact ih1 _ _ _ _ _ _ _ _ _ _ _ _ _ _ _ _ _ _ _ _ _
   | exact LeO.none _
   | refine LeO.ite ?_ ?_
   | refine LeO.bind ?_ (fun _ => ?_)
theorem water_Pay.mono : ∀ a0 a1 a2 a3 a4 a5 a6 a7 a8 a9 a10 a11 a12 a13 a14 a15 a16 k, LeO (water_Pay.f k a0 a1 a2 a3 a4 a5 a6 a7 a8 a9 a10 a11 a12 a13 a14 a15 a16) (water_Pay.f (k + 1) a0 a1 a2 a3 a4 a5 a6 a7 a8 a9 a10 a11 a12 a13 a14 a15 a16) := by
 intro a0 a1 a2 a3 a4 a5 a6 a7 a8 a9 a10 a11 a12 a13 a14 a15 a16 k
 obtain ⟨ih0, ih1⟩ := water_Pay.mono_l k
 unfold water_Pay.f
 repeat' first
   | (with_reducible exact ih0 _ _ _ _ _ _ _ _ _ _ _ _ _ _ _ _ _ _ _ _ _ _ _)
   | (with_reducible exact ih1 _ _ _ _ _ _ _ _ _ _ _ _ _ _ _ _ _ _ _ _ _)
   | (with_reducible exact LeO.refl _)
   | (with_reducible exact LeO.none _)
   | (with_reducible refine LeO.ite ?_ ?_)
   | (with_reducible refine LeO.bind ?_ (fun _ => ?_))
   | exact ih0 _ _ _ _ _ _ _ _ _ _ _ _ _ _ _ _ _ _ _ _ _ _ _
   | exact ih1 _ _ _ _ _ _ _ _ _ _ _ _ _ _ _ _ _ _ _ _ _
   | exact LeO.none _
   | refine LeO.ite ?_ ?_
   | refine LeO.bind ?_ (fun _ => ?_)
set_option maxHeartbeats 8000000 in
set_option maxRecDepth 100000 in
theorem water_Pay.calls (k : Nat) (a0_0 : Int) (a0_1 : Int) (a0_2 : Int) (a0_3 : Int) (a0_4 : Int) (a0_5 : Int) (a0_6 : Int) (a0_7 : Int) (a0_8 : Int) (a0_9 : Int) (a0_10 : Int) (a0_11 : Int) (a0_12 : Int) (a0_13 : Int) (a0_14 : Int) (a1 : Int) (a2 : Int) (r1 : Int) (r2 : Int) (r3 : Int) (r4 : Int) (r5 : Int) (r6 : Int) (r7 : Int) (r8 : Int) (r9 : Int) (r10 : Int) (r11 : Int) (r12 : Int) (r13 : Int) (r14 : Int) (r15 : Int) (r16 : Int) (r17 : Int) (r18 : Int) (r19 : Int) (r20 : Int) (r21 : Int) (r22 : Option Int) (w : World) (h : water_Pay.f k a0_0 a0_1 a0_2 a0_3 a0_4 a0_5 a0_6 a0_7 a0_8 a0_9 a0_10 a0_11 a0_12 a0_13 a0_14 a1 a2 = some (r1, r2, r3, r4, r5, r6, r7, r8, r9, r10, r11, r12, r13, r14, r15, r16, r17, r18, r19, r20, r21, r22)) :
  Calls Try.prog 11 #[.agg #[.int .i64 a0_0, .int .i64 a0_1, .int .i64 a0_2, .int .i64 a0_3, .int .i64 a0_4, .int .i64 a0_5, .int .i64 a0_6, .int .i64 a0_7, .int .i64 a0_8, .int .i64 a0_9, .int .i64 a0_10, .int .i64 a0_11, .int .i64 a0_12, .int .i64 a0_13, .int .i64 a0_14], .int .i64 a1, .int .i64 a2] w fun e w' => e = .returned (.tuple #[.agg #[.int .i64 r1, .int .i64 r2, .int .i64 r3, .int .i64 r4, .int .i64 r5, .int .i64 r6, .int .i64 r7, .int .i64 r8, .int .i64 r9, .int .i64 r10, .int .i64 r11, .int .i64 r12, .int .i64 r13, .int .i64 r14, .int .i64 r15], .agg #[.int .i64 r16, .int .i64 r17, .int .i64 r18, .int .i64 r19, .int .i64 r20, .int .i64 r21], errW r22]) ∧ Below w.heap.size w w' := by
 have hu25 := Try.underlying25
 have hu28 := Try.underlying28
 have hu30 := Try.underlying30
 have hu34 := Try.underlying34
 have HB := ka (Below.refl w.heap.size w)
 have H : ((water_may_s.f a0_0 a0_1 a0_2 a0_3 a0_4 a0_5 a0_6 a0_7 a0_8 a0_9 a0_10 a0_11 a0_12 a0_13 a0_14 a1 a2).bind fun t212 => (if t212 = true then (if (wrap64 (a0_13 + a2)) > 10000000000000 then (some (0, 0, 0, 0, 0, 0, 0, 0, 0, 0, 0, 0, 0, 0, 0, 0, 0, 0, 0, 0, 0, some 3)) else (water_Pay.l0 k a1 true a0_0 a0_1 a0_2 a0_3 a0_4 a0_5 a0_6 a0_7 a0_8 a0_9 a0_10 a0_11 a0_12 (wrap64 (a0_13 + a2)) a0_14 0 0 0 0 0 0)) else (some (0, 0, 0, 0, 0, 0, 0, 0, 0, 0, 0, 0, 0, 0, 0, 0, 0, 0, 0, 0, 0, some 1)))) = some (r1, r2, r3, r4, r5, r6, r7, r8, r9, r10, r11, r12, r13, r14, r15, r16, r17, r18, r19, r20, r21, r22) := h
 clear h
 replace H := Option.bind_eq_some_iff.mp H
 obtain ⟨t212, A40, H⟩ := H
 replace H : (if t212 = true then (if (wrap64 (a0_13 + a2)) > 10000000000000 then (some (0, 0, 0, 0, 0, 0, 0, 0, 0, 0, 0, 0, 0, 0, 0, 0, 0, 0, 0, 0, 0, some 3)) else (water_Pay.l0 k a1 true a0_0 a0_1 a0_2 a0_3 a0_4 a0_5 a0_6 a0_7 a0_8 a0_9 a0_10 a0_11 a0_12 (wrap64 (a0_13 + a2)) a0_14 0 0 0 0 0 0)) else (some (0, 0, 0, 0, 0, 0, 0, 0, 0, 0, 0, 0, 0, 0, 0, 0, 0, 0, 0, 0, 0, some 1))) = some (r1, r2, r3, r4, r5, r6, r7, r8, r9, r10, r11, r12, r13, r14, r15, r16, r17, r18, r19, r20, r21, r22) := H
 have A4 := ka A40
 clear A40
 by_cases c5 : t212 = true
 ·subst c5
  have H1 : (if (wrap64 (a0_13 + a2)) > 10000000000000 then (some (0, 0, 0, 0, 0, 0, 0, 0, 0, 0, 0, 0, 0, 0, 0, 0, 0, 0, 0, 0, 0, some 3)) else (water_Pay.l0 k a1 true a0_0 a0_1 a0_2 a0_3 a0_4 a0_5 a0_6 a0_7 a0_8 a0_9 a0_10 a0_11 a0_12 (wrap64 (a0_13 + a2)) a0_14 0 0 0 0 0 0)) = some (r1, r2, r3, r4, r5, r6, r7, r8, r9, r10, r11, r12, r13, r14, r15, r16, r17, r18, r19, r20, r21, r22) := by rw [if_pos rfl] at H; exact H
  clear H
  have H := H1
  clear H1
  by_cases c6 : (wrap64 (a0_13 + a2)) > 10000000000000
  ·rw [if_pos c6] at H
   have c6b0 : decide (10000000000000 < (wrap64 (a0_13 + a2))) = true := decide_eq_true c6
   clear c6
   simp only [Option.some.injEq, Prod.mk.injEq] at H
   obtain ⟨rfl, rfl, rfl, rfl, rfl, rfl, rfl, rfl, rfl, rfl, rfl, rfl, rfl, rfl, rfl, rfl, rfl, rfl, rfl, rfl, rfl, rfl⟩ := H
   go_enter Try.func11, Try.ntmps11
   go_wp2_with (first | ((with_reducible refine gate_dst (N := 3) rfl ?_); refine kx (N := 3) (cs := #[.int .i64 a0_0, .int .i64 a0_1, .int .i64 a0_2, .int .i64 a0_3, .int .i64 a0_4, .int .i64 a0_5, .int .i64 a0_6, .int .i64 a0_7, .int .i64 a0_8, .int .i64 a0_9, .int .i64 a0_10, .int .i64 a0_11, .int .i64 a0_12, .int .i64 a0_13, .int .i64 a0_14]) (t := 25) ?_; intro gb209 hg w7 hbox hb; have n0_ := ka (below_step (kw HB.out) hb); have n1_ := ka (hbox); have n2_ := ka ((by rw [hg]; exact (below_size (kw HB.out)) : w.heap.size ≤ gb209)); have n3_ := n2_; clear HB; have HB := n0_; have BK209 := n1_; have GW209 := n2_; have GE209 := n3_; clear n0_ n1_ n2_ n3_; clear hb hbox hg) | ((with_reducible refine gate_dst (N := 6) rfl ?_); refine kx (N := 6) (cs := #[.int .i64 0, .int .i64 0, .int .i64 0, .int .i64 0, .int .i64 0, .int .i64 0, .int .i64 0, .int .i64 0, .int .i64 0, .int .i64 0, .int .i64 0, .int .i64 0, .int .i64 0, .int .i64 0, .int .i64 0]) (t := 25) ?_; intro gb210 hg w8 hbox hb; have n0_ := ka (blk_below (g := gb209) (kz BK209.out) hb); have n1_ := ka (below_step (kw HB.out) hb); have n2_ := ka (hbox); have n3_ := ka ((by rw [hg]; exact (below_size (kw HB.out)) : w.heap.size ≤ gb210)); have n4_ := n3_; have n5_ := ka ((by rw [hg]; exact Nat.ne_of_lt (blk_lt (g := gb209) (kz BK209.out)) : gb209 ≠ gb210)); have n6_ := ka n5_.out.symm; clear BK209; clear HB; have BK209 := n0_; have HB := n1_; have BK210 := n2_; have GW210 := n3_; have GE210 := n4_; have NB209_210 := n5_; have NB210_209 := n6_; clear n0_ n1_ n2_ n3_ n4_ n5_ n6_; clear hb hbox hg) | ((with_reducible refine gate_dst (N := 7) rfl ?_); refine kx (N := 7) (cs := #[.int .i64 0, .int .i64 0, .int .i64 0, .int .i64 0, .int .i64 0, .int .i64 0]) (t := 28) ?_; intro gb211 hg w9 hbox hb; have n0_ := ka (blk_below (g := gb209) (kz BK209.out) hb); have n1_ := ka (blk_below (g := gb210) (kz BK210.out) hb); have n2_ := ka (below_step (kw HB.out) hb); have n3_ := ka (hbox); have n4_ := ka ((by rw [hg]; exact (below_size (kw HB.out)) : w.heap.size ≤ gb211)); have n5_ := n4_; have n6_ := ka ((by rw [hg]; exact Nat.ne_of_lt (blk_lt (g := gb209) (kz BK209.out)) : gb209 ≠ gb211)); have n7_ := ka n6_.out.symm; have n8_ := ka ((by rw [hg]; exact Nat.ne_of_lt (blk_lt (g := gb210) (kz BK210.out)) : gb210 ≠ gb211)); have n9_ := ka n8_.out.symm; clear BK209; clear BK210; clear HB; have BK209 := n0_; have BK210 := n1_; have HB := n2_; have BK211 := n3_; have GW211 := n4_; have GE211 := n5_; have NB209_211 := n6_; have NB211_209 := n7_; have NB210_211 := n8_; have NB211_210 := n9_; clear n0_ n1_ n2_ n3_ n4_ n5_ n6_ n7_ n8_ n9_; clear hb hbox hg; have hnb10 := NB209_210.out; have hnc10 := NB210_209.out; have hnb11 := NB209_211.out; have hnc11 := NB211_209.out; have hcz12 := blkAll15 BK209.out) | ((with_reducible refine gate_callee (f := 22) rfl ?_); refine kg (some 14) rfl rfl Try.func22 (by kernel_rfl) rfl #[.agg #[.int .i64 a0_0, .int .i64 a0_1, .int .i64 a0_2, .int .i64 a0_3, .int .i64 a0_4, .int .i64 a0_5, .int .i64 a0_6, .int .i64 a0_7, .int .i64 a0_8, .int .i64 a0_9, .int .i64 a0_10, .int .i64 a0_11, .int .i64 a0_12, .int .i64 a0_13, .int .i64 a0_14], .int .i64 a1, .int .i64 a2] rfl ?_; (with_reducible refine (water_may_s.calls a0_0 a0_1 a0_2 a0_3 a0_4 a0_5 a0_6 a0_7 a0_8 a0_9 a0_10 a0_11 a0_12 a0_13 a0_14 a1 a2 true _ A4.out).mono ?_); rintro e w13 ⟨rfl, hb⟩; refine ⟨_, rfl, ?_⟩; have n0_ := ka (blk_below (g := gb209) (kz BK209.out) hb); have n1_ := ka (blk_below (g := gb210) (kz BK210.out) hb); have n2_ := ka (blk_below (g := gb211) (kz BK211.out) hb); have n3_ := ka (below_step (kw HB.out) hb); clear BK209; clear BK210; clear BK211; clear HB; have BK209 := n0_; have BK210 := n1_; have BK211 := n2_; have HB := n3_; clear n0_ n1_ n2_ n3_; (try clear hb); (try clear hb2); (try clear hk); (try clear hi); have hcz14 := blkAll15 BK209.out; have hnb15 := NB210_211.out; have hnc15 := NB211_210.out; have hcz16 := blkAll15 BK210.out; have hcz17 := blkAll6 BK211.out) | ((with_reducible refine gate_load (T := 25) rfl ?_); first | refine load_event (g := gb209) rfl rfl rfl Try.underlying25 rfl (by (with_reducible repeat (first | apply kb1 | apply kb2 | apply kb3)); with_reducible exact BK209.out) (by kernel_rfl) ?_ | refine load_event (g := gb210) rfl rfl rfl Try.underlying25 rfl (by (with_reducible repeat (first | apply kb1 | apply kb2 | apply kb3)); with_reducible exact BK210.out) (by kernel_rfl) ?_) | ((with_reducible refine gate_store (T := 25) rfl ?_); first | (refine store_event (g := gb209) rfl rfl rfl rfl rfl (by (with_reducible repeat (first | apply kb1 | apply kb2 | apply kb3)); with_reducible exact BK209.out) (by kernel_rfl) (by rfl) (by rfl) ?_; intro w_209 eX eO eB; (try (replace BK210 := ka ((eO _ NB210_209.out).trans (by (with_reducible repeat (first | apply kb1 | apply kb2 | apply kb3)); with_reducible exact BK210.out)))); (try (replace BK211 := ka ((eO _ NB211_209.out).trans (by (with_reducible repeat (first | apply kb1 | apply kb2 | apply kb3)); with_reducible exact BK211.out)))); replace BK209 := ka eX; replace HB := ka (eB _ _ (kw HB.out) GE209.out); clear eX eO eB; (try have hz209 := blkAll15 BK209.out); (try have hz210 := blkAll15 BK210.out); (try have hz211 := blkAll6 BK211.out); (try have hy210 := NB210_209.out); (try have hx210 := NB209_210.out); (try have hy211 := NB211_209.out); (try have hx211 := NB209_211.out)) | (refine store_event (g := gb210) rfl rfl rfl rfl rfl (by (with_reducible repeat (first | apply kb1 | apply kb2 | apply kb3)); with_reducible exact BK210.out) (by kernel_rfl) (by rfl) (by rfl) ?_; intro w_210 eX eO eB; (try (replace BK209 := ka ((eO _ NB209_210.out).trans (by (with_reducible repeat (first | apply kb1 | apply kb2 | apply kb3)); with_reducible exact BK209.out)))); (try (replace BK211 := ka ((eO _ NB211_210.out).trans (by (with_reducible repeat (first | apply kb1 | apply kb2 | apply kb3)); with_reducible exact BK211.out)))); replace BK210 := ka eX; replace HB := ka (eB _ _ (kw HB.out) GE210.out); clear eX eO eB; (try have hz209 := blkAll15 BK209.out); (try have hz210 := blkAll15 BK210.out); (try have hz211 := blkAll6 BK211.out); (try have hy209 := NB209_210.out); (try have hx209 := NB210_209.out); (try have hy211 := NB211_210.out); (try have hx211 := NB210_211.out))))
   refine bodyPost_ret (results_list (rs := [.cell 6 25, .cell 7 28, .tmp 8]) rfl (by simp) (.cell gb210 25 #[.int .i64 0, .int .i64 0, .int .i64 0, .int .i64 0, .int .i64 0, .int .i64 0, .int .i64 0, .int .i64 0, .int .i64 0, .int .i64 0, .int .i64 0, .int .i64 0, .int .i64 0, .int .i64 0, .int .i64 0] (0, 0) _ rfl (by (with_reducible repeat (first | apply kb1 | apply kb2 | apply kb3 | refine kb4 ?_ NB210_211.out _ | apply blkPut15_14 | apply blkPut15_13 | apply blkPut15_12 | apply blkPut15_11 | apply blkPut15_10 | apply blkPut15_9 | apply blkPut15_8 | apply blkPut15_7 | apply blkPut15_6 | apply blkPut15_5 | apply blkPut15_4 | apply blkPut15_3 | apply blkPut15_2 | apply blkPut15_1 | apply blkPut15_0)); exact BK210.out) Try.underlying25 rfl (by kernel_rfl) (.cell gb211 28 #[.int .i64 0, .int .i64 0, .int .i64 0, .int .i64 0, .int .i64 0, .int .i64 0] (0, 0) _ rfl (by (with_reducible repeat (first | apply kb1 | apply kb2 | apply kb3 | apply blkPut6_5 | apply blkPut6_4 | apply blkPut6_3 | apply blkPut6_2 | apply blkPut6_1 | apply blkPut6_0 | refine kb4 ?_ NB211_210.out _)); exact BK211.out) Try.underlying28 rfl (by kernel_rfl) (.tmp .nil)))) rfl ?_
   exact ⟨by first | rfl | (simp [errW_none, errW_some] <;> rfl) | (simp [*, errW_none, errW_some] <;> rfl), by repeat (first | (with_reducible first | exact HB.out | apply kc1 | apply kc2 | apply kc3 | refine kc4 ?_ GE209.out | refine kc4 ?_ GE210.out | refine kc4 ?_ GE211.out) | exact HB.out)⟩
  ·rw [if_neg c6] at H
   have c6b0 : decide (10000000000000 < (wrap64 (a0_13 + a2))) = false := decide_eq_false c6
   clear c6
   have H' := ka H
   clear H
   go_enter Try.func11, Try.ntmps11
   go_wp2_with (first | ((with_reducible refine gate_dst (N := 3) rfl ?_); refine kx (N := 3) (cs := #[.int .i64 a0_0, .int .i64 a0_1, .int .i64 a0_2, .int .i64 a0_3, .int .i64 a0_4, .int .i64 a0_5, .int .i64 a0_6, .int .i64 a0_7, .int .i64 a0_8, .int .i64 a0_9, .int .i64 a0_10, .int .i64 a0_11, .int .i64 a0_12, .int .i64 a0_13, .int .i64 a0_14]) (t := 25) ?_; intro gb209 hg w18 hbox hb; have n0_ := ka (below_step (kw HB.out) hb); have n1_ := ka (hbox); have n2_ := ka ((by rw [hg]; exact (below_size (kw HB.out)) : w.heap.size ≤ gb209)); have n3_ := n2_; clear HB; have HB := n0_; have BK209 := n1_; have GW209 := n2_; have GE209 := n3_; clear n0_ n1_ n2_ n3_; clear hb hbox hg) | ((with_reducible refine gate_dst (N := 6) rfl ?_); refine kx (N := 6) (cs := #[.int .i64 0, .int .i64 0, .int .i64 0, .int .i64 0, .int .i64 0, .int .i64 0, .int .i64 0, .int .i64 0, .int .i64 0, .int .i64 0, .int .i64 0, .int .i64 0, .int .i64 0, .int .i64 0, .int .i64 0]) (t := 25) ?_; intro gb210 hg w19 hbox hb; have n0_ := ka (blk_below (g := gb209) (kz BK209.out) hb); have n1_ := ka (below_step (kw HB.out) hb); have n2_ := ka (hbox); have n3_ := ka ((by rw [hg]; exact (below_size (kw HB.out)) : w.heap.size ≤ gb210)); have n4_ := n3_; have n5_ := ka ((by rw [hg]; exact Nat.ne_of_lt (blk_lt (g := gb209) (kz BK209.out)) : gb209 ≠ gb210)); have n6_ := ka n5_.out.symm; clear BK209; clear HB; have BK209 := n0_; have HB := n1_; have BK210 := n2_; have GW210 := n3_; have GE210 := n4_; have NB209_210 := n5_; have NB210_209 := n6_; clear n0_ n1_ n2_ n3_ n4_ n5_ n6_; clear hb hbox hg) | ((with_reducible refine gate_dst (N := 7) rfl ?_); refine kx (N := 7) (cs := #[.int .i64 0, .int .i64 0, .int .i64 0, .int .i64 0, .int .i64 0, .int .i64 0]) (t := 28) ?_; intro gb211 hg w20 hbox hb; have n0_ := ka (blk_below (g := gb209) (kz BK209.out) hb); have n1_ := ka (blk_below (g := gb210) (kz BK210.out) hb); have n2_ := ka (below_step (kw HB.out) hb); have n3_ := ka (hbox); have n4_ := ka ((by rw [hg]; exact (below_size (kw HB.out)) : w.heap.size ≤ gb211)); have n5_ := n4_; have n6_ := ka ((by rw [hg]; exact Nat.ne_of_lt (blk_lt (g := gb209) (kz BK209.out)) : gb209 ≠ gb211)); have n7_ := ka n6_.out.symm; have n8_ := ka ((by rw [hg]; exact Nat.ne_of_lt (blk_lt (g := gb210) (kz BK210.out)) : gb210 ≠ gb211)); have n9_ := ka n8_.out.symm; clear BK209; clear BK210; clear HB; have BK209 := n0_; have BK210 := n1_; have HB := n2_; have BK211 := n3_; have GW211 := n4_; have GE211 := n5_; have NB209_211 := n6_; have NB211_209 := n7_; have NB210_211 := n8_; have NB211_210 := n9_; clear n0_ n1_ n2_ n3_ n4_ n5_ n6_ n7_ n8_ n9_; clear hb hbox hg; have hnb21 := NB209_210.out; have hnc21 := NB210_209.out; have hnb22 := NB209_211.out; have hnc22 := NB211_209.out; have hcz23 := blkAll15 BK209.out) | ((with_reducible refine gate_callee (f := 22) rfl ?_); refine kg (some 14) rfl rfl Try.func22 (by kernel_rfl) rfl #[.agg #[.int .i64 a0_0, .int .i64 a0_1, .int .i64 a0_2, .int .i64 a0_3, .int .i64 a0_4, .int .i64 a0_5, .int .i64 a0_6, .int .i64 a0_7, .int .i64 a0_8, .int .i64 a0_9, .int .i64 a0_10, .int .i64 a0_11, .int .i64 a0_12, .int .i64 a0_13, .int .i64 a0_14], .int .i64 a1, .int .i64 a2] rfl ?_; (with_reducible refine (water_may_s.calls a0_0 a0_1 a0_2 a0_3 a0_4 a0_5 a0_6 a0_7 a0_8 a0_9 a0_10 a0_11 a0_12 a0_13 a0_14 a1 a2 true _ A4.out).mono ?_); rintro e w24 ⟨rfl, hb⟩; refine ⟨_, rfl, ?_⟩; have n0_ := ka (blk_below (g := gb209) (kz BK209.out) hb); have n1_ := ka (blk_below (g := gb210) (kz BK210.out) hb); have n2_ := ka (blk_below (g := gb211) (kz BK211.out) hb); have n3_ := ka (below_step (kw HB.out) hb); clear BK209; clear BK210; clear BK211; clear HB; have BK209 := n0_; have BK210 := n1_; have BK211 := n2_; have HB := n3_; clear n0_ n1_ n2_ n3_; (try clear hb); (try clear hb2); (try clear hk); (try clear hi); have hcz25 := blkAll15 BK209.out) | ((with_reducible refine gate_dst (N := 9) rfl ?_); refine kx (N := 9) (cs := #[.int .i64 0, .int .i64 0, .int .i64 0, .int .i64 0, .int .i64 0, .int .i64 0]) (t := 28) ?_; intro gb213 hg w26 hbox hb; have n0_ := ka (blk_below (g := gb209) (o := .cells #[.int .i64 a0_0, .int .i64 a0_1, .int .i64 a0_2, .int .i64 a0_3, .int .i64 a0_4, .int .i64 a0_5, .int .i64 a0_6, .int .i64 a0_7, .int .i64 a0_8, .int .i64 a0_9, .int .i64 a0_10, .int .i64 a0_11, .int .i64 a0_12, .int .i64 (wrap64 (a0_13 + a2)), .int .i64 a0_14] 25 (0, 0)) (by (with_reducible repeat (first | apply kb1 | apply kb2 | apply kb3)); refine blk_put (cs := #[.int .i64 a0_0, .int .i64 a0_1, .int .i64 a0_2, .int .i64 a0_3, .int .i64 a0_4, .int .i64 a0_5, .int .i64 a0_6, .int .i64 a0_7, .int .i64 a0_8, .int .i64 a0_9, .int .i64 a0_10, .int .i64 a0_11, .int .i64 a0_12, .int .i64 a0_13, .int .i64 a0_14]) ?_ 13 _ rfl; (with_reducible repeat (first | apply kb1 | apply kb2 | apply kb3)); exact BK209.out) hb); have n1_ := ka (blk_below (g := gb210) (o := .cells #[.int .i64 0, .int .i64 0, .int .i64 0, .int .i64 0, .int .i64 0, .int .i64 0, .int .i64 0, .int .i64 0, .int .i64 0, .int .i64 0, .int .i64 0, .int .i64 0, .int .i64 0, .int .i64 0, .int .i64 0] 25 (0, 0)) (by (with_reducible repeat (first | apply kb1 | apply kb2 | apply kb3)); refine kb4 ?_ NB210_209.out _; (with_reducible repeat (first | apply kb1 | apply kb2 | apply kb3)); exact BK210.out) hb); have n2_ := ka (blk_below (g := gb211) (o := .cells #[.int .i64 0, .int .i64 0, .int .i64 0, .int .i64 0, .int .i64 0, .int .i64 0] 28 (0, 0)) (by (with_reducible repeat (first | apply kb1 | apply kb2 | apply kb3)); refine kb4 ?_ NB211_209.out _; (with_reducible repeat (first | apply kb1 | apply kb2 | apply kb3)); exact BK211.out) hb); have n3_ := ka (below_step (kw HB.out) hb); have n4_ := ka (hbox); have n5_ := ka ((by rw [hg]; exact (below_size (kw HB.out)) : w.heap.size ≤ gb213)); have n6_ := n5_; have n7_ := ka ((by rw [hg]; exact Nat.ne_of_lt (blk_lt (g := gb209) (o := .cells #[.int .i64 a0_0, .int .i64 a0_1, .int .i64 a0_2, .int .i64 a0_3, .int .i64 a0_4, .int .i64 a0_5, .int .i64 a0_6, .int .i64 a0_7, .int .i64 a0_8, .int .i64 a0_9, .int .i64 a0_10, .int .i64 a0_11, .int .i64 a0_12, .int .i64 (wrap64 (a0_13 + a2)), .int .i64 a0_14] 25 (0, 0)) (by (with_reducible repeat (first | apply kb1 | apply kb2 | apply kb3)); refine blk_put (cs := #[.int .i64 a0_0, .int .i64 a0_1, .int .i64 a0_2, .int .i64 a0_3, .int .i64 a0_4, .int .i64 a0_5, .int .i64 a0_6, .int .i64 a0_7, .int .i64 a0_8, .int .i64 a0_9, .int .i64 a0_10, .int .i64 a0_11, .int .i64 a0_12, .int .i64 a0_13, .int .i64 a0_14]) ?_ 13 _ rfl; (with_reducible repeat (first | apply kb1 | apply kb2 | apply kb3)); exact BK209.out)) : gb209 ≠ gb213)); have n8_ := ka ((by rw [hg]; exact Nat.ne_of_gt (blk_lt (g := gb209) (o := .cells #[.int .i64 a0_0, .int .i64 a0_1, .int .i64 a0_2, .int .i64 a0_3, .int .i64 a0_4, .int .i64 a0_5, .int .i64 a0_6, .int .i64 a0_7, .int .i64 a0_8, .int .i64 a0_9, .int .i64 a0_10, .int .i64 a0_11, .int .i64 a0_12, .int .i64 (wrap64 (a0_13 + a2)), .int .i64 a0_14] 25 (0, 0)) (by (with_reducible repeat (first | apply kb1 | apply kb2 | apply kb3)); refine blk_put (cs := #[.int .i64 a0_0, .int .i64 a0_1, .int .i64 a0_2, .int .i64 a0_3, .int .i64 a0_4, .int .i64 a0_5, .int .i64 a0_6, .int .i64 a0_7, .int .i64 a0_8, .int .i64 a0_9, .int .i64 a0_10, .int .i64 a0_11, .int .i64 a0_12, .int .i64 a0_13, .int .i64 a0_14]) ?_ 13 _ rfl; (with_reducible repeat (first | apply kb1 | apply kb2 | apply kb3)); exact BK209.out)) : gb213 ≠ gb209)); have n9_ := ka ((by rw [hg]; exact Nat.ne_of_lt (blk_lt (g := gb210) (o := .cells #[.int .i64 0, .int .i64 0, .int .i64 0, .int .i64 0, .int .i64 0, .int .i64 0, .int .i64 0, .int .i64 0, .int .i64 0, .int .i64 0, .int .i64 0, .int .i64 0, .int .i64 0, .int .i64 0, .int .i64 0] 25 (0, 0)) (by (with_reducible repeat (first | apply kb1 | apply kb2 | apply kb3)); refine kb4 ?_ NB210_209.out _; (with_reducible repeat (first | apply kb1 | apply kb2 | apply kb3)); exact BK210.out)) : gb210 ≠ gb213)); have n10_ := ka ((by rw [hg]; exact Nat.ne_of_gt (blk_lt (g := gb210) (o := .cells #[.int .i64 0, .int .i64 0, .int .i64 0, .int .i64 0, .int .i64 0, .int .i64 0, .int .i64 0, .int .i64 0, .int .i64 0, .int .i64 0, .int .i64 0, .int .i64 0, .int .i64 0, .int .i64 0, .int .i64 0] 25 (0, 0)) (by (with_reducible repeat (first | apply kb1 | apply kb2 | apply kb3)); refine kb4 ?_ NB210_209.out _; (with_reducible repeat (first | apply kb1 | apply kb2 | apply kb3)); exact BK210.out)) : gb213 ≠ gb210)); have n11_ := ka ((by rw [hg]; exact Nat.ne_of_lt (blk_lt (g := gb211) (o := .cells #[.int .i64 0, .int .i64 0, .int .i64 0, .int .i64 0, .int .i64 0, .int .i64 0] 28 (0, 0)) (by (with_reducible repeat (first | apply kb1 | apply kb2 | apply kb3)); refine kb4 ?_ NB211_209.out _; (with_reducible repeat (first | apply kb1 | apply kb2 | apply kb3)); exact BK211.out)) : gb211 ≠ gb213)); have n12_ := ka ((by rw [hg]; exact Nat.ne_of_gt (blk_lt (g := gb211) (o := .cells #[.int .i64 0, .int .i64 0, .int .i64 0, .int .i64 0, .int .i64 0, .int .i64 0] 28 (0, 0)) (by (with_reducible repeat (first | apply kb1 | apply kb2 | apply kb3)); refine kb4 ?_ NB211_209.out _; (with_reducible repeat (first | apply kb1 | apply kb2 | apply kb3)); exact BK211.out)) : gb213 ≠ gb211)); clear BK209; clear BK210; clear BK211; clear HB; have BK209 := n0_; have BK210 := n1_; have BK211 := n2_; have HB := n3_; have BK213 := n4_; have GW213 := n5_; have GE213 := n6_; have NB209_213 := n7_; have NB213_209 := n8_; have NB210_213 := n9_; have NB213_210 := n10_; have NB211_213 := n11_; have NB213_211 := n12_; clear n0_ n1_ n2_ n3_ n4_ n5_ n6_ n7_ n8_ n9_ n10_ n11_ n12_; clear hb hbox hg) | ((with_reducible refine gate_load (T := 25) rfl ?_); first | refine load_event (g := gb209) rfl rfl rfl Try.underlying25 rfl (by (with_reducible repeat (first | apply kb1 | apply kb2 | apply kb3)); with_reducible exact BK209.out) (by kernel_rfl) ?_ | refine load_event (g := gb210) rfl rfl rfl Try.underlying25 rfl (by (with_reducible repeat (first | apply kb1 | apply kb2 | apply kb3)); with_reducible exact BK210.out) (by kernel_rfl) ?_) | ((with_reducible refine gate_store (T := 25) rfl ?_); first | (refine store_event (g := gb209) rfl rfl rfl rfl rfl (by (with_reducible repeat (first | apply kb1 | apply kb2 | apply kb3)); with_reducible exact BK209.out) (by kernel_rfl) (by rfl) (by rfl) ?_; intro w_209 eX eO eB; (try (replace BK210 := ka ((eO _ NB210_209.out).trans (by (with_reducible repeat (first | apply kb1 | apply kb2 | apply kb3)); with_reducible exact BK210.out)))); (try (replace BK211 := ka ((eO _ NB211_209.out).trans (by (with_reducible repeat (first | apply kb1 | apply kb2 | apply kb3)); with_reducible exact BK211.out)))); (try (replace BK213 := ka ((eO _ NB213_209.out).trans (by (with_reducible repeat (first | apply kb1 | apply kb2 | apply kb3)); with_reducible exact BK213.out)))); replace BK209 := ka eX; replace HB := ka (eB _ _ (kw HB.out) GE209.out); clear eX eO eB; (try have hz209 := blkAll15 BK209.out); (try have hz210 := blkAll15 BK210.out); (try have hz211 := blkAll6 BK211.out); (try have hz213 := blkAll6 BK213.out); (try have hy210 := NB210_209.out); (try have hx210 := NB209_210.out); (try have hy211 := NB211_209.out); (try have hx211 := NB209_211.out); (try have hy213 := NB213_209.out); (try have hx213 := NB209_213.out)) | (refine store_event (g := gb210) rfl rfl rfl rfl rfl (by (with_reducible repeat (first | apply kb1 | apply kb2 | apply kb3)); with_reducible exact BK210.out) (by kernel_rfl) (by rfl) (by rfl) ?_; intro w_210 eX eO eB; (try (replace BK209 := ka ((eO _ NB209_210.out).trans (by (with_reducible repeat (first | apply kb1 | apply kb2 | apply kb3)); with_reducible exact BK209.out)))); (try (replace BK211 := ka ((eO _ NB211_210.out).trans (by (with_reducible repeat (first | apply kb1 | apply kb2 | apply kb3)); with_reducible exact BK211.out)))); (try (replace BK213 := ka ((eO _ NB213_210.out).trans (by (with_reducible repeat (first | apply kb1 | apply kb2 | apply kb3)); with_reducible exact BK213.out)))); replace BK210 := ka eX; replace HB := ka (eB _ _ (kw HB.out) GE210.out); clear eX eO eB; (try have hz209 := blkAll15 BK209.out); (try have hz210 := blkAll15 BK210.out); (try have hz211 := blkAll6 BK211.out); (try have hz213 := blkAll6 BK213.out); (try have hy209 := NB209_210.out); (try have hx209 := NB210_209.out); (try have hy211 := NB211_210.out); (try have hx211 := NB210_211.out); (try have hy213 := NB213_210.out); (try have hx213 := NB210_213.out))))
   (try simp only [Act.put, List.setIfInBounds_toArray, List.set_cons_zero, List.set_cons_succ])
   go_loopg [10] k (fun kq v10 w' => ∃ (x10_1 : Bool) (x210000_1 : Int) (x210001_1 : Int) (x210002_1 : Int) (x210003_1 : Int) (x210004_1 : Int) (x210005_1 : Int) (x210006_1 : Int) (x210007_1 : Int) (x210008_1 : Int) (x210009_1 : Int) (x210010_1 : Int) (x210011_1 : Int) (x210012_1 : Int) (x210013_1 : Int) (x210014_1 : Int) (x214000_1 : Int) (x214001_1 : Int) (x214002_1 : Int) (x214003_1 : Int) (x214004_1 : Int) (x214005_1 : Int), v10 = .bool x10_1 ∧ Aside0 (water_Pay.l0 kq a1 x10_1 x210000_1 x210001_1 x210002_1 x210003_1 x210004_1 x210005_1 x210006_1 x210007_1 x210008_1 x210009_1 x210010_1 x210011_1 x210012_1 x210013_1 x210014_1 x214000_1 x214001_1 x214002_1 x214003_1 x214004_1 x214005_1 = some (r1, r2, r3, r4, r5, r6, r7, r8, r9, r10, r11, r12, r13, r14, r15, r16, r17, r18, r19, r20, r21, r22)) ∧ Aside0 (kq ≤ k) ∧ Aside0 (w'.heap[gb209]? = some (.cells #[.int .i64 x210000_1, .int .i64 x210001_1, .int .i64 x210002_1, .int .i64 x210003_1, .int .i64 x210004_1, .int .i64 x210005_1, .int .i64 x210006_1, .int .i64 x210007_1, .int .i64 x210008_1, .int .i64 x210009_1, .int .i64 x210010_1, .int .i64 x210011_1, .int .i64 x210012_1, .int .i64 x210013_1, .int .i64 x210014_1] 25 (0, 0))) ∧ Aside0 (w'.heap[gb210]? = some (.cells #[.int .i64 0, .int .i64 0, .int .i64 0, .int .i64 0, .int .i64 0, .int .i64 0, .int .i64 0, .int .i64 0, .int .i64 0, .int .i64 0, .int .i64 0, .int .i64 0, .int .i64 0, .int .i64 0, .int .i64 0] 25 (0, 0))) ∧ Aside0 (w'.heap[gb211]? = some (.cells #[.int .i64 0, .int .i64 0, .int .i64 0, .int .i64 0, .int .i64 0, .int .i64 0] 28 (0, 0))) ∧ Aside0 (w'.heap[gb213]? = some (.cells #[.int .i64 x214000_1, .int .i64 x214001_1, .int .i64 x214002_1, .int .i64 x214003_1, .int .i64 x214004_1, .int .i64 x214005_1] 28 (0, 0))) ∧ Aside0 (Below w.heap.size w w'))
   case atStart => exact ⟨(true), (a0_0), (a0_1), (a0_2), (a0_3), (a0_4), (a0_5), (a0_6), (a0_7), (a0_8), (a0_9), (a0_10), (a0_11), (a0_12), (wrap64 (a0_13 + a2)), (a0_14), (0), (0), (0), (0), (0), (0), (by first | rfl | (simp; done) | (simp [*]; done)), H', ⟨Nat.le_refl _⟩, ⟨by (with_reducible repeat (first | apply kb1 | apply kb2 | apply kb3)); exact BK209.out⟩, ⟨by (with_reducible repeat (first | apply kb1 | apply kb2 | apply kb3)); exact BK210.out⟩, ⟨by (with_reducible repeat (first | apply kb1 | apply kb2 | apply kb3)); exact BK211.out⟩, ⟨by (with_reducible repeat (first | apply kb1 | apply kb2 | apply kb3)); exact BK213.out⟩, ⟨by repeat (first | (with_reducible first | exact HB.out | apply kc1 | apply kc2 | apply kc3 | refine kc4 ?_ GE209.out | refine kc4 ?_ GE210.out | refine kc4 ?_ GE211.out | refine kc4 ?_ GE213.out) | exact HB.out)⟩⟩
   case round =>
    clear H'
    try clear c1
    try clear c2
    try clear p2
    try clear c5
    try clear c6
    try clear c6b0
    try clear p6
    try clear c10
    try clear c11
    try clear c15
    try clear c21
    try clear c22
    try clear hcz12
    try clear hcz14
    try clear hcz16
    try clear hcz17
    try clear hcz23
    try clear hcz25
    obtain ⟨x10_1, x210000_1, x210001_1, x210002_1, x210003_1, x210004_1, x210005_1, x210006_1, x210007_1, x210008_1, x210009_1, x210010_1, x210011_1, x210012_1, x210013_1, x210014_1, x214000_1, x214001_1, x214002_1, x214003_1, x214004_1, x214005_1, rfl, HA, HK1, BK209, BK210, BK211, BK213, HB⟩ := hrel
    cases gk with
    | zero => exact absurd HA.out (by simp [water_Pay.l0])
    | succ k1 =>
     have H := HA.out
     clear HA
     simp only [water_Pay.l0] at H
     by_cases c27 : x10_1 = true
     ·subst c27
      have H1 : ((water_one_s.f x210000_1 x210001_1 x210002_1 x210003_1 x210004_1 x210005_1 x210006_1 x210007_1 x210008_1 x210009_1 x210010_1 x210011_1 x210012_1 x210013_1 x210014_1 a1 x214000_1 x214001_1 x214002_1 x214003_1 x214004_1 x214005_1).bind fun bt214 => (water_Pay.l0 k1 a1 bt214.2.2.2.2.2.2.2.2.2.2.2.2.2.2.2.2.2.2.2.2.2 bt214.1 bt214.2.1 bt214.2.2.1 bt214.2.2.2.1 bt214.2.2.2.2.1 bt214.2.2.2.2.2.1 bt214.2.2.2.2.2.2.1 bt214.2.2.2.2.2.2.2.1 bt214.2.2.2.2.2.2.2.2.1 bt214.2.2.2.2.2.2.2.2.2.1 bt214.2.2.2.2.2.2.2.2.2.2.1 bt214.2.2.2.2.2.2.2.2.2.2.2.1 bt214.2.2.2.2.2.2.2.2.2.2.2.2.1 bt214.2.2.2.2.2.2.2.2.2.2.2.2.2.1 bt214.2.2.2.2.2.2.2.2.2.2.2.2.2.2.1 bt214.2.2.2.2.2.2.2.2.2.2.2.2.2.2.2.1 bt214.2.2.2.2.2.2.2.2.2.2.2.2.2.2.2.2.1 bt214.2.2.2.2.2.2.2.2.2.2.2.2.2.2.2.2.2.1 bt214.2.2.2.2.2.2.2.2.2.2.2.2.2.2.2.2.2.2.1 bt214.2.2.2.2.2.2.2.2.2.2.2.2.2.2.2.2.2.2.2.1 bt214.2.2.2.2.2.2.2.2.2.2.2.2.2.2.2.2.2.2.2.2.1)) = some (r1, r2, r3, r4, r5, r6, r7, r8, r9, r10, r11, r12, r13, r14, r15, r16, r17, r18, r19, r20, r21, r22) := by rw [if_pos rfl] at H; exact H
      clear H
      have H := H1
      clear H1
      replace H := Option.bind_eq_some_iff.mp H
      obtain ⟨⟨t214, t215, t216, t217, t218, t219, t220, t221, t222, t223, t224, t225, t226, t227, t228, t229, t230, t231, t232, t233, t234, t235⟩, A280, H⟩ := H
      replace H : (water_Pay.l0 k1 a1 t235 t214 t215 t216 t217 t218 t219 t220 t221 t222 t223 t224 t225 t226 t227 t228 t229 t230 t231 t232 t233 t234) = some (r1, r2, r3, r4, r5, r6, r7, r8, r9, r10, r11, r12, r13, r14, r15, r16, r17, r18, r19, r20, r21, r22) := H
      have A28 := ka A280
      clear A280
      have H' := ka H
      clear H
      have hnb29 := NB209_210.out
      have hnc29 := NB210_209.out
      have hnb30 := NB209_211.out
      have hnc30 := NB211_209.out
      have hnb31 := NB209_213.out
      have hnc31 := NB213_209.out
      have hcz32 := blkAll15 BK209.out
      have hnb33 := NB213_210.out
      have hnc33 := NB210_213.out
      have hnb34 := NB213_211.out
      have hnc34 := NB211_213.out
      have hcz35 := blkAll6 BK213.out
      go_wp2_with (first | ((with_reducible refine gate_callee (f := 23) rfl ?_); refine kg (some 37) rfl rfl Try.func23 (by kernel_rfl) rfl #[.agg #[.int .i64 x210000_1, .int .i64 x210001_1, .int .i64 x210002_1, .int .i64 x210003_1, .int .i64 x210004_1, .int .i64 x210005_1, .int .i64 x210006_1, .int .i64 x210007_1, .int .i64 x210008_1, .int .i64 x210009_1, .int .i64 x210010_1, .int .i64 x210011_1, .int .i64 x210012_1, .int .i64 x210013_1, .int .i64 x210014_1], .int .i64 a1, .agg #[.int .i64 x214000_1, .int .i64 x214001_1, .int .i64 x214002_1, .int .i64 x214003_1, .int .i64 x214004_1, .int .i64 x214005_1]] rfl ?_; (with_reducible refine (water_one_s.calls x210000_1 x210001_1 x210002_1 x210003_1 x210004_1 x210005_1 x210006_1 x210007_1 x210008_1 x210009_1 x210010_1 x210011_1 x210012_1 x210013_1 x210014_1 a1 x214000_1 x214001_1 x214002_1 x214003_1 x214004_1 x214005_1 t214 t215 t216 t217 t218 t219 t220 t221 t222 t223 t224 t225 t226 t227 t228 t229 t230 t231 t232 t233 t234 t235 _ A28.out).mono ?_); rintro e w36 ⟨rfl, hb⟩; refine ⟨_, rfl, ?_⟩; have n0_ := ka (blk_below (g := gb209) (kz BK209.out) hb); have n1_ := ka (blk_below (g := gb210) (kz BK210.out) hb); have n2_ := ka (blk_below (g := gb211) (kz BK211.out) hb); have n3_ := ka (blk_below (g := gb213) (kz BK213.out) hb); have n4_ := ka (below_step (kw HB.out) hb); clear BK209; clear BK210; clear BK211; clear BK213; clear HB; have BK209 := n0_; have BK210 := n1_; have BK211 := n2_; have BK213 := n3_; have HB := n4_; clear n0_ n1_ n2_ n3_ n4_; (try clear hb); (try clear hb2); (try clear hk); (try clear hi); have hcz37 := blkAll15 BK209.out; have hcz38 := blkAll6 BK213.out) | ((with_reducible refine gate_load (T := 25) rfl ?_); first | refine load_event (g := gb209) rfl rfl rfl Try.underlying25 rfl (by (with_reducible repeat (first | apply kb1 | apply kb2 | apply kb3)); with_reducible exact BK209.out) (by kernel_rfl) ?_ | refine load_event (g := gb210) rfl rfl rfl Try.underlying25 rfl (by (with_reducible repeat (first | apply kb1 | apply kb2 | apply kb3)); with_reducible exact BK210.out) (by kernel_rfl) ?_) | ((with_reducible refine gate_store (T := 25) rfl ?_); first | (refine store_event (g := gb209) rfl rfl rfl rfl rfl (by (with_reducible repeat (first | apply kb1 | apply kb2 | apply kb3)); with_reducible exact BK209.out) (by kernel_rfl) (by rfl) (by rfl) ?_; intro w_209 eX eO eB; (try (replace BK210 := ka ((eO _ NB210_209.out).trans (by (with_reducible repeat (first | apply kb1 | apply kb2 | apply kb3)); with_reducible exact BK210.out)))); (try (replace BK211 := ka ((eO _ NB211_209.out).trans (by (with_reducible repeat (first | apply kb1 | apply kb2 | apply kb3)); with_reducible exact BK211.out)))); (try (replace BK213 := ka ((eO _ NB213_209.out).trans (by (with_reducible repeat (first | apply kb1 | apply kb2 | apply kb3)); with_reducible exact BK213.out)))); replace BK209 := ka eX; replace HB := ka (eB _ _ (kw HB.out) GE209.out); clear eX eO eB; (try have hz209 := blkAll15 BK209.out); (try have hz210 := blkAll15 BK210.out); (try have hz211 := blkAll6 BK211.out); (try have hz213 := blkAll6 BK213.out); (try have hy210 := NB210_209.out); (try have hx210 := NB209_210.out); (try have hy211 := NB211_209.out); (try have hx211 := NB209_211.out); (try have hy213 := NB213_209.out); (try have hx213 := NB209_213.out)) | (refine store_event (g := gb210) rfl rfl rfl rfl rfl (by (with_reducible repeat (first | apply kb1 | apply kb2 | apply kb3)); with_reducible exact BK210.out) (by kernel_rfl) (by rfl) (by rfl) ?_; intro w_210 eX eO eB; (try (replace BK209 := ka ((eO _ NB209_210.out).trans (by (with_reducible repeat (first | apply kb1 | apply kb2 | apply kb3)); with_reducible exact BK209.out)))); (try (replace BK211 := ka ((eO _ NB211_210.out).trans (by (with_reducible repeat (first | apply kb1 | apply kb2 | apply kb3)); with_reducible exact BK211.out)))); (try (replace BK213 := ka ((eO _ NB213_210.out).trans (by (with_reducible repeat (first | apply kb1 | apply kb2 | apply kb3)); with_reducible exact BK213.out)))); replace BK210 := ka eX; replace HB := ka (eB _ _ (kw HB.out) GE210.out); clear eX eO eB; (try have hz209 := blkAll15 BK209.out); (try have hz210 := blkAll15 BK210.out); (try have hz211 := blkAll6 BK211.out); (try have hz213 := blkAll6 BK213.out); (try have hy209 := NB209_210.out); (try have hx209 := NB210_209.out); (try have hy211 := NB211_210.out); (try have hx211 := NB210_211.out); (try have hy213 := NB213_210.out); (try have hx213 := NB210_213.out))))
      go_roundg k1
      case measure => have := HK1.out; omega
      case rel => exact ⟨(t235), (t214), (t215), (t216), (t217), (t218), (t219), (t220), (t221), (t222), (t223), (t224), (t225), (t226), (t227), (t228), (t229), (t230), (t231), (t232), (t233), (t234), (by first | rfl | (simp; done) | (simp [*]; done)), H', ⟨by have := HK1.out; omega⟩, ⟨by (with_reducible repeat (first | apply kb1 | apply kb2 | apply kb3 | refine kb4 ?_ NB209_213.out _ | apply blkPut15_14 | apply blkPut15_13 | apply blkPut15_12 | apply blkPut15_11 | apply blkPut15_10 | apply blkPut15_9 | apply blkPut15_8 | apply blkPut15_7 | apply blkPut15_6 | apply blkPut15_5 | apply blkPut15_4 | apply blkPut15_3 | apply blkPut15_2 | apply blkPut15_1 | apply blkPut15_0)); exact BK209.out⟩, ⟨by (with_reducible repeat (first | apply kb1 | apply kb2 | apply kb3 | refine kb4 ?_ NB210_213.out _ | refine kb4 ?_ NB210_209.out _)); exact BK210.out⟩, ⟨by (with_reducible repeat (first | apply kb1 | apply kb2 | apply kb3 | refine kb4 ?_ NB211_213.out _ | refine kb4 ?_ NB211_209.out _)); exact BK211.out⟩, ⟨by (with_reducible repeat (first | apply kb1 | apply kb2 | apply kb3 | apply blkPut6_5 | apply blkPut6_4 | apply blkPut6_3 | apply blkPut6_2 | apply blkPut6_1 | apply blkPut6_0 | refine kb4 ?_ NB213_209.out _)); exact BK213.out⟩, ⟨by repeat (first | (with_reducible first | exact HB.out | apply kc1 | apply kc2 | apply kc3 | refine kc4 ?_ GE209.out | refine kc4 ?_ GE210.out | refine kc4 ?_ GE211.out | refine kc4 ?_ GE213.out) | exact HB.out)⟩⟩
     ·replace c27 := Bool.eq_false_iff.mpr c27
      subst c27
      have H1 : (if x210009_1 = 0 then (some (x210000_1, x210001_1, x210002_1, x210003_1, x210004_1, x210005_1, x210006_1, x210007_1, x210008_1, x210009_1, x210010_1, x210011_1, x210012_1, wrap64 (x210013_1 - (mn x210014_1 x210013_1)), wrap64 (x210014_1 - (mn x210014_1 x210013_1)), x214000_1, x214001_1, x214002_1, x214003_1, mn x210014_1 x210013_1, wrap64 (x210013_1 - (mn x210014_1 x210013_1)), none)) else (if x210011_1 > a1 then (water_Pay.j1 k1 x210000_1 x210001_1 x210002_1 x210003_1 x210004_1 x210005_1 x210006_1 x210007_1 x210008_1 x210009_1 x210010_1 x210011_1 x210012_1 (wrap64 (x210013_1 - (mn x210014_1 x210013_1))) (wrap64 (x210014_1 - (mn x210014_1 x210013_1))) x214000_1 x214001_1 x214002_1 x214003_1 (mn x210014_1 x210013_1) x214005_1) else (water_Pay.j1 k1 x210000_1 x210001_1 x210002_1 x210003_1 x210004_1 x210005_1 x210006_1 x210007_1 x210008_1 x210009_1 x210010_1 x210011_1 x210012_1 x210013_1 x210014_1 x214000_1 x214001_1 x214002_1 x214003_1 x214004_1 x214005_1))) = some (r1, r2, r3, r4, r5, r6, r7, r8, r9, r10, r11, r12, r13, r14, r15, r16, r17, r18, r19, r20, r21, r22) := by rw [if_neg (show ¬ (false = true) by decide)] at H; exact H
      clear H
      have H := H1
      clear H1
      by_cases c39 : x210009_1 = 0
      ·rw [if_pos c39] at H
       have c39b0 : (x210009_1 == 0) = true := beq_iff_eq.mpr c39
       have c39b1 : (x210009_1 != 0) = false := bne_eq_false_iff_eq.mpr c39
       clear c39
       obtain ⟨ji40, hji40⟩ : ∃ j_ : Int, (mn x210014_1 x210013_1) = j_ := ⟨_, rfl⟩
       replace H : (some (x210000_1, x210001_1, x210002_1, x210003_1, x210004_1, x210005_1, x210006_1, x210007_1, x210008_1, x210009_1, x210010_1, x210011_1, x210012_1, wrap64 (x210013_1 - (ji40)), wrap64 (x210014_1 - (ji40)), x214000_1, x214001_1, x214002_1, x214003_1, ji40, wrap64 (x210013_1 - (ji40)), none)) = some (r1, r2, r3, r4, r5, r6, r7, r8, r9, r10, r11, r12, r13, r14, r15, r16, r17, r18, r19, r20, r21, r22) := by first | (rw [hji40] at H; exact H) | (simp only [hji40] at H ⊢; exact H)
       have hji40_ : (if x210013_1 < x210014_1 then x210013_1 else x210014_1) = ji40 := hji40
       simp only [Option.some.injEq, Prod.mk.injEq] at H
       obtain ⟨rfl, rfl, rfl, rfl, rfl, rfl, rfl, rfl, rfl, rfl, rfl, rfl, rfl, rfl, rfl, rfl, rfl, rfl, rfl, rfl, rfl, rfl⟩ := H
       have hnb41 := NB209_210.out
       have hnc41 := NB210_209.out
       have hnb42 := NB209_211.out
       have hnc42 := NB211_209.out
       have hnb43 := NB209_213.out
       have hnc43 := NB213_209.out
       have hcz44 := blkAll15 BK209.out
       have hnb45 := NB213_210.out
       have hnc45 := NB210_213.out
       have hnb46 := NB213_211.out
       have hnc46 := NB211_213.out
       have hcz47 := blkAll6 BK213.out
       try go_wp2
       have n0_ : Aside0 (((((wr.setCell ⟨gb213, 4, none⟩ (.int .i64 ji40)).setCell ⟨gb209, 14, none⟩ (.int .i64 (wrap64 (x210014_1 - (ji40))))).setCell ⟨gb209, 13, none⟩ (.int .i64 (wrap64 (x210013_1 - (ji40))))).setCell ⟨gb213, 5, none⟩ (.int .i64 (wrap64 (x210013_1 - (ji40))))).heap[gb209]? = some (.cells #[.int .i64 x210000_1, .int .i64 x210001_1, .int .i64 x210002_1, .int .i64 x210003_1, .int .i64 x210004_1, .int .i64 x210005_1, .int .i64 x210006_1, .int .i64 x210007_1, .int .i64 x210008_1, .int .i64 x210009_1, .int .i64 x210010_1, .int .i64 x210011_1, .int .i64 x210012_1, .int .i64 (wrap64 (x210013_1 - (ji40))), .int .i64 (wrap64 (x210014_1 - (ji40)))] 25 (0, 0))) := ⟨by (with_reducible repeat (first | apply kb1 | apply kb2 | apply kb3 | refine kb4 ?_ NB209_213.out _ | apply blkPut15_13 | apply blkPut15_14)); exact BK209.out⟩
       have n1_ : Aside0 (((((wr.setCell ⟨gb213, 4, none⟩ (.int .i64 ji40)).setCell ⟨gb209, 14, none⟩ (.int .i64 (wrap64 (x210014_1 - (ji40))))).setCell ⟨gb209, 13, none⟩ (.int .i64 (wrap64 (x210013_1 - (ji40))))).setCell ⟨gb213, 5, none⟩ (.int .i64 (wrap64 (x210013_1 - (ji40))))).heap[gb210]? = some (.cells #[.int .i64 0, .int .i64 0, .int .i64 0, .int .i64 0, .int .i64 0, .int .i64 0, .int .i64 0, .int .i64 0, .int .i64 0, .int .i64 0, .int .i64 0, .int .i64 0, .int .i64 0, .int .i64 0, .int .i64 0] 25 (0, 0))) := ⟨by (with_reducible repeat (first | apply kb1 | apply kb2 | apply kb3 | refine kb4 ?_ NB210_213.out _ | refine kb4 ?_ NB210_209.out _)); exact BK210.out⟩
       have n2_ : Aside0 (((((wr.setCell ⟨gb213, 4, none⟩ (.int .i64 ji40)).setCell ⟨gb209, 14, none⟩ (.int .i64 (wrap64 (x210014_1 - (ji40))))).setCell ⟨gb209, 13, none⟩ (.int .i64 (wrap64 (x210013_1 - (ji40))))).setCell ⟨gb213, 5, none⟩ (.int .i64 (wrap64 (x210013_1 - (ji40))))).heap[gb211]? = some (.cells #[.int .i64 0, .int .i64 0, .int .i64 0, .int .i64 0, .int .i64 0, .int .i64 0] 28 (0, 0))) := ⟨by (with_reducible repeat (first | apply kb1 | apply kb2 | apply kb3 | refine kb4 ?_ NB211_213.out _ | refine kb4 ?_ NB211_209.out _)); exact BK211.out⟩
       have n3_ : Aside0 (((((wr.setCell ⟨gb213, 4, none⟩ (.int .i64 ji40)).setCell ⟨gb209, 14, none⟩ (.int .i64 (wrap64 (x210014_1 - (ji40))))).setCell ⟨gb209, 13, none⟩ (.int .i64 (wrap64 (x210013_1 - (ji40))))).setCell ⟨gb213, 5, none⟩ (.int .i64 (wrap64 (x210013_1 - (ji40))))).heap[gb213]? = some (.cells #[.int .i64 x214000_1, .int .i64 x214001_1, .int .i64 x214002_1, .int .i64 x214003_1, .int .i64 ji40, .int .i64 (wrap64 (x210013_1 - (ji40)))] 28 (0, 0))) := ⟨by (with_reducible repeat (first | apply kb1 | apply kb2 | apply kb3 | apply blkPut6_5 | refine kb4 ?_ NB213_209.out _ | apply blkPut6_4)); exact BK213.out⟩
       have n4_ : Aside0 (Below w.heap.size w ((((wr.setCell ⟨gb213, 4, none⟩ (.int .i64 ji40)).setCell ⟨gb209, 14, none⟩ (.int .i64 (wrap64 (x210014_1 - (ji40))))).setCell ⟨gb209, 13, none⟩ (.int .i64 (wrap64 (x210013_1 - (ji40))))).setCell ⟨gb213, 5, none⟩ (.int .i64 (wrap64 (x210013_1 - (ji40)))))) := ⟨by repeat (first | (with_reducible first | exact HB.out | apply kc1 | apply kc2 | apply kc3 | refine kc4 ?_ GE209.out | refine kc4 ?_ GE210.out | refine kc4 ?_ GE211.out | refine kc4 ?_ GE213.out) | exact HB.out)⟩
       (try clear BK209)
       (try clear BK210)
       (try clear BK211)
       (try clear BK213)
       (try clear HB)
       generalize ((((wr.setCell ⟨gb213, 4, none⟩ (.int .i64 ji40)).setCell ⟨gb209, 14, none⟩ (.int .i64 (wrap64 (x210014_1 - (ji40))))).setCell ⟨gb209, 13, none⟩ (.int .i64 (wrap64 (x210013_1 - (ji40))))).setCell ⟨gb213, 5, none⟩ (.int .i64 (wrap64 (x210013_1 - (ji40))))) = w48 at n0_ n1_ n2_ n3_ n4_ ⊢
       have BK209 := n0_
       have BK210 := n1_
       have BK211 := n2_
       have BK213 := n3_
       have HB := n4_
       clear n0_ n1_ n2_ n3_ n4_
       have n0_ := ka (blk_drew BK209.out)
       have n1_ := ka (blk_drew BK210.out)
       have n2_ := ka (blk_drew BK211.out)
       have n3_ := ka (blk_drew BK213.out)
       have n4_ := ka (below_drew1 HB.out)
       clear BK209
       clear BK210
       clear BK211
       clear BK213
       clear HB
       have BK209 := n0_
       have BK210 := n1_
       have BK211 := n2_
       have BK213 := n3_
       have HB := n4_
       clear n0_ n1_ n2_ n3_ n4_
       refine start_ (n := 5) (S := fun w' => w'.heap[gb209]? = some (.cells #[.int .i64 x210000_1, .int .i64 x210001_1, .int .i64 x210002_1, .int .i64 x210003_1, .int .i64 x210004_1, .int .i64 x210005_1, .int .i64 x210006_1, .int .i64 x210007_1, .int .i64 x210008_1, .int .i64 x210009_1, .int .i64 x210010_1, .int .i64 x210011_1, .int .i64 x210012_1, .int .i64 (wrap64 (x210013_1 - (ji40))), .int .i64 (wrap64 (x210014_1 - (ji40)))] 25 (0, 0)) ∧ w'.heap[gb213]? = some (.cells #[.int .i64 x214000_1, .int .i64 x214001_1, .int .i64 x214002_1, .int .i64 x214003_1, .int .i64 ji40, .int .i64 (wrap64 (x210013_1 - (ji40)))] 28 (0, 0))) (ds := []) #[false, false, false, false, false] (by kernel_rfl) rfl rfl ⟨BK209.out, BK213.out⟩ (fun hHeld => ?_)
       generalize w48.drew = w49 at BK209 BK210 BK211 BK213 HB hHeld ⊢
       refine take_ (i := 0) (N := some 71) (v := ?_) (a' := ?_) #[true, false, false, false, false] rfl rfl (by kernel_rfl) (fun _ _ _ h => h) (Or.inl ⟨by rfl, ?_⟩) hHeld ?_ ?_
       rotate_left
       ·rintro w' ⟨b209, b213⟩
        first | exact loadRow rfl rfl Try.underlying25 rfl b209 (by kernel_rfl) | exact loadRow rfl rfl Try.underlying28 rfl b213 (by kernel_rfl) | (have q209 := blkAll15 b209; have q213 := blkAll6 b213; go_simp; with_reducible rfl)
       rotate_left
       ·simp only [Act.put, List.setIfInBounds_toArray, List.set_cons_zero, List.set_cons_succ, i64_w, i32_w]
        rfl
       refine take_ (i := 1) (N := some 72) (v := ?_) (a' := ?_) #[true, true, false, false, false] rfl rfl (by kernel_rfl) (fun _ _ _ h => h) (Or.inl ⟨by rfl, ?_⟩) hHeld ?_ ?_
       rotate_left
       ·rintro w' ⟨b209, b213⟩
        first | exact loadRow rfl rfl Try.underlying25 rfl b209 (by kernel_rfl) | exact loadRow rfl rfl Try.underlying28 rfl b213 (by kernel_rfl) | (have q209 := blkAll15 b209; have q213 := blkAll6 b213; go_simp; with_reducible rfl)
       rotate_left
       ·simp only [Act.put, List.setIfInBounds_toArray, List.set_cons_zero, List.set_cons_succ, i64_w, i32_w]
        rfl
       refine one_ (i := 2) (N := none) #[true, true, true, false, false] rfl rfl (by kernel_rfl) (by decide) (fun K hK => ?_)
       refine skipRow (by rfl) rfl rfl rfl rfl BK210.out (by kernel_rfl) rfl rfl ?_
       refine fresh4 (K := K) (o1 := w49.heap[gb209]?) (o3 := w49.heap[gb211]?) (o4 := w49.heap[gb213]?) (setRow_other _ _ _ _ NB209_210.out) (setRow_heap _ _ _ _ _ _ BK210.out) (setRow_other _ _ _ _ NB211_210.out) (setRow_other _ _ _ _ NB213_210.out) (below_setRow HB.out GE210.out _) (fun w49 eBK209 eBK210 eBK211 eBK213 eHB => ?_)
       replace BK209 := ka (eBK209.trans BK209.out)
       replace BK210 := ka eBK210
       replace BK211 := ka (eBK211.trans BK211.out)
       replace BK213 := ka (eBK213.trans BK213.out)
       replace HB := ka eHB
       clear hHeld eHB eBK209 eBK210 eBK211 eBK213
       refine hK.out _ _ ⟨BK209.out, BK213.out⟩ (fun hHeld => ?_)
       clear hK K
       refine one_ (i := 3) (N := none) #[true, true, true, true, false] rfl rfl (by kernel_rfl) (by decide) (fun K hK => ?_)
       refine skipRow (by rfl) rfl rfl rfl rfl BK211.out (by kernel_rfl) rfl rfl ?_
       refine fresh4 (K := K) (o1 := w49.heap[gb209]?) (o2 := w49.heap[gb210]?) (o4 := w49.heap[gb213]?) (setRow_other _ _ _ _ NB209_211.out) (setRow_other _ _ _ _ NB210_211.out) (setRow_heap _ _ _ _ _ _ BK211.out) (setRow_other _ _ _ _ NB213_211.out) (below_setRow HB.out GE211.out _) (fun w49 eBK209 eBK210 eBK211 eBK213 eHB => ?_)
       replace BK209 := ka (eBK209.trans BK209.out)
       replace BK210 := ka (eBK210.trans BK210.out)
       replace BK211 := ka eBK211
       replace BK213 := ka (eBK213.trans BK213.out)
       replace HB := ka eHB
       clear hHeld eHB eBK209 eBK210 eBK211 eBK213
       refine hK.out _ _ ⟨BK209.out, BK213.out⟩ (fun hHeld => ?_)
       clear hK K
       refine pure_ (i := 4) (N := some 8) (v := ?_) (a' := ?_) #[true, true, true, true, true] rfl rfl (by kernel_rfl) (fun _ _ _ h => h) (Or.inl ⟨by rfl, ?_⟩) ?_ ?_
       rotate_left
       ·intro w'
        go_simp
        with_reducible rfl
       rotate_left
       ·simp only [Act.put, List.setIfInBounds_toArray, List.set_cons_zero, List.set_cons_succ, i64_w, i32_w]
        rfl
       refine done_ (by kernel_rfl) ?_
       try go_wp2
       refine bodyPost_ret (results_list (rs := [.cell 6 25, .cell 7 28, .tmp 8]) rfl (by simp) (.cell gb210 25 #[.int .i64 x210000_1, .int .i64 x210001_1, .int .i64 x210002_1, .int .i64 x210003_1, .int .i64 x210004_1, .int .i64 x210005_1, .int .i64 x210006_1, .int .i64 x210007_1, .int .i64 x210008_1, .int .i64 x210009_1, .int .i64 x210010_1, .int .i64 x210011_1, .int .i64 x210012_1, .int .i64 (wrap64 (x210013_1 - (ji40))), .int .i64 (wrap64 (x210014_1 - (ji40)))] (0, 0) _ rfl (by (with_reducible repeat (first | apply kb1 | apply kb2 | apply kb3 | refine kb4 ?_ NB210_211.out _ | apply blkPut15_14 | apply blkPut15_13 | apply blkPut15_12 | apply blkPut15_11 | apply blkPut15_10 | apply blkPut15_9 | apply blkPut15_8 | apply blkPut15_7 | apply blkPut15_6 | apply blkPut15_5 | apply blkPut15_4 | apply blkPut15_3 | apply blkPut15_2 | apply blkPut15_1 | apply blkPut15_0)); exact BK210.out) Try.underlying25 rfl (by kernel_rfl) (.cell gb211 28 #[.int .i64 x214000_1, .int .i64 x214001_1, .int .i64 x214002_1, .int .i64 x214003_1, .int .i64 ji40, .int .i64 (wrap64 (x210013_1 - (ji40)))] (0, 0) _ rfl (by (with_reducible repeat (first | apply kb1 | apply kb2 | apply kb3 | apply blkPut6_5 | apply blkPut6_4 | apply blkPut6_3 | apply blkPut6_2 | apply blkPut6_1 | apply blkPut6_0 | refine kb4 ?_ NB211_210.out _)); exact BK211.out) Try.underlying28 rfl (by kernel_rfl) (.tmp .nil)))) rfl ?_
       exact ⟨by first | rfl | (simp [errW_none, errW_some] <;> rfl) | (simp only [← hji40]; first | rfl | (simp [errW_none, errW_some] <;> rfl)) | (simp [*, errW_none, errW_some] <;> rfl), by repeat (first | (with_reducible first | exact HB.out | apply kc1 | apply kc2 | apply kc3 | refine kc4 ?_ GE209.out | refine kc4 ?_ GE210.out | refine kc4 ?_ GE211.out | refine kc4 ?_ GE213.out) | exact HB.out)⟩
      ·rw [if_neg c39] at H
       have c39b0 : (x210009_1 == 0) = false := beq_eq_false_iff_ne.mpr c39
       have c39b1 : (x210009_1 != 0) = true := bne_iff_ne.mpr c39
       have HC71 := ka H
       clear H
       have hnb72 := NB209_210.out
       have hnc72 := NB210_209.out
       have hnb73 := NB209_211.out
       have hnc73 := NB211_209.out
       have hnb74 := NB209_213.out
       have hnc74 := NB213_209.out
       have hcz75 := blkAll15 BK209.out
       go_upto_if 49 with (fail)
       go_cut [] (fun wc => ∃ (kq : Nat) (x210013_70 : Int) (x210014_70 : Int) (x214004_70 : Int), Aside0 (water_Pay.j1 kq x210000_1 x210001_1 x210002_1 x210003_1 x210004_1 x210005_1 x210006_1 x210007_1 x210008_1 x210009_1 x210010_1 x210011_1 x210012_1 x210013_70 x210014_70 x214000_1 x214001_1 x214002_1 x214003_1 x214004_70 x214005_1 = some (r1, r2, r3, r4, r5, r6, r7, r8, r9, r10, r11, r12, r13, r14, r15, r16, r17, r18, r19, r20, r21, r22)) ∧ Aside0 (kq ≤ k1) ∧ Aside0 (wc.heap[gb209]? = some (.cells #[.int .i64 x210000_1, .int .i64 x210001_1, .int .i64 x210002_1, .int .i64 x210003_1, .int .i64 x210004_1, .int .i64 x210005_1, .int .i64 x210006_1, .int .i64 x210007_1, .int .i64 x210008_1, .int .i64 x210009_1, .int .i64 x210010_1, .int .i64 x210011_1, .int .i64 x210012_1, .int .i64 x210013_70, .int .i64 x210014_70] 25 (0, 0))) ∧ Aside0 (wc.heap[gb210]? = some (.cells #[.int .i64 0, .int .i64 0, .int .i64 0, .int .i64 0, .int .i64 0, .int .i64 0, .int .i64 0, .int .i64 0, .int .i64 0, .int .i64 0, .int .i64 0, .int .i64 0, .int .i64 0, .int .i64 0, .int .i64 0] 25 (0, 0))) ∧ Aside0 (wc.heap[gb211]? = some (.cells #[.int .i64 0, .int .i64 0, .int .i64 0, .int .i64 0, .int .i64 0, .int .i64 0] 28 (0, 0))) ∧ Aside0 (wc.heap[gb213]? = some (.cells #[.int .i64 x214000_1, .int .i64 x214001_1, .int .i64 x214002_1, .int .i64 x214003_1, .int .i64 x214004_70, .int .i64 x214005_1] 28 (0, 0))) ∧ Aside0 (Below w.heap.size w wc))
       case first =>
        have H := HC71.out
        clear HC71
        by_cases c76 : x210011_1 > a1
        ·rw [if_pos c76] at H
         have c76b0 : decide (a1 < x210011_1) = true := decide_eq_true c76
         clear c76
         (first | rw [c76b0] | (simp only [i64_w, i32_w]; rw [c76b0]) | skip)
         obtain ⟨ji77, hji77⟩ : ∃ j_ : Int, (mn x210014_1 x210013_1) = j_ := ⟨_, rfl⟩
         replace H : (water_Pay.j1 k1 x210000_1 x210001_1 x210002_1 x210003_1 x210004_1 x210005_1 x210006_1 x210007_1 x210008_1 x210009_1 x210010_1 x210011_1 x210012_1 (wrap64 (x210013_1 - (ji77))) (wrap64 (x210014_1 - (ji77))) x214000_1 x214001_1 x214002_1 x214003_1 ji77 x214005_1) = some (r1, r2, r3, r4, r5, r6, r7, r8, r9, r10, r11, r12, r13, r14, r15, r16, r17, r18, r19, r20, r21, r22) := by first | (rw [hji77] at H; exact H) | (simp only [hji77] at H ⊢; exact H)
         have hji77_ : (if x210013_1 < x210014_1 then x210013_1 else x210014_1) = ji77 := hji77
         have H' := ka H
         clear H
         have hnb78 := NB209_210.out
         have hnc78 := NB210_209.out
         have hnb79 := NB209_211.out
         have hnc79 := NB211_209.out
         have hnb80 := NB209_213.out
         have hnc80 := NB213_209.out
         have hcz81 := blkAll15 BK209.out
         have hnb82 := NB213_210.out
         have hnc82 := NB210_213.out
         have hnb83 := NB213_211.out
         have hnc83 := NB211_213.out
         have hcz84 := blkAll6 BK213.out
         go_wp2
         go_meet
         case rel => exact ⟨_, (wrap64 (x210013_1 - (ji77))), (wrap64 (x210014_1 - (ji77))), (ji77), H', ⟨by have := HK1.out; first | omega | exact Nat.le_refl _⟩, ⟨by (with_reducible repeat (first | apply kb1 | apply kb2 | apply kb3 | apply blkPut15_13 | apply blkPut15_14 | refine kb4 ?_ NB209_213.out _)); exact BK209.out⟩, ⟨by (with_reducible repeat (first | apply kb1 | apply kb2 | apply kb3 | refine kb4 ?_ NB210_209.out _ | refine kb4 ?_ NB210_213.out _)); exact BK210.out⟩, ⟨by (with_reducible repeat (first | apply kb1 | apply kb2 | apply kb3 | refine kb4 ?_ NB211_209.out _ | refine kb4 ?_ NB211_213.out _)); exact BK211.out⟩, ⟨by (with_reducible repeat (first | apply kb1 | apply kb2 | apply kb3 | refine kb4 ?_ NB213_209.out _ | apply blkPut6_4)); exact BK213.out⟩, ⟨by repeat (first | (with_reducible first | exact HB.out | apply kc1 | apply kc2 | apply kc3 | refine kc4 ?_ GE209.out | refine kc4 ?_ GE210.out | refine kc4 ?_ GE211.out | refine kc4 ?_ GE213.out) | exact HB.out)⟩⟩
        ·rw [if_neg c76] at H
         have c76b0 : decide (a1 < x210011_1) = false := decide_eq_false c76
         clear c76
         (first | rw [c76b0] | (simp only [i64_w, i32_w]; rw [c76b0]) | skip)
         have H' := ka H
         clear H
         go_wp2
         go_meet
         case rel => exact ⟨_, (x210013_1), (x210014_1), (x214004_1), H', ⟨by have := HK1.out; first | omega | exact Nat.le_refl _⟩, ⟨by (with_reducible repeat (first | apply kb1 | apply kb2 | apply kb3)); exact BK209.out⟩, ⟨by (with_reducible repeat (first | apply kb1 | apply kb2 | apply kb3)); exact BK210.out⟩, ⟨by (with_reducible repeat (first | apply kb1 | apply kb2 | apply kb3)); exact BK211.out⟩, ⟨by (with_reducible repeat (first | apply kb1 | apply kb2 | apply kb3)); exact BK213.out⟩, ⟨by repeat (first | (with_reducible first | exact HB.out | apply kc1 | apply kc2 | apply kc3 | refine kc4 ?_ GE209.out | refine kc4 ?_ GE210.out | refine kc4 ?_ GE211.out | refine kc4 ?_ GE213.out) | exact HB.out)⟩⟩
       case rest =>
        clear HC71
        try clear c2
        try clear p2
        try clear c3
        try clear c4
        try clear p6
        try clear c7
        try clear c8
        try clear c23
        try clear c27
        try clear c29
        try clear c30
        try clear c31
        try clear c33
        try clear c34
        try clear c39
        try clear c39b0
        try clear c39b1
        try clear c41
        try clear c42
        try clear c43
        try clear c45
        try clear c46
        try clear p64
        try clear c72
        try clear c73
        try clear c74
        try clear c76
        try clear c76b0
        try clear c78
        try clear c79
        try clear c80
        try clear c82
        try clear c83
        try clear hcz32
        try clear hcz35
        try clear hcz37
        try clear hcz38
        try clear hcz44
        try clear hcz47
        try clear hcz75
        try clear hcz81
        try clear hcz84
        obtain ⟨kq, x210013_70, x210014_70, x214004_70, HA, HJ70, BK209, BK210, BK211, BK213, HB⟩ := hcut
        cases kq with
        | zero => exact absurd HA.out (by simp [water_Pay.j1])
        | succ kj70 =>
         have H := HA.out
         clear HA
         simp only [water_Pay.j1] at H
         simp only [Option.some.injEq, Prod.mk.injEq] at H
         obtain ⟨rfl, rfl, rfl, rfl, rfl, rfl, rfl, rfl, rfl, rfl, rfl, rfl, rfl, rfl, rfl, rfl, rfl, rfl, rfl, rfl, rfl, rfl⟩ := H
         have hnb85 := NB209_210.out
         have hnc85 := NB210_209.out
         have hnb86 := NB209_211.out
         have hnc86 := NB211_209.out
         have hnb87 := NB209_213.out
         have hnc87 := NB213_209.out
         have hcz88 := blkAll15 BK209.out
         have hnb89 := NB213_210.out
         have hnc89 := NB210_213.out
         have hnb90 := NB213_211.out
         have hnc90 := NB211_213.out
         have hcz91 := blkAll6 BK213.out
         try go_wp2
         have n0_ : Aside0 ((wc.setCell ⟨gb213, 5, none⟩ (.int .i64 x210013_70)).heap[gb209]? = some (.cells #[.int .i64 x210000_1, .int .i64 x210001_1, .int .i64 x210002_1, .int .i64 x210003_1, .int .i64 x210004_1, .int .i64 x210005_1, .int .i64 x210006_1, .int .i64 x210007_1, .int .i64 x210008_1, .int .i64 x210009_1, .int .i64 x210010_1, .int .i64 x210011_1, .int .i64 x210012_1, .int .i64 x210013_70, .int .i64 x210014_70] 25 (0, 0))) := ⟨by (with_reducible repeat (first | apply kb1 | apply kb2 | apply kb3)); refine kb4 ?_ NB209_213.out _; (with_reducible repeat (first | apply kb1 | apply kb2 | apply kb3)); exact BK209.out⟩
         have n1_ : Aside0 ((wc.setCell ⟨gb213, 5, none⟩ (.int .i64 x210013_70)).heap[gb210]? = some (.cells #[.int .i64 0, .int .i64 0, .int .i64 0, .int .i64 0, .int .i64 0, .int .i64 0, .int .i64 0, .int .i64 0, .int .i64 0, .int .i64 0, .int .i64 0, .int .i64 0, .int .i64 0, .int .i64 0, .int .i64 0] 25 (0, 0))) := ⟨by (with_reducible repeat (first | apply kb1 | apply kb2 | apply kb3)); refine kb4 ?_ NB210_213.out _; (with_reducible repeat (first | apply kb1 | apply kb2 | apply kb3)); exact BK210.out⟩
         have n2_ : Aside0 ((wc.setCell ⟨gb213, 5, none⟩ (.int .i64 x210013_70)).heap[gb211]? = some (.cells #[.int .i64 0, .int .i64 0, .int .i64 0, .int .i64 0, .int .i64 0, .int .i64 0] 28 (0, 0))) := ⟨by (with_reducible repeat (first | apply kb1 | apply kb2 | apply kb3)); refine kb4 ?_ NB211_213.out _; (with_reducible repeat (first | apply kb1 | apply kb2 | apply kb3)); exact BK211.out⟩
         have n3_ : Aside0 ((wc.setCell ⟨gb213, 5, none⟩ (.int .i64 x210013_70)).heap[gb213]? = some (.cells #[.int .i64 x214000_1, .int .i64 x214001_1, .int .i64 x214002_1, .int .i64 x214003_1, .int .i64 x214004_70, .int .i64 x210013_70] 28 (0, 0))) := ⟨by (with_reducible repeat (first | apply kb1 | apply kb2 | apply kb3)); refine blk_put (cs := #[.int .i64 x214000_1, .int .i64 x214001_1, .int .i64 x214002_1, .int .i64 x214003_1, .int .i64 x214004_70, .int .i64 x214005_1]) ?_ 5 _ rfl; (with_reducible repeat (first | apply kb1 | apply kb2 | apply kb3)); exact BK213.out⟩
         have n4_ : Aside0 (Below w.heap.size w (wc.setCell ⟨gb213, 5, none⟩ (.int .i64 x210013_70))) := ⟨by repeat (first | (with_reducible first | exact HB.out | apply kc1 | apply kc2 | apply kc3 | refine kc4 ?_ GE209.out | refine kc4 ?_ GE210.out | refine kc4 ?_ GE211.out | refine kc4 ?_ GE213.out) | exact HB.out)⟩
         (try clear BK209)
         (try clear BK210)
         (try clear BK211)
         (try clear BK213)
         (try clear HB)
         generalize (wc.setCell ⟨gb213, 5, none⟩ (.int .i64 x210013_70)) = w92 at n0_ n1_ n2_ n3_ n4_ ⊢
         have BK209 := n0_
         have BK210 := n1_
         have BK211 := n2_
         have BK213 := n3_
         have HB := n4_
         clear n0_ n1_ n2_ n3_ n4_
         have n0_ := ka (blk_drew BK209.out)
         have n1_ := ka (blk_drew BK210.out)
         have n2_ := ka (blk_drew BK211.out)
         have n3_ := ka (blk_drew BK213.out)
         have n4_ := ka (below_drew1 HB.out)
         clear BK209
         clear BK210
         clear BK211
         clear BK213
         clear HB
         have BK209 := n0_
         have BK210 := n1_
         have BK211 := n2_
         have BK213 := n3_
         have HB := n4_
         clear n0_ n1_ n2_ n3_ n4_
         refine start_ (n := 5) (S := fun w' => w'.heap[gb209]? = some (.cells #[.int .i64 x210000_1, .int .i64 x210001_1, .int .i64 x210002_1, .int .i64 x210003_1, .int .i64 x210004_1, .int .i64 x210005_1, .int .i64 x210006_1, .int .i64 x210007_1, .int .i64 x210008_1, .int .i64 x210009_1, .int .i64 x210010_1, .int .i64 x210011_1, .int .i64 x210012_1, .int .i64 x210013_70, .int .i64 x210014_70] 25 (0, 0)) ∧ w'.heap[gb213]? = some (.cells #[.int .i64 x214000_1, .int .i64 x214001_1, .int .i64 x214002_1, .int .i64 x214003_1, .int .i64 x214004_70, .int .i64 x210013_70] 28 (0, 0))) (ds := []) #[false, false, false, false, false] (by kernel_rfl) rfl rfl ⟨BK209.out, BK213.out⟩ (fun hHeld => ?_)
         generalize w92.drew = w93 at BK209 BK210 BK211 BK213 HB hHeld ⊢
         refine take_ (i := 0) (N := some 71) (v := ?_) (a' := ?_) #[true, false, false, false, false] rfl rfl (by kernel_rfl) (fun _ _ _ h => h) (Or.inl ⟨by rfl, ?_⟩) hHeld ?_ ?_
         rotate_left
         ·rintro w' ⟨b209, b213⟩
          first | exact loadRow rfl rfl Try.underlying25 rfl b209 (by kernel_rfl) | exact loadRow rfl rfl Try.underlying28 rfl b213 (by kernel_rfl) | (have q209 := blkAll15 b209; have q213 := blkAll6 b213; go_simp; with_reducible rfl)
         rotate_left
         ·simp only [Act.put, List.setIfInBounds_toArray, List.set_cons_zero, List.set_cons_succ, i64_w, i32_w]
          rfl
         refine take_ (i := 1) (N := some 72) (v := ?_) (a' := ?_) #[true, true, false, false, false] rfl rfl (by kernel_rfl) (fun _ _ _ h => h) (Or.inl ⟨by rfl, ?_⟩) hHeld ?_ ?_
         rotate_left
         ·rintro w' ⟨b209, b213⟩
          first | exact loadRow rfl rfl Try.underlying25 rfl b209 (by kernel_rfl) | exact loadRow rfl rfl Try.underlying28 rfl b213 (by kernel_rfl) | (have q209 := blkAll15 b209; have q213 := blkAll6 b213; go_simp; with_reducible rfl)
         rotate_left
         ·simp only [Act.put, List.setIfInBounds_toArray, List.set_cons_zero, List.set_cons_succ, i64_w, i32_w]
          rfl
         refine one_ (i := 2) (N := none) #[true, true, true, false, false] rfl rfl (by kernel_rfl) (by decide) (fun K hK => ?_)
         refine skipRow (by rfl) rfl rfl rfl rfl BK210.out (by kernel_rfl) rfl rfl ?_
         refine fresh4 (K := K) (o1 := w93.heap[gb209]?) (o3 := w93.heap[gb211]?) (o4 := w93.heap[gb213]?) (setRow_other _ _ _ _ NB209_210.out) (setRow_heap _ _ _ _ _ _ BK210.out) (setRow_other _ _ _ _ NB211_210.out) (setRow_other _ _ _ _ NB213_210.out) (below_setRow HB.out GE210.out _) (fun w93 eBK209 eBK210 eBK211 eBK213 eHB => ?_)
         replace BK209 := ka (eBK209.trans BK209.out)
         replace BK210 := ka eBK210
         replace BK211 := ka (eBK211.trans BK211.out)
         replace BK213 := ka (eBK213.trans BK213.out)
         replace HB := ka eHB
         clear hHeld eHB eBK209 eBK210 eBK211 eBK213
         refine hK.out _ _ ⟨BK209.out, BK213.out⟩ (fun hHeld => ?_)
         clear hK K
         refine one_ (i := 3) (N := none) #[true, true, true, true, false] rfl rfl (by kernel_rfl) (by decide) (fun K hK => ?_)
         refine skipRow (by rfl) rfl rfl rfl rfl BK211.out (by kernel_rfl) rfl rfl ?_
         refine fresh4 (K := K) (o1 := w93.heap[gb209]?) (o2 := w93.heap[gb210]?) (o4 := w93.heap[gb213]?) (setRow_other _ _ _ _ NB209_211.out) (setRow_other _ _ _ _ NB210_211.out) (setRow_heap _ _ _ _ _ _ BK211.out) (setRow_other _ _ _ _ NB213_211.out) (below_setRow HB.out GE211.out _) (fun w93 eBK209 eBK210 eBK211 eBK213 eHB => ?_)
         replace BK209 := ka (eBK209.trans BK209.out)
         replace BK210 := ka (eBK210.trans BK210.out)
         replace BK211 := ka eBK211
         replace BK213 := ka (eBK213.trans BK213.out)
         replace HB := ka eHB
         clear hHeld eHB eBK209 eBK210 eBK211 eBK213
         refine hK.out _ _ ⟨BK209.out, BK213.out⟩ (fun hHeld => ?_)
         clear hK K
         refine pure_ (i := 4) (N := some 8) (v := ?_) (a' := ?_) #[true, true, true, true, true] rfl rfl (by kernel_rfl) (fun _ _ _ h => h) (Or.inl ⟨by rfl, ?_⟩) ?_ ?_
         rotate_left
         ·intro w'
          go_simp
          with_reducible rfl
         rotate_left
         ·simp only [Act.put, List.setIfInBounds_toArray, List.set_cons_zero, List.set_cons_succ, i64_w, i32_w]
          rfl
         refine done_ (by kernel_rfl) ?_
         try go_wp2
         refine bodyPost_ret (results_list (rs := [.cell 6 25, .cell 7 28, .tmp 8]) rfl (by simp) (.cell gb210 25 #[.int .i64 x210000_1, .int .i64 x210001_1, .int .i64 x210002_1, .int .i64 x210003_1, .int .i64 x210004_1, .int .i64 x210005_1, .int .i64 x210006_1, .int .i64 x210007_1, .int .i64 x210008_1, .int .i64 x210009_1, .int .i64 x210010_1, .int .i64 x210011_1, .int .i64 x210012_1, .int .i64 x210013_70, .int .i64 x210014_70] (0, 0) _ rfl (by (with_reducible repeat (first | apply kb1 | apply kb2 | apply kb3 | refine kb4 ?_ NB210_211.out _ | apply blkPut15_14 | apply blkPut15_13 | apply blkPut15_12 | apply blkPut15_11 | apply blkPut15_10 | apply blkPut15_9 | apply blkPut15_8 | apply blkPut15_7 | apply blkPut15_6 | apply blkPut15_5 | apply blkPut15_4 | apply blkPut15_3 | apply blkPut15_2 | apply blkPut15_1 | apply blkPut15_0)); exact BK210.out) Try.underlying25 rfl (by kernel_rfl) (.cell gb211 28 #[.int .i64 x214000_1, .int .i64 x214001_1, .int .i64 x214002_1, .int .i64 x214003_1, .int .i64 x214004_70, .int .i64 x210013_70] (0, 0) _ rfl (by (with_reducible repeat (first | apply kb1 | apply kb2 | apply kb3 | apply blkPut6_5 | apply blkPut6_4 | apply blkPut6_3 | apply blkPut6_2 | apply blkPut6_1 | apply blkPut6_0 | refine kb4 ?_ NB211_210.out _)); exact BK211.out) Try.underlying28 rfl (by kernel_rfl) (.tmp .nil)))) rfl ?_
         exact ⟨by first | rfl | (simp [errW_none, errW_some] <;> rfl) | (simp [*, errW_none, errW_some] <;> rfl), by repeat (first | (with_reducible first | exact HB.out | apply kc1 | apply kc2 | apply kc3 | refine kc4 ?_ GE209.out | refine kc4 ?_ GE210.out | refine kc4 ?_ GE211.out | refine kc4 ?_ GE213.out) | exact HB.out)⟩
 ·replace c5 := Bool.eq_false_iff.mpr c5
  subst c5
  have H1 : (some (0, 0, 0, 0, 0, 0, 0, 0, 0, 0, 0, 0, 0, 0, 0, 0, 0, 0, 0, 0, 0, some 1)) = some (r1, r2, r3, r4, r5, r6, r7, r8, r9, r10, r11, r12, r13, r14, r15, r16, r17, r18, r19, r20, r21, r22) := by rw [if_neg (show ¬ (false = true) by decide)] at H; exact H
  clear H
  have H := H1
  clear H1
  simp only [Option.some.injEq, Prod.mk.injEq] at H
  obtain ⟨rfl, rfl, rfl, rfl, rfl, rfl, rfl, rfl, rfl, rfl, rfl, rfl, rfl, rfl, rfl, rfl, rfl, rfl, rfl, rfl, rfl, rfl⟩ := H
  go_enter Try.func11, Try.ntmps11
  go_wp2_with (first | ((with_reducible refine gate_dst (N := 3) rfl ?_); refine kx (N := 3) (cs := #[.int .i64 a0_0, .int .i64 a0_1, .int .i64 a0_2, .int .i64 a0_3, .int .i64 a0_4, .int .i64 a0_5, .int .i64 a0_6, .int .i64 a0_7, .int .i64 a0_8, .int .i64 a0_9, .int .i64 a0_10, .int .i64 a0_11, .int .i64 a0_12, .int .i64 a0_13, .int .i64 a0_14]) (t := 25) ?_; intro gb209 hg w115 hbox hb; have n0_ := ka (below_step (kw HB.out) hb); have n1_ := ka (hbox); have n2_ := ka ((by rw [hg]; exact (below_size (kw HB.out)) : w.heap.size ≤ gb209)); have n3_ := n2_; clear HB; have HB := n0_; have BK209 := n1_; have GW209 := n2_; have GE209 := n3_; clear n0_ n1_ n2_ n3_; clear hb hbox hg) | ((with_reducible refine gate_dst (N := 6) rfl ?_); refine kx (N := 6) (cs := #[.int .i64 0, .int .i64 0, .int .i64 0, .int .i64 0, .int .i64 0, .int .i64 0, .int .i64 0, .int .i64 0, .int .i64 0, .int .i64 0, .int .i64 0, .int .i64 0, .int .i64 0, .int .i64 0, .int .i64 0]) (t := 25) ?_; intro gb210 hg w116 hbox hb; have n0_ := ka (blk_below (g := gb209) (kz BK209.out) hb); have n1_ := ka (below_step (kw HB.out) hb); have n2_ := ka (hbox); have n3_ := ka ((by rw [hg]; exact (below_size (kw HB.out)) : w.heap.size ≤ gb210)); have n4_ := n3_; have n5_ := ka ((by rw [hg]; exact Nat.ne_of_lt (blk_lt (g := gb209) (kz BK209.out)) : gb209 ≠ gb210)); have n6_ := ka n5_.out.symm; clear BK209; clear HB; have BK209 := n0_; have HB := n1_; have BK210 := n2_; have GW210 := n3_; have GE210 := n4_; have NB209_210 := n5_; have NB210_209 := n6_; clear n0_ n1_ n2_ n3_ n4_ n5_ n6_; clear hb hbox hg) | ((with_reducible refine gate_dst (N := 7) rfl ?_); refine kx (N := 7) (cs := #[.int .i64 0, .int .i64 0, .int .i64 0, .int .i64 0, .int .i64 0, .int .i64 0]) (t := 28) ?_; intro gb211 hg w117 hbox hb; have n0_ := ka (blk_below (g := gb209) (kz BK209.out) hb); have n1_ := ka (blk_below (g := gb210) (kz BK210.out) hb); have n2_ := ka (below_step (kw HB.out) hb); have n3_ := ka (hbox); have n4_ := ka ((by rw [hg]; exact (below_size (kw HB.out)) : w.heap.size ≤ gb211)); have n5_ := n4_; have n6_ := ka ((by rw [hg]; exact Nat.ne_of_lt (blk_lt (g := gb209) (kz BK209.out)) : gb209 ≠ gb211)); have n7_ := ka n6_.out.symm; have n8_ := ka ((by rw [hg]; exact Nat.ne_of_lt (blk_lt (g := gb210) (kz BK210.out)) : gb210 ≠ gb211)); have n9_ := ka n8_.out.symm; clear BK209; clear BK210; clear HB; have BK209 := n0_; have BK210 := n1_; have HB := n2_; have BK211 := n3_; have GW211 := n4_; have GE211 := n5_; have NB209_211 := n6_; have NB211_209 := n7_; have NB210_211 := n8_; have NB211_210 := n9_; clear n0_ n1_ n2_ n3_ n4_ n5_ n6_ n7_ n8_ n9_; clear hb hbox hg; have hnb118 := NB209_210.out; have hnc118 := NB210_209.out; have hnb119 := NB209_211.out; have hnc119 := NB211_209.out; have hcz120 := blkAll15 BK209.out) | ((with_reducible refine gate_callee (f := 22) rfl ?_); refine kg (some 14) rfl rfl Try.func22 (by kernel_rfl) rfl #[.agg #[.int .i64 a0_0, .int .i64 a0_1, .int .i64 a0_2, .int .i64 a0_3, .int .i64 a0_4, .int .i64 a0_5, .int .i64 a0_6, .int .i64 a0_7, .int .i64 a0_8, .int .i64 a0_9, .int .i64 a0_10, .int .i64 a0_11, .int .i64 a0_12, .int .i64 a0_13, .int .i64 a0_14], .int .i64 a1, .int .i64 a2] rfl ?_; (with_reducible refine (water_may_s.calls a0_0 a0_1 a0_2 a0_3 a0_4 a0_5 a0_6 a0_7 a0_8 a0_9 a0_10 a0_11 a0_12 a0_13 a0_14 a1 a2 false _ A4.out).mono ?_); rintro e w121 ⟨rfl, hb⟩; refine ⟨_, rfl, ?_⟩; have n0_ := ka (blk_below (g := gb209) (kz BK209.out) hb); have n1_ := ka (blk_below (g := gb210) (kz BK210.out) hb); have n2_ := ka (blk_below (g := gb211) (kz BK211.out) hb); have n3_ := ka (below_step (kw HB.out) hb); clear BK209; clear BK210; clear BK211; clear HB; have BK209 := n0_; have BK210 := n1_; have BK211 := n2_; have HB := n3_; clear n0_ n1_ n2_ n3_; (try clear hb); (try clear hb2); (try clear hk); (try clear hi); have hnb122 := NB210_211.out; have hnc122 := NB211_210.out; have hcz123 := blkAll15 BK210.out; have hcz124 := blkAll6 BK211.out) | ((with_reducible refine gate_load (T := 25) rfl ?_); first | refine load_event (g := gb209) rfl rfl rfl Try.underlying25 rfl (by (with_reducible repeat (first | apply kb1 | apply kb2 | apply kb3)); with_reducible exact BK209.out) (by kernel_rfl) ?_ | refine load_event (g := gb210) rfl rfl rfl Try.underlying25 rfl (by (with_reducible repeat (first | apply kb1 | apply kb2 | apply kb3)); with_reducible exact BK210.out) (by kernel_rfl) ?_) | ((with_reducible refine gate_store (T := 25) rfl ?_); first | (refine store_event (g := gb209) rfl rfl rfl rfl rfl (by (with_reducible repeat (first | apply kb1 | apply kb2 | apply kb3)); with_reducible exact BK209.out) (by kernel_rfl) (by rfl) (by rfl) ?_; intro w_209 eX eO eB; (try (replace BK210 := ka ((eO _ NB210_209.out).trans (by (with_reducible repeat (first | apply kb1 | apply kb2 | apply kb3)); with_reducible exact BK210.out)))); (try (replace BK211 := ka ((eO _ NB211_209.out).trans (by (with_reducible repeat (first | apply kb1 | apply kb2 | apply kb3)); with_reducible exact BK211.out)))); (try (replace BK213 := ka ((eO _ NB213_209.out).trans (by (with_reducible repeat (first | apply kb1 | apply kb2 | apply kb3)); with_reducible exact BK213.out)))); replace BK209 := ka eX; replace HB := ka (eB _ _ (kw HB.out) GE209.out); clear eX eO eB; (try have hz209 := blkAll15 BK209.out); (try have hz210 := blkAll15 BK210.out); (try have hz211 := blkAll6 BK211.out); (try have hz213 := blkAll6 BK213.out); (try have hy210 := NB210_209.out); (try have hx210 := NB209_210.out); (try have hy211 := NB211_209.out); (try have hx211 := NB209_211.out); (try have hy213 := NB213_209.out); (try have hx213 := NB209_213.out)) | (refine store_event (g := gb210) rfl rfl rfl rfl rfl (by (with_reducible repeat (first | apply kb1 | apply kb2 | apply kb3)); with_reducible exact BK210.out) (by kernel_rfl) (by rfl) (by rfl) ?_; intro w_210 eX eO eB; (try (replace BK209 := ka ((eO _ NB209_210.out).trans (by (with_reducible repeat (first | apply kb1 | apply kb2 | apply kb3)); with_reducible exact BK209.out)))); (try (replace BK211 := ka ((eO _ NB211_210.out).trans (by (with_reducible repeat (first | apply kb1 | apply kb2 | apply kb3)); with_reducible exact BK211.out)))); (try (replace BK213 := ka ((eO _ NB213_210.out).trans (by (with_reducible repeat (first | apply kb1 | apply kb2 | apply kb3)); with_reducible exact BK213.out)))); replace BK210 := ka eX; replace HB := ka (eB _ _ (kw HB.out) GE210.out); clear eX eO eB; (try have hz209 := blkAll15 BK209.out); (try have hz210 := blkAll15 BK210.out); (try have hz211 := blkAll6 BK211.out); (try have hz213 := blkAll6 BK213.out); (try have hy209 := NB209_210.out); (try have hx209 := NB210_209.out); (try have hy211 := NB211_210.out); (try have hx211 := NB210_211.out); (try have hy213 := NB213_210.out); (try have hx213 := NB210_213.out))))
  refine bodyPost_ret (results_list (rs := [.cell 6 25, .cell 7 28, .tmp 8]) rfl (by simp) (.cell gb210 25 #[.int .i64 0, .int .i64 0, .int .i64 0, .int .i64 0, .int .i64 0, .int .i64 0, .int .i64 0, .int .i64 0, .int .i64 0, .int .i64 0, .int .i64 0, .int .i64 0, .int .i64 0, .int .i64 0, .int .i64 0] (0, 0) _ rfl (by (with_reducible repeat (first | apply kb1 | apply kb2 | apply kb3 | refine kb4 ?_ NB210_211.out _ | apply blkPut15_14 | apply blkPut15_13 | apply blkPut15_12 | apply blkPut15_11 | apply blkPut15_10 | apply blkPut15_9 | apply blkPut15_8 | apply blkPut15_7 | apply blkPut15_6 | apply blkPut15_5 | apply blkPut15_4 | apply blkPut15_3 | apply blkPut15_2 | apply blkPut15_1 | apply blkPut15_0)); exact BK210.out) Try.underlying25 rfl (by kernel_rfl) (.cell gb211 28 #[.int .i64 0, .int .i64 0, .int .i64 0, .int .i64 0, .int .i64 0, .int .i64 0] (0, 0) _ rfl (by (with_reducible repeat (first | apply kb1 | apply kb2 | apply kb3 | apply blkPut6_5 | apply blkPut6_4 | apply blkPut6_3 | apply blkPut6_2 | apply blkPut6_1 | apply blkPut6_0 | refine kb4 ?_ NB211_210.out _)); exact BK211.out) Try.underlying28 rfl (by kernel_rfl) (.tmp .nil)))) rfl ?_
  exact ⟨by first | rfl | (simp [errW_none, errW_some] <;> rfl) | (simp [*, errW_none, errW_some] <;> rfl), by repeat (first | (with_reducible first | exact HB.out | apply kc1 | apply kc2 | apply kc3 | refine kc4 ?_ GE209.out | refine kc4 ?_ GE210.out | refine kc4 ?_ GE211.out) | exact HB.out)⟩

end Go.Proofs.Ytimobafoidplaaa.P
