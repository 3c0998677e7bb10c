-- Written by a program of this session out of the translation of the seat: Lean functions and the proofs that the Go functions come to them.
import Derived.Test.YtimobafoidplaaaPx0
import Derived.Test.YtimobafoidplaaaPx7
import Derived.Test.YtimobafoidplaaaPx8
namespace Go.Proofs.Ytimobafoidplaaa.P
open Go.RowKit Go.Proofs.YtimobafoidplaaaW.PrintWords Go.Proofs.YtimobafoidplaaaW.PrintLast Go.Proofs.YtimobafoidplaaaW.PrintMore
attribute [local go_sem] max2_int min2_int max_two min_two max_three min_three max_four min_four   -- for this text's walks alone
set_option linter.unusedVariables false
set_option linter.unusedSimpArgs false

/-! ### water_one: function 23 -/
mutual
def water_one.j0 : Nat → Bool → Int → Int → Int → Int → Int → Int → Int → Int → Int → Int → Int → Int → Int → Int → Int → Int → Int → Int → Int → Int → Int → Option (Int × Int × Int × Int × Int × Int × Int × Int × Int × Int × Int × Int × Int × Int × Int × Int × Int × Int × Int × Int × Int × Bool)
 | 0, _, _, _, _, _, _, _, _, _, _, _, _, _, _, _, _, _, _, _, _, _, _ => none
 | k + 1, x27, x195000, x195001, x195002, x195003, x195004, x195005, x195006, x195007, x195008, x195009, x195010, x195011, x195012, x195013, x195014, x196000, x196001, x196002, x196003, x196004, x196005 => if x27 = true then (some (x195000, x195001, x195002, x195003, x195004, x195005, x195006, x195007, x195008, x195009, x195010, x195011, x195012, x195013, x195014, x196000, x196001, x196002, x196003, x196004, x196005, false)) else ((water_next_s.f x195000 x195001 x195002 x195003 x195004 x195005 x195006 x195007 x195008 x195009 x195010 x195011 x195012 x195013 x195014).bind fun bt198 => ((water_month_s.f x195011).bind fun bt206 => (if bt198.2.2.2.2.2.2.isNone = true then (if bt206.2 = true then (water_one.j1 k (wrap64 ((wrap64 (bt198.2.1 + bt198.2.2.1)) + bt198.2.2.2.1)) bt206.1 (decide (x195013 < (wrap64 ((wrap64 (bt198.2.1 + bt198.2.2.1)) + bt198.2.2.2.1)))) x195000 x195001 x195002 x195003 x195004 x195005 x195006 x195007 x195008 x195009 x195010 x195011 x195012 x195013 x195014 x196000 x196001 x196002 x196003 x196004 x196005 bt198.1 bt198.2.1 bt198.2.2.1 bt198.2.2.2.1 bt198.2.2.2.2.1 bt198.2.2.2.2.2.1) else (water_one.j1 k (wrap64 ((wrap64 (bt198.2.1 + bt198.2.2.1)) + bt198.2.2.2.1)) bt206.1 true x195000 x195001 x195002 x195003 x195004 x195005 x195006 x195007 x195008 x195009 x195010 x195011 x195012 x195013 x195014 x196000 x196001 x196002 x196003 x196004 x196005 bt198.1 bt198.2.1 bt198.2.2.1 bt198.2.2.2.1 bt198.2.2.2.2.1 bt198.2.2.2.2.2.1)) else (water_one.j1 k (wrap64 ((wrap64 (bt198.2.1 + bt198.2.2.1)) + bt198.2.2.2.1)) bt206.1 true x195000 x195001 x195002 x195003 x195004 x195005 x195006 x195007 x195008 x195009 x195010 x195011 x195012 x195013 x195014 x196000 x196001 x196002 x196003 x196004 x196005 bt198.1 bt198.2.1 bt198.2.2.1 bt198.2.2.2.1 bt198.2.2.2.2.1 bt198.2.2.2.2.2.1))))
def water_one.j1 : Nat → Int → Int → Bool → Int → Int → Int → Int → Int → Int → Int → Int → Int → Int → Int → Int → Int → Int → Int → Int → Int → Int → Int → Int → Int → Int → Int → Int → Int → Int → Int → Option (Int × Int × Int × Int × Int × Int × Int × Int × Int × Int × Int × Int × Int × Int × Int × Int × Int × Int × Int × Int × Int × Bool)
 | 0, _, _, _, _, _, _, _, _, _, _, _, _, _, _, _, _, _, _, _, _, _, _, _, _, _, _, _, _, _, _ => none
 | k + 1, x11, x12, x60, x195000, x195001, x195002, x195003, x195004, x195005, x195006, x195007, x195008, x195009, x195010, x195011, x195012, x195013, x195014, x196000, x196001, x196002, x196003, x196004, x196005, x206000, x206001, x206002, x206003, x206004, x206005 => if x60 = true then (some (x195000, x195001, x195002, x195003, x195004, x195005, x195006, x195007, x195008, x195009, x195010, x195011, x195012, x195013, x195014, x196000, x196001, x196002, x196003, x196004, x196005, false)) else (some (x195000, x195001, x195002, x195003, x195004, x195005, x195006, x195007, x195008, x206005, x195010, x12, wrap64 (x195012 + 1), wrap64 (x195013 - x11), x195014, wrap64 (x196000 + 1), wrap64 (x196001 + x206001), wrap64 (x196002 + x206002), wrap64 (x196003 + x206003), x196004, x196005, true))
end
def water_one.f (k : Nat) (a0_0 : Int) (a0_1 : Int) (a0_2 : Int) (a0_3 : Int) (a0_4 : Int) (a0_5 : Int) (a0_6 : Int) (a0_7 : Int) (a0_8 : Int) (a0_9 : Int) (a0_10 : Int) (a0_11 : Int) (a0_12 : Int) (a0_13 : Int) (a0_14 : Int) (a1 : Int) (a2_0 : Int) (a2_1 : Int) (a2_2 : Int) (a2_3 : Int) (a2_4 : Int) (a2_5 : Int) : Option (Int × Int × Int × Int × Int × Int × Int × Int × Int × Int × Int × Int × Int × Int × Int × Int × Int × Int × Int × Int × Int × Bool) := if a0_9 = 0 then (water_one.j0 k true a0_0 a0_1 a0_2 a0_3 a0_4 a0_5 a0_6 a0_7 a0_8 a0_9 a0_10 a0_11 a0_12 a0_13 a0_14 a2_0 a2_1 a2_2 a2_3 a2_4 a2_5) else (if a0_11 > a1 then (water_one.j0 k true a0_0 a0_1 a0_2 a0_3 a0_4 a0_5 a0_6 a0_7 a0_8 a0_9 a0_10 a0_11 a0_12 a0_13 a0_14 a2_0 a2_1 a2_2 a2_3 a2_4 a2_5) else (water_one.j0 k (decide (a0_12 ≥ 480)) a0_0 a0_1 a0_2 a0_3 a0_4 a0_5 a0_6 a0_7 a0_8 a0_9 a0_10 a0_11 a0_12 a0_13 a0_14 a2_0 a2_1 a2_2 a2_3 a2_4 a2_5))
theorem water_one.mono_l : ∀ k, (∀ y0 y1 y2 y3 y4 y5 y6 y7 y8 y9 y10 y11 y12 y13 y14 y15 y16 y17 y18 y19 y20 y21, LeO (water_one.j0 k y0 y1 y2 y3 y4 y5 y6 y7 y8 y9 y10 y11 y12 y13 y14 y15 y16 y17 y18 y19 y20 y21) (water_one.j0 (k + 1) y0 y1 y2 y3 y4 y5 y6 y7 y8 y9 y10 y11 y12 y13 y14 y15 y16 y17 y18 y19 y20 y21)) ∧ (∀ y0 y1 y2 y3 y4 y5 y6 y7 y8 y9 y10 y11 y12 y13 y14 y15 y16 y17 y18 y19 y20 y21 y22 y23 y24 y25 y26 y27 y28 y29, LeO (water_one.j1 k y0 y1 y2 y3 y4 y5 y6 y7 y8 y9 y10 y11 y12 y13 y14 y15 y16 y17 y18 y19 y20 y21 y22 y23 y24 y25 y26 y27 y28 y29) (water_one.j1 (k + 1) y0 y1 y2 y3 y4 y5 y6 y7 y8 y9 y10 y11 y12 y13 y14 y15 y16 y17 y18 y19 y20 y21 y22 y23 y24 y25 y26 y27 y28 y29))
 | 0 => ⟨fun _ _ _ _ _ _ _ _ _ _ _ _ _ _ _ _ _ _ _ _ _ _ r h => by simp [water_one.j0] at h, fun _ _ _ _ _ _ _ _ _ _ _ _ _ _ _ _ _ _ _ _ _ _ _ _ _ _ _ _ _ _ r h => by simp [water_one.j1] at h⟩
 | k + 1 => by
  obtain ⟨ih0, ih1⟩ := water_one.mono_l k
  refine ⟨?_, ?_⟩
  ·intro y0 y1 y2 y3 y4 y5 y6 y7 y8 y9 y10 y11 y12 y13 y14 y15 y16 y17 y18 y19 y20 y21
   unfold water_one.j0
   repeat' first
   | (with_reducible exact ih0 _ _ _ _ _ _ _ _ _ _ _ _ _ _ _ _ _ _ _ _ _ _)
   | (with_reducible exact ih1 _ _ _ _ _ _ _ _ _ _ _ _ _ _ _ _ _ _ _ _ _ _ _ _ _ _ _ _ _ _)
   | (with_reducible exact LeO.refl _)
   | (with_reducible exact LeO.none _)
   | (with_reducible refine LeO.ite ?_ ?_)
   | (with_reducible refine LeO.bind ?_ (fun _ => ?_))
   | exact ih0 _ _ _ _ _ _ _ _ _ _ _ _ _ _ _ _ _ _ _ _ _ _
   | exact ih1 _ _ _ _ _ _ _ _ _ _ _ _ _ _ _ _ _ _ _ _ _ _ _ _ _ _ _ _ _ _
   | exact LeO.none _
   | refine LeO.ite ?_ ?_
   | refine LeO.bind ?_ (fun _ => ?_)
  ·intro y0 y1 y2 y3 y4 y5 y6 y7 y8 y9 y10 y11 y12 y13 y14 y15 y16 y17 y18 y19 y20 y21 y22 y23 y24 y25 y26 y27 y28 y29
   unfold water_one.j1
   repeat' first
   | (with_reducible exact ih0 _ _ _ _ _ _ _ _ _ _ _ _ _ _ _ _ _ _ _ _ _ _)
   | (with_reducible exact ih1 _ _ _ _ _ _ _ _ _ _ _ _ _ _ _ _ _ _ _ _ _ _ _ _ _ _ _ _ _ _)
   | (with_reducible exact LeO.refl _)
   | (with_reducible exact LeO.none _)
   | (with_reducible refine LeO.ite ?_ ?_)
   | (with_reducible refine LeO.bind ?_ (fun _ => ?_))
   | exact ih0 _ _ _ _ _ _ _ _ _ _ _ _ _ _ _ _ _ _ _ _ _ _
   | exact ih1 _ _ _ _ _ _ _ _ _ _ _ _ _ _ _ _ _ _ _ _ _ _ _ _ _ _ _ _ _ _
   | exact LeO.none _
   | refine LeO.ite ?_ ?_
   | refine LeO.bind ?_ (fun _ => ?_)
theorem water_one.mono : ∀ a0 a1 a2 a3 a4 a5 a6 a7 a8 a9 a10 a11 a12 a13 a14 a15 a16 a17 a18 a19 a20 a21 k, LeO (water_one.f k a0 a1 a2 a3 a4 a5 a6 a7 a8 a9 a10 a11 a12 a13 a14 a15 a16 a17 a18 a19 a20 a21) (water_one.f (k + 1) a0 a1 a2 a3 a4 a5 a6 a7 a8 a9 a10 a11 a12 a13 a14 a15 a16 a17 a18 a19 a20 a21) := by
 intro a0 a1 a2 a3 a4 a5 a6 a7 a8 a9 a10 a11 a12 a13 a14 a15 a16 a17 a18 a19 a20 a21 k
 obtain ⟨ih0, ih1⟩ := water_one.mono_l k
 unfold water_one.f
 repeat' first
   | (with_reducible exact ih0 _ _ _ _ _ _ _ _ _ _ _ _ _ _ _ _ _ _ _ _ _ _)
   | (with_reducible exact ih1 _ _ _ _ _ _ _ _ _ _ _ _ _ _ _ _ _ _ _ _ _ _ _ _ _ _ _ _ _ _)
   | (with_reducible exact LeO.refl _)
   | (with_reducible exact LeO.none _)
   | (with_reducible refine LeO.ite ?_ ?_)
   | (with_reducible refine LeO.bind ?_ (fun _ => ?_))
   | exact ih0 _ _ _ _ _ _ _ _ _ _ _ _ _ _ _ _ _ _ _ _ _ _
   | exact ih1 _ _ _ _ _ _ _ _ _ _ _ _ _ _ _ _ _ _ _ _ _ _ _ _ _ _ _ _ _ _
   | exact LeO.none _
   | refine LeO.ite ?_ ?_
   | refine LeO.bind ?_ (fun _ => ?_)
set_option maxHeartbeats 8000000 in
set_option maxRecDepth 100000 in
theorem water_one.calls (k : Nat) (a0_0 : Int) (a0_1 : Int) (a0_2 : Int) (a0_3 : Int) (a0_4 : Int) (a0_5 : Int) (a0_6 : Int) (a0_7 : Int) (a0_8 : Int) (a0_9 : Int) (a0_10 : Int) (a0_11 : Int) (a0_12 : Int) (a0_13 : Int) (a0_14 : Int) (a1 : Int) (a2_0 : Int) (a2_1 : Int) (a2_2 : Int) (a2_3 : Int) (a2_4 : Int) (a2_5 : Int) (r1 : Int) (r2 : Int) (r3 : Int) (r4 : Int) (r5 : Int) (r6 : Int) (r7 : Int) (r8 : Int) (r9 : Int) (r10 : Int) (r11 : Int) (r12 : Int) (r13 : Int) (r14 : Int) (r15 : Int) (r16 : Int) (r17 : Int) (r18 : Int) (r19 : Int) (r20 : Int) (r21 : Int) (r22 : Bool) (w : World) (h : water_one.f k a0_0 a0_1 a0_2 a0_3 a0_4 a0_5 a0_6 a0_7 a0_8 a0_9 a0_10 a0_11 a0_12 a0_13 a0_14 a1 a2_0 a2_1 a2_2 a2_3 a2_4 a2_5 = some (r1, r2, r3, r4, r5, r6, r7, r8, r9, r10, r11, r12, r13, r14, r15, r16, r17, r18, r19, r20, r21, r22)) :
  Calls Try.prog 23 #[.agg #[.int .i64 a0_0, .int .i64 a0_1, .int .i64 a0_2, .int .i64 a0_3, .int .i64 a0_4, .int .i64 a0_5, .int .i64 a0_6, .int .i64 a0_7, .int .i64 a0_8, .int .i64 a0_9, .int .i64 a0_10, .int .i64 a0_11, .int .i64 a0_12, .int .i64 a0_13, .int .i64 a0_14], .int .i64 a1, .agg #[.int .i64 a2_0, .int .i64 a2_1, .int .i64 a2_2, .int .i64 a2_3, .int .i64 a2_4, .int .i64 a2_5]] w fun e w' => e = .returned (.tuple #[.agg #[.int .i64 r1, .int .i64 r2, .int .i64 r3, .int .i64 r4, .int .i64 r5, .int .i64 r6, .int .i64 r7, .int .i64 r8, .int .i64 r9, .int .i64 r10, .int .i64 r11, .int .i64 r12, .int .i64 r13, .int .i64 r14, .int .i64 r15], .agg #[.int .i64 r16, .int .i64 r17, .int .i64 r18, .int .i64 r19, .int .i64 r20, .int .i64 r21], .bool r22]) ∧ Below w.heap.size w w' := by
 have hu25 := Try.underlying25
 have hu28 := Try.underlying28
 have hu30 := Try.underlying30
 have hu34 := Try.underlying34
 have HB := ka (Below.refl w.heap.size w)
 have H : (if a0_9 = 0 then (water_one.j0 k true a0_0 a0_1 a0_2 a0_3 a0_4 a0_5 a0_6 a0_7 a0_8 a0_9 a0_10 a0_11 a0_12 a0_13 a0_14 a2_0 a2_1 a2_2 a2_3 a2_4 a2_5) else (if a0_11 > a1 then (water_one.j0 k true a0_0 a0_1 a0_2 a0_3 a0_4 a0_5 a0_6 a0_7 a0_8 a0_9 a0_10 a0_11 a0_12 a0_13 a0_14 a2_0 a2_1 a2_2 a2_3 a2_4 a2_5) else (water_one.j0 k (decide (a0_12 ≥ 480)) a0_0 a0_1 a0_2 a0_3 a0_4 a0_5 a0_6 a0_7 a0_8 a0_9 a0_10 a0_11 a0_12 a0_13 a0_14 a2_0 a2_1 a2_2 a2_3 a2_4 a2_5))) = some (r1, r2, r3, r4, r5, r6, r7, r8, r9, r10, r11, r12, r13, r14, r15, r16, r17, r18, r19, r20, r21, r22) := h
 clear h
 have HC4 := ka H
 clear H
 go_enter Try.func23, Try.ntmps23
 go_upto_region 1 with (first | ((with_reducible refine gate_dst (N := 3) rfl ?_); refine kx (N := 3) (cs := #[.int .i64 a0_0, .int .i64 a0_1, .int .i64 a0_2, .int .i64 a0_3, .int .i64 a0_4, .int .i64 a0_5, .int .i64 a0_6, .int .i64 a0_7, .int .i64 a0_8, .int .i64 a0_9, .int .i64 a0_10, .int .i64 a0_11, .int .i64 a0_12, .int .i64 a0_13, .int .i64 a0_14]) (t := 25) ?_; intro gb194 hg w5 hbox hb; have n0_ := ka (below_step (kw HB.out) hb); have n1_ := ka (hbox); have n2_ := ka ((by rw [hg]; exact (below_size (kw HB.out)) : w.heap.size ≤ gb194)); have n3_ := n2_; clear HB; have HB := n0_; have BK194 := n1_; have GW194 := n2_; have GE194 := n3_; clear n0_ n1_ n2_ n3_; clear hb hbox hg) | ((with_reducible refine gate_dst (N := 5) rfl ?_); refine kx (N := 5) (cs := #[.int .i64 a2_0, .int .i64 a2_1, .int .i64 a2_2, .int .i64 a2_3, .int .i64 a2_4, .int .i64 a2_5]) (t := 28) ?_; intro gb195 hg w6 hbox hb; have n0_ := ka (blk_below (g := gb194) (kz BK194.out) hb); have n1_ := ka (below_step (kw HB.out) hb); have n2_ := ka (hbox); have n3_ := ka ((by rw [hg]; exact (below_size (kw HB.out)) : w.heap.size ≤ gb195)); have n4_ := n3_; have n5_ := ka ((by rw [hg]; exact Nat.ne_of_lt (blk_lt (g := gb194) (kz BK194.out)) : gb194 ≠ gb195)); have n6_ := ka n5_.out.symm; clear BK194; clear HB; have BK194 := n0_; have HB := n1_; have BK195 := n2_; have GW195 := n3_; have GE195 := n4_; have NB194_195 := n5_; have NB195_194 := n6_; clear n0_ n1_ n2_ n3_ n4_ n5_ n6_; clear hb hbox hg) | ((with_reducible refine gate_dst (N := 6) rfl ?_); refine kx (N := 6) (cs := #[.int .i64 0, .int .i64 0, .int .i64 0, .int .i64 0, .int .i64 0, .int .i64 0, .int .i64 0, .int .i64 0, .int .i64 0, .int .i64 0, .int .i64 0, .int .i64 0, .int .i64 0, .int .i64 0, .int .i64 0]) (t := 25) ?_; intro gb196 hg w7 hbox hb; have n0_ := ka (blk_below (g := gb194) (kz BK194.out) hb); have n1_ := ka (blk_below (g := gb195) (kz BK195.out) hb); have n2_ := ka (below_step (kw HB.out) hb); have n3_ := ka (hbox); have n4_ := ka ((by rw [hg]; exact (below_size (kw HB.out)) : w.heap.size ≤ gb196)); have n5_ := n4_; have n6_ := ka ((by rw [hg]; exact Nat.ne_of_lt (blk_lt (g := gb194) (kz BK194.out)) : gb194 ≠ gb196)); have n7_ := ka n6_.out.symm; have n8_ := ka ((by rw [hg]; exact Nat.ne_of_lt (blk_lt (g := gb195) (kz BK195.out)) : gb195 ≠ gb196)); have n9_ := ka n8_.out.symm; clear BK194; clear BK195; clear HB; have BK194 := n0_; have BK195 := n1_; have HB := n2_; have BK196 := n3_; have GW196 := n4_; have GE196 := n5_; have NB194_196 := n6_; have NB196_194 := n7_; have NB195_196 := n8_; have NB196_195 := n9_; clear n0_ n1_ n2_ n3_ n4_ n5_ n6_ n7_ n8_ n9_; clear hb hbox hg) | ((with_reducible refine gate_dst (N := 7) rfl ?_); refine kx (N := 7) (cs := #[.int .i64 0, .int .i64 0, .int .i64 0, .int .i64 0, .int .i64 0, .int .i64 0]) (t := 28) ?_; intro gb197 hg w8 hbox hb; have n0_ := ka (blk_below (g := gb194) (kz BK194.out) hb); have n1_ := ka (blk_below (g := gb195) (kz BK195.out) hb); have n2_ := ka (blk_below (g := gb196) (kz BK196.out) hb); have n3_ := ka (below_step (kw HB.out) hb); have n4_ := ka (hbox); have n5_ := ka ((by rw [hg]; exact (below_size (kw HB.out)) : w.heap.size ≤ gb197)); have n6_ := n5_; have n7_ := ka ((by rw [hg]; exact Nat.ne_of_lt (blk_lt (g := gb194) (kz BK194.out)) : gb194 ≠ gb197)); have n8_ := ka n7_.out.symm; have n9_ := ka ((by rw [hg]; exact Nat.ne_of_lt (blk_lt (g := gb195) (kz BK195.out)) : gb195 ≠ gb197)); have n10_ := ka n9_.out.symm; have n11_ := ka ((by rw [hg]; exact Nat.ne_of_lt (blk_lt (g := gb196) (kz BK196.out)) : gb196 ≠ gb197)); have n12_ := ka n11_.out.symm; clear BK194; clear BK195; clear BK196; clear HB; have BK194 := n0_; have BK195 := n1_; have BK196 := n2_; have HB := n3_; have BK197 := n4_; have GW197 := n5_; have GE197 := n6_; have NB194_197 := n7_; have NB197_194 := n8_; have NB195_197 := n9_; have NB197_195 := n10_; have NB196_197 := n11_; have NB197_196 := n12_; clear n0_ n1_ n2_ n3_ n4_ n5_ n6_ n7_ n8_ n9_ n10_ n11_ n12_; clear hb hbox hg) | ((with_reducible refine gate_load (T := 25) rfl ?_); first | refine load_event (g := gb194) rfl rfl rfl Try.underlying25 rfl (by (with_reducible repeat (first | apply kb1 | apply kb2 | apply kb3)); with_reducible exact BK194.out) (by kernel_rfl) ?_ | refine load_event (g := gb196) rfl rfl rfl Try.underlying25 rfl (by (with_reducible repeat (first | apply kb1 | apply kb2 | apply kb3)); with_reducible exact BK196.out) (by kernel_rfl) ?_) | ((with_reducible refine gate_store (T := 25) rfl ?_); first | (refine store_event (g := gb194) rfl rfl rfl rfl rfl (by (with_reducible repeat (first | apply kb1 | apply kb2 | apply kb3)); with_reducible exact BK194.out) (by kernel_rfl) (by rfl) (by rfl) ?_; intro w_194 eX eO eB; (try (replace BK195 := ka ((eO _ NB195_194.out).trans (by (with_reducible repeat (first | apply kb1 | apply kb2 | apply kb3)); with_reducible exact BK195.out)))); (try (replace BK196 := ka ((eO _ NB196_194.out).trans (by (with_reducible repeat (first | apply kb1 | apply kb2 | apply kb3)); with_reducible exact BK196.out)))); (try (replace BK197 := ka ((eO _ NB197_194.out).trans (by (with_reducible repeat (first | apply kb1 | apply kb2 | apply kb3)); with_reducible exact BK197.out)))); replace BK194 := ka eX; replace HB := ka (eB _ _ (kw HB.out) GE194.out); clear eX eO eB; (try have hz194 := blkAll15 BK194.out); (try have hz195 := blkAll6 BK195.out); (try have hz196 := blkAll15 BK196.out); (try have hz197 := blkAll6 BK197.out); (try have hy195 := NB195_194.out); (try have hx195 := NB194_195.out); (try have hy196 := NB196_194.out); (try have hx196 := NB194_196.out); (try have hy197 := NB197_194.out); (try have hx197 := NB194_197.out)) | (refine store_event (g := gb196) rfl rfl rfl rfl rfl (by (with_reducible repeat (first | apply kb1 | apply kb2 | apply kb3)); with_reducible exact BK196.out) (by kernel_rfl) (by rfl) (by rfl) ?_; intro w_196 eX eO eB; (try (replace BK194 := ka ((eO _ NB194_196.out).trans (by (with_reducible repeat (first | apply kb1 | apply kb2 | apply kb3)); with_reducible exact BK194.out)))); (try (replace BK195 := ka ((eO _ NB195_196.out).trans (by (with_reducible repeat (first | apply kb1 | apply kb2 | apply kb3)); with_reducible exact BK195.out)))); (try (replace BK197 := ka ((eO _ NB197_196.out).trans (by (with_reducible repeat (first | apply kb1 | apply kb2 | apply kb3)); with_reducible exact BK197.out)))); replace BK196 := ka eX; replace HB := ka (eB _ _ (kw HB.out) GE196.out); clear eX eO eB; (try have hz194 := blkAll15 BK194.out); (try have hz195 := blkAll6 BK195.out); (try have hz196 := blkAll15 BK196.out); (try have hz197 := blkAll6 BK197.out); (try have hy194 := NB194_196.out); (try have hx194 := NB196_194.out); (try have hy195 := NB195_196.out); (try have hx195 := NB196_195.out); (try have hy197 := NB197_196.out); (try have hx197 := NB196_197.out))))
 (try simp only [Act.put, List.setIfInBounds_toArray, List.set_cons_zero, List.set_cons_succ])
 go_cut [27] (fun v27 wc => ∃ (kq : Nat) (x27_3 : Bool), v27 = .bool x27_3 ∧ Aside0 (water_one.j0 kq x27_3 a0_0 a0_1 a0_2 a0_3 a0_4 a0_5 a0_6 a0_7 a0_8 a0_9 a0_10 a0_11 a0_12 a0_13 a0_14 a2_0 a2_1 a2_2 a2_3 a2_4 a2_5 = some (r1, r2, r3, r4, r5, r6, r7, r8, r9, r10, r11, r12, r13, r14, r15, r16, r17, r18, r19, r20, r21, r22)) ∧ Aside0 (kq ≤ k) ∧ Aside0 (wc.heap[gb194]? = some (.cells #[.int .i64 a0_0, .int .i64 a0_1, .int .i64 a0_2, .int .i64 a0_3, .int .i64 a0_4, .int .i64 a0_5, .int .i64 a0_6, .int .i64 a0_7, .int .i64 a0_8, .int .i64 a0_9, .int .i64 a0_10, .int .i64 a0_11, .int .i64 a0_12, .int .i64 a0_13, .int .i64 a0_14] 25 (0, 0))) ∧ Aside0 (wc.heap[gb195]? = some (.cells #[.int .i64 a2_0, .int .i64 a2_1, .int .i64 a2_2, .int .i64 a2_3, .int .i64 a2_4, .int .i64 a2_5] 28 (0, 0))) ∧ Aside0 (wc.heap[gb196]? = some (.cells #[.int .i64 0, .int .i64 0, .int .i64 0, .int .i64 0, .int .i64 0, .int .i64 0, .int .i64 0, .int .i64 0, .int .i64 0, .int .i64 0, .int .i64 0, .int .i64 0, .int .i64 0, .int .i64 0, .int .i64 0] 25 (0, 0))) ∧ Aside0 (wc.heap[gb197]? = some (.cells #[.int .i64 0, .int .i64 0, .int .i64 0, .int .i64 0, .int .i64 0, .int .i64 0] 28 (0, 0))) ∧ Aside0 (Below w.heap.size w wc))
 case first =>
  have H := HC4.out
  clear HC4
  by_cases c9 : a0_9 = 0
  ·rw [if_pos c9] at H
   have c9b0 : (a0_9 == 0) = true := beq_iff_eq.mpr c9
   have c9b1 : (a0_9 != 0) = false := bne_eq_false_iff_eq.mpr c9
   clear c9
   (first | rw [c9b0] | (simp only [i64_w, i32_w]; rw [c9b0]) | skip)
   have H' := ka H
   clear H
   have hnb10 := NB194_195.out
   have hnc10 := NB195_194.out
   have hnb11 := NB194_196.out
   have hnc11 := NB196_194.out
   have hnb12 := NB194_197.out
   have hnc12 := NB197_194.out
   have hcz13 := blkAll15 BK194.out
   go_wp2
   go_meet
   case rel => exact ⟨_, (true), (by first | rfl | (simp; done) | (simp [*]; done)), H', ⟨by first | omega | exact Nat.le_refl _⟩, ⟨by (with_reducible repeat (first | apply kb1 | apply kb2 | apply kb3)); exact BK194.out⟩, ⟨by (with_reducible repeat (first | apply kb1 | apply kb2 | apply kb3)); exact BK195.out⟩, ⟨by (with_reducible repeat (first | apply kb1 | apply kb2 | apply kb3)); exact BK196.out⟩, ⟨by (with_reducible repeat (first | apply kb1 | apply kb2 | apply kb3)); exact BK197.out⟩, ⟨by repeat (first | (with_reducible first | exact HB.out | apply kc1 | apply kc2 | apply kc3 | refine kc4 ?_ GE194.out | refine kc4 ?_ GE195.out | refine kc4 ?_ GE196.out | refine kc4 ?_ GE197.out) | exact HB.out)⟩⟩
  ·rw [if_neg c9] at H
   have c9b0 : (a0_9 == 0) = false := beq_eq_false_iff_ne.mpr c9
   have c9b1 : (a0_9 != 0) = true := bne_iff_ne.mpr c9
   (first | rw [c9b0] | (simp only [i64_w, i32_w]; rw [c9b0]) | skip)
   by_cases c14 : a0_11 > a1
   ·rw [if_pos c14] at H
    have c14b0 : decide (a1 < a0_11) = true := decide_eq_true c14
    clear c14
    have H' := ka H
    clear H
    have hnb15 := NB194_195.out
    have hnc15 := NB195_194.out
    have hnb16 := NB194_196.out
    have hnc16 := NB196_194.out
    have hnb17 := NB194_197.out
    have hnc17 := NB197_194.out
    have hcz18 := blkAll15 BK194.out
    go_wp2
    go_meet
    case rel => exact ⟨_, (true), (by first | rfl | (simp; done) | (simp [*]; done)), H', ⟨by first | omega | exact Nat.le_refl _⟩, ⟨by (with_reducible repeat (first | apply kb1 | apply kb2 | apply kb3)); exact BK194.out⟩, ⟨by (with_reducible repeat (first | apply kb1 | apply kb2 | apply kb3)); exact BK195.out⟩, ⟨by (with_reducible repeat (first | apply kb1 | apply kb2 | apply kb3)); exact BK196.out⟩, ⟨by (with_reducible repeat (first | apply kb1 | apply kb2 | apply kb3)); exact BK197.out⟩, ⟨by repeat (first | (with_reducible first | exact HB.out | apply kc1 | apply kc2 | apply kc3 | refine kc4 ?_ GE194.out | refine kc4 ?_ GE195.out | refine kc4 ?_ GE196.out | refine kc4 ?_ GE197.out) | exact HB.out)⟩⟩
   ·rw [if_neg c14] at H
    have c14b0 : decide (a1 < a0_11) = false := decide_eq_false c14
    clear c14
    have H' := ka H
    clear H
    have hnb19 := NB194_195.out
    have hnc19 := NB195_194.out
    have hnb20 := NB194_196.out
    have hnc20 := NB196_194.out
    have hnb21 := NB194_197.out
    have hnc21 := NB197_194.out
    have hcz22 := blkAll15 BK194.out
    go_wp2
    go_meet
    case rel => exact ⟨_, (decide (a0_12 ≥ 480)), (by first | rfl | (simp; done) | (simp [*]; done)), H', ⟨by first | omega | exact Nat.le_refl _⟩, ⟨by (with_reducible repeat (first | apply kb1 | apply kb2 | apply kb3)); exact BK194.out⟩, ⟨by (with_reducible repeat (first | apply kb1 | apply kb2 | apply kb3)); exact BK195.out⟩, ⟨by (with_reducible repeat (first | apply kb1 | apply kb2 | apply kb3)); exact BK196.out⟩, ⟨by (with_reducible repeat (first | apply kb1 | apply kb2 | apply kb3)); exact BK197.out⟩, ⟨by repeat (first | (with_reducible first | exact HB.out | apply kc1 | apply kc2 | apply kc3 | refine kc4 ?_ GE194.out | refine kc4 ?_ GE195.out | refine kc4 ?_ GE196.out | refine kc4 ?_ GE197.out) | exact HB.out)⟩⟩
 case rest =>
  clear HC4
  try clear c1
  try clear c2
  try clear p2
  try clear c9
  try clear c9b0
  try clear c9b1
  try clear c10
  try clear c11
  try clear c12
  try clear c14
  try clear c14b0
  try clear c15
  try clear c16
  try clear c17
  try clear c19
  try clear c20
  try clear c21
  try clear hcz13
  try clear hcz18
  try clear hcz22
  obtain ⟨kq, x27_3, rfl, HA, HJ3, BK194, BK195, BK196, BK197, HB⟩ := hcut
  cases kq with
  | zero => exact absurd HA.out (by simp [water_one.j0])
  | succ kj3 =>
   have H := HA.out
   clear HA
   simp only [water_one.j0] at H
   by_cases c23 : x27_3 = true
   ·subst c23
    have H1 : (some (a0_0, a0_1, a0_2, a0_3, a0_4, a0_5, a0_6, a0_7, a0_8, a0_9, a0_10, a0_11, a0_12, a0_13, a0_14, a2_0, a2_1, a2_2, a2_3, a2_4, a2_5, false)) = some (r1, r2, r3, r4, r5, r6, r7, r8, r9, r10, r11, r12, r13, r14, r15, r16, r17, r18, r19, r20, r21, r22) := by rw [if_pos rfl] at H; exact H
    clear H
    have H := H1
    clear H1
    simp only [Option.some.injEq, Prod.mk.injEq] at H
    obtain ⟨rfl, rfl, rfl, rfl, rfl, rfl, rfl, rfl, rfl, rfl, rfl, rfl, rfl, rfl, rfl, rfl, rfl, rfl, rfl, rfl, rfl, rfl⟩ := H
    try go_wp2
    have n0_ := ka (blk_drew BK194.out)
    have n1_ := ka (blk_drew BK195.out)
    have n2_ := ka (blk_drew BK196.out)
    have n3_ := ka (blk_drew BK197.out)
    have n4_ := ka (below_drew1 HB.out)
    clear BK194
    clear BK195
    clear BK196
    clear BK197
    clear HB
    have BK194 := n0_
    have BK195 := n1_
    have BK196 := n2_
    have BK197 := n3_
    have HB := n4_
    clear n0_ n1_ n2_ n3_ n4_
    refine start_ (n := 5) (S := fun w' => w'.heap[gb194]? = some (.cells #[.int .i64 a0_0, .int .i64 a0_1, .int .i64 a0_2, .int .i64 a0_3, .int .i64 a0_4, .int .i64 a0_5, .int .i64 a0_6, .int .i64 a0_7, .int .i64 a0_8, .int .i64 a0_9, .int .i64 a0_10, .int .i64 a0_11, .int .i64 a0_12, .int .i64 a0_13, .int .i64 a0_14] 25 (0, 0)) ∧ w'.heap[gb195]? = some (.cells #[.int .i64 a2_0, .int .i64 a2_1, .int .i64 a2_2, .int .i64 a2_3, .int .i64 a2_4, .int .i64 a2_5] 28 (0, 0))) (ds := []) #[false, false, false, false, false] (by kernel_rfl) rfl rfl ⟨BK194.out, BK195.out⟩ (fun hHeld => ?_)
    generalize wc.drew = w24 at BK194 BK195 BK196 BK197 HB hHeld ⊢
    refine take_ (i := 0) (N := some 28) (v := ?_) (a' := ?_) #[true, false, false, false, false] rfl rfl (by kernel_rfl) (fun _ _ _ h => h) (Or.inl ⟨by rfl, ?_⟩) hHeld ?_ ?_
    rotate_left
    ·rintro w' ⟨b194, b195⟩
     first | exact loadRow rfl rfl Try.underlying25 rfl b194 (by kernel_rfl) | exact loadRow rfl rfl Try.underlying28 rfl b195 (by kernel_rfl) | (have q194 := blkAll15 b194; have q195 := blkAll6 b195; go_simp; with_reducible rfl)
    rotate_left
    ·simp only [Act.put, List.setIfInBounds_toArray, List.set_cons_zero, List.set_cons_succ, i64_w, i32_w]
     rfl
    refine take_ (i := 1) (N := some 29) (v := ?_) (a' := ?_) #[true, true, false, false, false] rfl rfl (by kernel_rfl) (fun _ _ _ h => h) (Or.inl ⟨by rfl, ?_⟩) hHeld ?_ ?_
    rotate_left
    ·rintro w' ⟨b194, b195⟩
     first | exact loadRow rfl rfl Try.underlying25 rfl b194 (by kernel_rfl) | exact loadRow rfl rfl Try.underlying28 rfl b195 (by kernel_rfl) | (have q194 := blkAll15 b194; have q195 := blkAll6 b195; go_simp; with_reducible rfl)
    rotate_left
    ·simp only [Act.put, List.setIfInBounds_toArray, List.set_cons_zero, List.set_cons_succ, i64_w, i32_w]
     rfl
    refine one_ (i := 2) (N := none) #[true, true, true, false, false] rfl rfl (by kernel_rfl) (by decide) (fun K hK => ?_)
    refine skipRow (by rfl) rfl rfl rfl rfl BK196.out (by kernel_rfl) rfl rfl ?_
    refine fresh4 (K := K) (o1 := w24.heap[gb194]?) (o2 := w24.heap[gb195]?) (o4 := w24.heap[gb197]?) (setRow_other _ _ _ _ NB194_196.out) (setRow_other _ _ _ _ NB195_196.out) (setRow_heap _ _ _ _ _ _ BK196.out) (setRow_other _ _ _ _ NB197_196.out) (below_setRow HB.out GE196.out _) (fun w24 eBK194 eBK195 eBK196 eBK197 eHB => ?_)
    replace BK194 := ka (eBK194.trans BK194.out)
    replace BK195 := ka (eBK195.trans BK195.out)
    replace BK196 := ka eBK196
    replace BK197 := ka (eBK197.trans BK197.out)
    replace HB := ka eHB
    clear hHeld eHB eBK194 eBK195 eBK196 eBK197
    refine hK.out _ _ ⟨BK194.out, BK195.out⟩ (fun hHeld => ?_)
    clear hK K
    refine one_ (i := 3) (N := none) #[true, true, true, true, false] rfl rfl (by kernel_rfl) (by decide) (fun K hK => ?_)
    refine skipRow (by rfl) rfl rfl rfl rfl BK197.out (by kernel_rfl) rfl rfl ?_
    refine fresh4 (K := K) (o1 := w24.heap[gb194]?) (o2 := w24.heap[gb195]?) (o3 := w24.heap[gb196]?) (setRow_other _ _ _ _ NB194_197.out) (setRow_other _ _ _ _ NB195_197.out) (setRow_other _ _ _ _ NB196_197.out) (setRow_heap _ _ _ _ _ _ BK197.out) (below_setRow HB.out GE197.out _) (fun w24 eBK194 eBK195 eBK196 eBK197 eHB => ?_)
    replace BK194 := ka (eBK194.trans BK194.out)
    replace BK195 := ka (eBK195.trans BK195.out)
    replace BK196 := ka (eBK196.trans BK196.out)
    replace BK197 := ka eBK197
    replace HB := ka eHB
    clear hHeld eHB eBK194 eBK195 eBK196 eBK197
    refine hK.out _ _ ⟨BK194.out, BK195.out⟩ (fun hHeld => ?_)
    clear hK K
    refine pure_ (i := 4) (N := some 8) (v := ?_) (a' := ?_) #[true, true, true, true, true] rfl rfl (by kernel_rfl) (fun _ _ _ h => h) (Or.inl ⟨by rfl, ?_⟩) ?_ ?_
    rotate_left
    ·intro w'
     go_simp
     with_reducible rfl
    rotate_left
    ·simp only [Act.put, List.setIfInBounds_toArray, List.set_cons_zero, List.set_cons_succ, i64_w, i32_w]
     rfl
    refine done_ (by kernel_rfl) ?_
    try go_wp2
    refine bodyPost_ret (results_list (rs := [.cell 6 25, .cell 7 28, .tmp 8]) rfl (by simp) (.cell gb196 25 #[.int .i64 a0_0, .int .i64 a0_1, .int .i64 a0_2, .int .i64 a0_3, .int .i64 a0_4, .int .i64 a0_5, .int .i64 a0_6, .int .i64 a0_7, .int .i64 a0_8, .int .i64 a0_9, .int .i64 a0_10, .int .i64 a0_11, .int .i64 a0_12, .int .i64 a0_13, .int .i64 a0_14] (0, 0) _ rfl (by (with_reducible repeat (first | apply kb1 | apply kb2 | apply kb3 | refine kb4 ?_ NB196_197.out _ | apply blkPut15_14 | apply blkPut15_13 | apply blkPut15_12 | apply blkPut15_11 | apply blkPut15_10 | apply blkPut15_9 | apply blkPut15_8 | apply blkPut15_7 | apply blkPut15_6 | apply blkPut15_5 | apply blkPut15_4 | apply blkPut15_3 | apply blkPut15_2 | apply blkPut15_1 | apply blkPut15_0)); exact BK196.out) Try.underlying25 rfl (by kernel_rfl) (.cell gb197 28 #[.int .i64 a2_0, .int .i64 a2_1, .int .i64 a2_2, .int .i64 a2_3, .int .i64 a2_4, .int .i64 a2_5] (0, 0) _ rfl (by (with_reducible repeat (first | apply kb1 | apply kb2 | apply kb3 | apply blkPut6_5 | apply blkPut6_4 | apply blkPut6_3 | apply blkPut6_2 | apply blkPut6_1 | apply blkPut6_0 | refine kb4 ?_ NB197_196.out _)); exact BK197.out) Try.underlying28 rfl (by kernel_rfl) (.tmp .nil)))) rfl ?_
    exact ⟨by first | rfl | (simp [errW_none, errW_some] <;> rfl) | (simp [*, errW_none, errW_some] <;> rfl), by repeat (first | (with_reducible first | exact HB.out | apply kc1 | apply kc2 | apply kc3 | refine kc4 ?_ GE194.out | refine kc4 ?_ GE195.out | refine kc4 ?_ GE196.out | refine kc4 ?_ GE197.out) | exact HB.out)⟩
   ·replace c23 := Bool.eq_false_iff.mpr c23
    subst c23
    have H1 : ((water_next_s.f a0_0 a0_1 a0_2 a0_3 a0_4 a0_5 a0_6 a0_7 a0_8 a0_9 a0_10 a0_11 a0_12 a0_13 a0_14).bind fun bt198 => ((water_month_s.f a0_11).bind fun bt206 => (if bt198.2.2.2.2.2.2.isNone = true then (if bt206.2 = true then (water_one.j1 kj3 (wrap64 ((wrap64 (bt198.2.1 + bt198.2.2.1)) + bt198.2.2.2.1)) bt206.1 (decide (a0_13 < (wrap64 ((wrap64 (bt198.2.1 + bt198.2.2.1)) + bt198.2.2.2.1)))) a0_0 a0_1 a0_2 a0_3 a0_4 a0_5 a0_6 a0_7 a0_8 a0_9 a0_10 a0_11 a0_12 a0_13 a0_14 a2_0 a2_1 a2_2 a2_3 a2_4 a2_5 bt198.1 bt198.2.1 bt198.2.2.1 bt198.2.2.2.1 bt198.2.2.2.2.1 bt198.2.2.2.2.2.1) else (water_one.j1 kj3 (wrap64 ((wrap64 (bt198.2.1 + bt198.2.2.1)) + bt198.2.2.2.1)) bt206.1 true a0_0 a0_1 a0_2 a0_3 a0_4 a0_5 a0_6 a0_7 a0_8 a0_9 a0_10 a0_11 a0_12 a0_13 a0_14 a2_0 a2_1 a2_2 a2_3 a2_4 a2_5 bt198.1 bt198.2.1 bt198.2.2.1 bt198.2.2.2.1 bt198.2.2.2.2.1 bt198.2.2.2.2.2.1)) else (water_one.j1 kj3 (wrap64 ((wrap64 (bt198.2.1 + bt198.2.2.1)) + bt198.2.2.2.1)) bt206.1 true a0_0 a0_1 a0_2 a0_3 a0_4 a0_5 a0_6 a0_7 a0_8 a0_9 a0_10 a0_11 a0_12 a0_13 a0_14 a2_0 a2_1 a2_2 a2_3 a2_4 a2_5 bt198.1 bt198.2.1 bt198.2.2.1 bt198.2.2.2.1 bt198.2.2.2.2.1 bt198.2.2.2.2.2.1)))) = some (r1, r2, r3, r4, r5, r6, r7, r8, r9, r10, r11, r12, r13, r14, r15, r16, r17, r18, r19, r20, r21, r22) := by rw [if_neg (show ¬ (false = true) by decide)] at H; exact H
    clear H
    have H := H1
    clear H1
    replace H := Option.bind_eq_some_iff.mp H
    obtain ⟨⟨t198, t199, t200, t201, t202, t203, t204⟩, A460, H⟩ := H
    replace H : ((water_month_s.f a0_11).bind fun bt206 => (if t204.isNone = true then (if bt206.2 = true then (water_one.j1 kj3 (wrap64 ((wrap64 (t199 + t200)) + t201)) bt206.1 (decide (a0_13 < (wrap64 ((wrap64 (t199 + t200)) + t201)))) a0_0 a0_1 a0_2 a0_3 a0_4 a0_5 a0_6 a0_7 a0_8 a0_9 a0_10 a0_11 a0_12 a0_13 a0_14 a2_0 a2_1 a2_2 a2_3 a2_4 a2_5 t198 t199 t200 t201 t202 t203) else (water_one.j1 kj3 (wrap64 ((wrap64 (t199 + t200)) + t201)) bt206.1 true a0_0 a0_1 a0_2 a0_3 a0_4 a0_5 a0_6 a0_7 a0_8 a0_9 a0_10 a0_11 a0_12 a0_13 a0_14 a2_0 a2_1 a2_2 a2_3 a2_4 a2_5 t198 t199 t200 t201 t202 t203)) else (water_one.j1 kj3 (wrap64 ((wrap64 (t199 + t200)) + t201)) bt206.1 true a0_0 a0_1 a0_2 a0_3 a0_4 a0_5 a0_6 a0_7 a0_8 a0_9 a0_10 a0_11 a0_12 a0_13 a0_14 a2_0 a2_1 a2_2 a2_3 a2_4 a2_5 t198 t199 t200 t201 t202 t203))) = some (r1, r2, r3, r4, r5, r6, r7, r8, r9, r10, r11, r12, r13, r14, r15, r16, r17, r18, r19, r20, r21, r22) := H
    have A46 := ka A460
    clear A460
    replace H := Option.bind_eq_some_iff.mp H
    obtain ⟨⟨t206, t207⟩, A470, H⟩ := H
    replace H : (if t204.isNone = true then (if t207 = true then (water_one.j1 kj3 (wrap64 ((wrap64 (t199 + t200)) + t201)) t206 (decide (a0_13 < (wrap64 ((wrap64 (t199 + t200)) + t201)))) a0_0 a0_1 a0_2 a0_3 a0_4 a0_5 a0_6 a0_7 a0_8 a0_9 a0_10 a0_11 a0_12 a0_13 a0_14 a2_0 a2_1 a2_2 a2_3 a2_4 a2_5 t198 t199 t200 t201 t202 t203) else (water_one.j1 kj3 (wrap64 ((wrap64 (t199 + t200)) + t201)) t206 true a0_0 a0_1 a0_2 a0_3 a0_4 a0_5 a0_6 a0_7 a0_8 a0_9 a0_10 a0_11 a0_12 a0_13 a0_14 a2_0 a2_1 a2_2 a2_3 a2_4 a2_5 t198 t199 t200 t201 t202 t203)) else (water_one.j1 kj3 (wrap64 ((wrap64 (t199 + t200)) + t201)) t206 true a0_0 a0_1 a0_2 a0_3 a0_4 a0_5 a0_6 a0_7 a0_8 a0_9 a0_10 a0_11 a0_12 a0_13 a0_14 a2_0 a2_1 a2_2 a2_3 a2_4 a2_5 t198 t199 t200 t201 t202 t203)) = some (r1, r2, r3, r4, r5, r6, r7, r8, r9, r10, r11, r12, r13, r14, r15, r16, r17, r18, r19, r20, r21, r22) := H
    have A47 := ka A470
    clear A470
    have HC48 := ka H
    clear H
    have hnb49 := NB194_195.out
    have hnc49 := NB195_194.out
    have hnb50 := NB194_196.out
    have hnc50 := NB196_194.out
    have hnb51 := NB194_197.out
    have hnc51 := NB197_194.out
    have hcz52 := blkAll15 BK194.out
    go_upto_region 6 with (first | ((with_reducible refine gate_callee (f := 28) rfl ?_); refine kg (some 32) rfl rfl Try.func28 (by kernel_rfl) rfl #[.agg #[.int .i64 a0_0, .int .i64 a0_1, .int .i64 a0_2, .int .i64 a0_3, .int .i64 a0_4, .int .i64 a0_5, .int .i64 a0_6, .int .i64 a0_7, .int .i64 a0_8, .int .i64 a0_9, .int .i64 a0_10, .int .i64 a0_11, .int .i64 a0_12, .int .i64 a0_13, .int .i64 a0_14]] rfl ?_; (with_reducible refine (water_next_s.calls a0_0 a0_1 a0_2 a0_3 a0_4 a0_5 a0_6 a0_7 a0_8 a0_9 a0_10 a0_11 a0_12 a0_13 a0_14 t198 t199 t200 t201 t202 t203 t204 _ A46.out).mono ?_); rintro e w53 ⟨rfl, hb⟩; refine ⟨_, rfl, ?_⟩; have n0_ := ka (blk_below (g := gb194) (kz BK194.out) hb); have n1_ := ka (blk_below (g := gb195) (kz BK195.out) hb); have n2_ := ka (blk_below (g := gb196) (kz BK196.out) hb); have n3_ := ka (blk_below (g := gb197) (kz BK197.out) hb); have n4_ := ka (below_step (kw HB.out) hb); clear BK194; clear BK195; clear BK196; clear BK197; clear HB; have BK194 := n0_; have BK195 := n1_; have BK196 := n2_; have BK197 := n3_; have HB := n4_; clear n0_ n1_ n2_ n3_ n4_; (try clear hb); (try clear hb2); (try clear hk); (try clear hi); (try simp only [errW_none, errW_some])) | ((with_reducible refine gate_dst (N := 9) rfl ?_); refine kx (N := 9) (cs := #[.int .i64 0, .int .i64 0, .int .i64 0, .int .i64 0, .int .i64 0, .int .i64 0]) (t := 28) ?_; intro gb205 hg w54 hbox hb; have n0_ := ka (blk_below (g := gb194) (kz BK194.out) hb); have n1_ := ka (blk_below (g := gb195) (kz BK195.out) hb); have n2_ := ka (blk_below (g := gb196) (kz BK196.out) hb); have n3_ := ka (blk_below (g := gb197) (kz BK197.out) hb); have n4_ := ka (below_step (kw HB.out) hb); have n5_ := ka (hbox); have n6_ := ka ((by rw [hg]; exact (below_size (kw HB.out)) : w.heap.size ≤ gb205)); have n7_ := n6_; have n8_ := ka ((by rw [hg]; exact Nat.ne_of_lt (blk_lt (g := gb194) (kz BK194.out)) : gb194 ≠ gb205)); have n9_ := ka n8_.out.symm; have n10_ := ka ((by rw [hg]; exact Nat.ne_of_lt (blk_lt (g := gb195) (kz BK195.out)) : gb195 ≠ gb205)); have n11_ := ka n10_.out.symm; have n12_ := ka ((by rw [hg]; exact Nat.ne_of_lt (blk_lt (g := gb196) (kz BK196.out)) : gb196 ≠ gb205)); have n13_ := ka n12_.out.symm; have n14_ := ka ((by rw [hg]; exact Nat.ne_of_lt (blk_lt (g := gb197) (kz BK197.out)) : gb197 ≠ gb205)); have n15_ := ka n14_.out.symm; clear BK194; clear BK195; clear BK196; clear BK197; clear HB; have BK194 := n0_; have BK195 := n1_; have BK196 := n2_; have BK197 := n3_; have HB := n4_; have BK205 := n5_; have GW205 := n6_; have GE205 := n7_; have NB194_205 := n8_; have NB205_194 := n9_; have NB195_205 := n10_; have NB205_195 := n11_; have NB196_205 := n12_; have NB205_196 := n13_; have NB197_205 := n14_; have NB205_197 := n15_; clear n0_ n1_ n2_ n3_ n4_ n5_ n6_ n7_ n8_ n9_ n10_ n11_ n12_ n13_ n14_ n15_; clear hb hbox hg; have hnb55 := NB205_194.out; have hnc55 := NB194_205.out; have hnb56 := NB205_195.out; have hnc56 := NB195_205.out; have hnb57 := NB205_196.out; have hnc57 := NB196_205.out; have hnb58 := NB205_197.out; have hnc58 := NB197_205.out; have hcz59 := blkAll6 BK205.out; have hcz60 := blkAll15 BK194.out) | ((with_reducible refine gate_callee (f := 33) rfl ?_); refine kg (some 46) rfl rfl Try.func33 (by kernel_rfl) rfl #[.int .i64 a0_11] rfl ?_; (with_reducible refine (water_month_s.calls a0_11 t206 t207 _ A47.out).mono ?_); rintro e w61 ⟨rfl, hb⟩; refine ⟨_, rfl, ?_⟩; have n0_ := ka (blk_below (g := gb194) (o := .cells #[.int .i64 a0_0, .int .i64 a0_1, .int .i64 a0_2, .int .i64 a0_3, .int .i64 a0_4, .int .i64 a0_5, .int .i64 a0_6, .int .i64 a0_7, .int .i64 a0_8, .int .i64 a0_9, .int .i64 a0_10, .int .i64 a0_11, .int .i64 a0_12, .int .i64 a0_13, .int .i64 a0_14] 25 (0, 0)) (by (with_reducible repeat (first | apply kb1 | apply kb2 | apply kb3 | refine kb4 ?_ NB194_205.out _)); exact BK194.out) hb); have n1_ := ka (blk_below (g := gb195) (o := .cells #[.int .i64 a2_0, .int .i64 a2_1, .int .i64 a2_2, .int .i64 a2_3, .int .i64 a2_4, .int .i64 a2_5] 28 (0, 0)) (by (with_reducible repeat (first | apply kb1 | apply kb2 | apply kb3 | refine kb4 ?_ NB195_205.out _)); exact BK195.out) hb); have n2_ := ka (blk_below (g := gb196) (o := .cells #[.int .i64 0, .int .i64 0, .int .i64 0, .int .i64 0, .int .i64 0, .int .i64 0, .int .i64 0, .int .i64 0, .int .i64 0, .int .i64 0, .int .i64 0, .int .i64 0, .int .i64 0, .int .i64 0, .int .i64 0] 25 (0, 0)) (by (with_reducible repeat (first | apply kb1 | apply kb2 | apply kb3 | refine kb4 ?_ NB196_205.out _)); exact BK196.out) hb); have n3_ := ka (blk_below (g := gb197) (o := .cells #[.int .i64 0, .int .i64 0, .int .i64 0, .int .i64 0, .int .i64 0, .int .i64 0] 28 (0, 0)) (by (with_reducible repeat (first | apply kb1 | apply kb2 | apply kb3 | refine kb4 ?_ NB197_205.out _)); exact BK197.out) hb); have n4_ := ka (blk_below (g := gb205) (o := .cells #[.int .i64 t198, .int .i64 t199, .int .i64 t200, .int .i64 t201, .int .i64 t202, .int .i64 t203] 28 (0, 0)) (by (with_reducible repeat (first | apply kb1 | apply kb2 | apply kb3 | apply blkPut6_5 | apply blkPut6_4 | apply blkPut6_3 | apply blkPut6_2 | apply blkPut6_1 | apply blkPut6_0)); exact BK205.out) hb); have n5_ := ka (below_step (kw HB.out) hb); clear BK194; clear BK195; clear BK196; clear BK197; clear BK205; clear HB; have BK194 := n0_; have BK195 := n1_; have BK196 := n2_; have BK197 := n3_; have BK205 := n4_; have HB := n5_; clear n0_ n1_ n2_ n3_ n4_ n5_; (try clear hb); (try clear hb2); (try clear hk); (try clear hi)) | ((with_reducible refine gate_load (T := 25) rfl ?_); first | refine load_event (g := gb194) rfl rfl rfl Try.underlying25 rfl (by (with_reducible repeat (first | apply kb1 | apply kb2 | apply kb3)); with_reducible exact BK194.out) (by kernel_rfl) ?_ | refine load_event (g := gb196) rfl rfl rfl Try.underlying25 rfl (by (with_reducible repeat (first | apply kb1 | apply kb2 | apply kb3)); with_reducible exact BK196.out) (by kernel_rfl) ?_) | ((with_reducible refine gate_store (T := 25) rfl ?_); first | (refine store_event (g := gb194) rfl rfl rfl rfl rfl (by (with_reducible repeat (first | apply kb1 | apply kb2 | apply kb3)); with_reducible exact BK194.out) (by kernel_rfl) (by rfl) (by rfl) ?_; intro w_194 eX eO eB; (try (replace BK195 := ka ((eO _ NB195_194.out).trans (by (with_reducible repeat (first | apply kb1 | apply kb2 | apply kb3)); with_reducible exact BK195.out)))); (try (replace BK196 := ka ((eO _ NB196_194.out).trans (by (with_reducible repeat (first | apply kb1 | apply kb2 | apply kb3)); with_reducible exact BK196.out)))); (try (replace BK197 := ka ((eO _ NB197_194.out).trans (by (with_reducible repeat (first | apply kb1 | apply kb2 | apply kb3)); with_reducible exact BK197.out)))); (try (replace BK205 := ka ((eO _ NB205_194.out).trans (by (with_reducible repeat (first | apply kb1 | apply kb2 | apply kb3)); with_reducible exact BK205.out)))); replace BK194 := ka eX; replace HB := ka (eB _ _ (kw HB.out) GE194.out); clear eX eO eB; (try have hz194 := blkAll15 BK194.out); (try have hz195 := blkAll6 BK195.out); (try have hz196 := blkAll15 BK196.out); (try have hz197 := blkAll6 BK197.out); (try have hz205 := blkAll6 BK205.out); (try have hy195 := NB195_194.out); (try have hx195 := NB194_195.out); (try have hy196 := NB196_194.out); (try have hx196 := NB194_196.out); (try have hy197 := NB197_194.out); (try have hx197 := NB194_197.out); (try have hy205 := NB205_194.out); (try have hx205 := NB194_205.out)) | (refine store_event (g := gb196) rfl rfl rfl rfl rfl (by (with_reducible repeat (first | apply kb1 | apply kb2 | apply kb3)); with_reducible exact BK196.out) (by kernel_rfl) (by rfl) (by rfl) ?_; intro w_196 eX eO eB; (try (replace BK194 := ka ((eO _ NB194_196.out).trans (by (with_reducible repeat (first | apply kb1 | apply kb2 | apply kb3)); with_reducible exact BK194.out)))); (try (replace BK195 := ka ((eO _ NB195_196.out).trans (by (with_reducible repeat (first | apply kb1 | apply kb2 | apply kb3)); with_reducible exact BK195.out)))); (try (replace BK197 := ka ((eO _ NB197_196.out).trans (by (with_reducible repeat (first | apply kb1 | apply kb2 | apply kb3)); with_reducible exact BK197.out)))); (try (replace BK205 := ka ((eO _ NB205_196.out).trans (by (with_reducible repeat (first | apply kb1 | apply kb2 | apply kb3)); with_reducible exact BK205.out)))); replace BK196 := ka eX; replace HB := ka (eB _ _ (kw HB.out) GE196.out); clear eX eO eB; (try have hz194 := blkAll15 BK194.out); (try have hz195 := blkAll6 BK195.out); (try have hz196 := blkAll15 BK196.out); (try have hz197 := blkAll6 BK197.out); (try have hz205 := blkAll6 BK205.out); (try have hy194 := NB194_196.out); (try have hx194 := NB196_194.out); (try have hy195 := NB195_196.out); (try have hx195 := NB196_195.out); (try have hy197 := NB197_196.out); (try have hx197 := NB196_197.out); (try have hy205 := NB205_196.out); (try have hx205 := NB196_205.out))))
    (try simp only [Act.put, List.setIfInBounds_toArray, List.set_cons_zero, List.set_cons_succ])
    go_cut [60] (fun v60 wc => ∃ (kq : Nat) (x60_47 : Bool), v60 = .bool x60_47 ∧ Aside0 (water_one.j1 kq (wrap64 ((wrap64 (t199 + t200)) + t201)) t206 x60_47 a0_0 a0_1 a0_2 a0_3 a0_4 a0_5 a0_6 a0_7 a0_8 a0_9 a0_10 a0_11 a0_12 a0_13 a0_14 a2_0 a2_1 a2_2 a2_3 a2_4 a2_5 t198 t199 t200 t201 t202 t203 = some (r1, r2, r3, r4, r5, r6, r7, r8, r9, r10, r11, r12, r13, r14, r15, r16, r17, r18, r19, r20, r21, r22)) ∧ Aside0 (kq ≤ kj3) ∧ Aside0 (wc.heap[gb194]? = some (.cells #[.int .i64 a0_0, .int .i64 a0_1, .int .i64 a0_2, .int .i64 a0_3, .int .i64 a0_4, .int .i64 a0_5, .int .i64 a0_6, .int .i64 a0_7, .int .i64 a0_8, .int .i64 a0_9, .int .i64 a0_10, .int .i64 a0_11, .int .i64 a0_12, .int .i64 a0_13, .int .i64 a0_14] 25 (0, 0))) ∧ Aside0 (wc.heap[gb195]? = some (.cells #[.int .i64 a2_0, .int .i64 a2_1, .int .i64 a2_2, .int .i64 a2_3, .int .i64 a2_4, .int .i64 a2_5] 28 (0, 0))) ∧ Aside0 (wc.heap[gb196]? = some (.cells #[.int .i64 0, .int .i64 0, .int .i64 0, .int .i64 0, .int .i64 0, .int .i64 0, .int .i64 0, .int .i64 0, .int .i64 0, .int .i64 0, .int .i64 0, .int .i64 0, .int .i64 0, .int .i64 0, .int .i64 0] 25 (0, 0))) ∧ Aside0 (wc.heap[gb197]? = some (.cells #[.int .i64 0, .int .i64 0, .int .i64 0, .int .i64 0, .int .i64 0, .int .i64 0] 28 (0, 0))) ∧ Aside0 (wc.heap[gb205]? = some (.cells #[.int .i64 t198, .int .i64 t199, .int .i64 t200, .int .i64 t201, .int .i64 t202, .int .i64 t203] 28 (0, 0))) ∧ Aside0 (Below w.heap.size w wc))
    case first =>
     have H := HC48.out
     clear HC48
     rcases t204 with _ | q208
     ·have H1 : (if t207 = true then (water_one.j1 kj3 (wrap64 ((wrap64 (t199 + t200)) + t201)) t206 (decide (a0_13 < (wrap64 ((wrap64 (t199 + t200)) + t201)))) a0_0 a0_1 a0_2 a0_3 a0_4 a0_5 a0_6 a0_7 a0_8 a0_9 a0_10 a0_11 a0_12 a0_13 a0_14 a2_0 a2_1 a2_2 a2_3 a2_4 a2_5 t198 t199 t200 t201 t202 t203) else (water_one.j1 kj3 (wrap64 ((wrap64 (t199 + t200)) + t201)) t206 true a0_0 a0_1 a0_2 a0_3 a0_4 a0_5 a0_6 a0_7 a0_8 a0_9 a0_10 a0_11 a0_12 a0_13 a0_14 a2_0 a2_1 a2_2 a2_3 a2_4 a2_5 t198 t199 t200 t201 t202 t203)) = some (r1, r2, r3, r4, r5, r6, r7, r8, r9, r10, r11, r12, r13, r14, r15, r16, r17, r18, r19, r20, r21, r22) := by rw [if_pos (show (none : Option Int).isNone = true by rfl)] at H; exact H
      clear H
      have H := H1
      clear H1
      try simp only [errW_none, errW_some]
      by_cases c62 : t207 = true
      ·subst c62
       have H1 : (water_one.j1 kj3 (wrap64 ((wrap64 (t199 + t200)) + t201)) t206 (decide (a0_13 < (wrap64 ((wrap64 (t199 + t200)) + t201)))) a0_0 a0_1 a0_2 a0_3 a0_4 a0_5 a0_6 a0_7 a0_8 a0_9 a0_10 a0_11 a0_12 a0_13 a0_14 a2_0 a2_1 a2_2 a2_3 a2_4 a2_5 t198 t199 t200 t201 t202 t203) = some (r1, r2, r3, r4, r5, r6, r7, r8, r9, r10, r11, r12, r13, r14, r15, r16, r17, r18, r19, r20, r21, r22) := by rw [if_pos rfl] at H; exact H
       clear H
       have H := H1
       clear H1
       have H' := ka H
       clear H
       have hnb63 := NB194_195.out
       have hnc63 := NB195_194.out
       have hnb64 := NB194_196.out
       have hnc64 := NB196_194.out
       have hnb65 := NB194_197.out
       have hnc65 := NB197_194.out
       have hnb66 := NB194_205.out
       have hnc66 := NB205_194.out
       have hcz67 := blkAll15 BK194.out
       go_wp2
       go_meet
       case rel => exact ⟨_, (decide (a0_13 < (wrap64 ((wrap64 (t199 + t200)) + t201)))), (by first | rfl | (simp; done) | (simp [*]; done)), H', ⟨by have := HJ3.out; first | omega | exact Nat.le_refl _⟩, ⟨by (with_reducible repeat (first | apply kb1 | apply kb2 | apply kb3)); exact BK194.out⟩, ⟨by (with_reducible repeat (first | apply kb1 | apply kb2 | apply kb3)); exact BK195.out⟩, ⟨by (with_reducible repeat (first | apply kb1 | apply kb2 | apply kb3)); exact BK196.out⟩, ⟨by (with_reducible repeat (first | apply kb1 | apply kb2 | apply kb3)); exact BK197.out⟩, ⟨by (with_reducible repeat (first | apply kb1 | apply kb2 | apply kb3)); exact BK205.out⟩, ⟨by repeat (first | (with_reducible first | exact HB.out | apply kc1 | apply kc2 | apply kc3 | refine kc4 ?_ GE194.out | refine kc4 ?_ GE195.out | refine kc4 ?_ GE196.out | refine kc4 ?_ GE197.out | refine kc4 ?_ GE205.out) | exact HB.out)⟩⟩
      ·replace c62 := Bool.eq_false_iff.mpr c62
       subst c62
       have H1 : (water_one.j1 kj3 (wrap64 ((wrap64 (t199 + t200)) + t201)) t206 true a0_0 a0_1 a0_2 a0_3 a0_4 a0_5 a0_6 a0_7 a0_8 a0_9 a0_10 a0_11 a0_12 a0_13 a0_14 a2_0 a2_1 a2_2 a2_3 a2_4 a2_5 t198 t199 t200 t201 t202 t203) = some (r1, r2, r3, r4, r5, r6, r7, r8, r9, r10, r11, r12, r13, r14, r15, r16, r17, r18, r19, r20, r21, r22) := by rw [if_neg (show ¬ (false = true) by decide)] at H; exact H
       clear H
       have H := H1
       clear H1
       have H' := ka H
       clear H
       go_wp2
       go_meet
       case rel => exact ⟨_, (true), (by first | rfl | (simp; done) | (simp [*]; done)), H', ⟨by have := HJ3.out; first | omega | exact Nat.le_refl _⟩, ⟨by (with_reducible repeat (first | apply kb1 | apply kb2 | apply kb3)); exact BK194.out⟩, ⟨by (with_reducible repeat (first | apply kb1 | apply kb2 | apply kb3)); exact BK195.out⟩, ⟨by (with_reducible repeat (first | apply kb1 | apply kb2 | apply kb3)); exact BK196.out⟩, ⟨by (with_reducible repeat (first | apply kb1 | apply kb2 | apply kb3)); exact BK197.out⟩, ⟨by (with_reducible repeat (first | apply kb1 | apply kb2 | apply kb3)); exact BK205.out⟩, ⟨by repeat (first | (with_reducible first | exact HB.out | apply kc1 | apply kc2 | apply kc3 | refine kc4 ?_ GE194.out | refine kc4 ?_ GE195.out | refine kc4 ?_ GE196.out | refine kc4 ?_ GE197.out | refine kc4 ?_ GE205.out) | exact HB.out)⟩⟩
     ·have H1 : (water_one.j1 kj3 (wrap64 ((wrap64 (t199 + t200)) + t201)) t206 true a0_0 a0_1 a0_2 a0_3 a0_4 a0_5 a0_6 a0_7 a0_8 a0_9 a0_10 a0_11 a0_12 a0_13 a0_14 a2_0 a2_1 a2_2 a2_3 a2_4 a2_5 t198 t199 t200 t201 t202 t203) = some (r1, r2, r3, r4, r5, r6, r7, r8, r9, r10, r11, r12, r13, r14, r15, r16, r17, r18, r19, r20, r21, r22) := by rw [if_neg (show ¬ (some q208).isNone = true by simp)] at H; exact H
      clear H
      have H := H1
      clear H1
      try simp only [errW_none, errW_some]
      have H' := ka H
      clear H
      go_wp2
      go_meet
      case rel => exact ⟨_, (true), (by first | rfl | (simp; done) | (simp [*]; done)), H', ⟨by have := HJ3.out; first | omega | exact Nat.le_refl _⟩, ⟨by (with_reducible repeat (first | apply kb1 | apply kb2 | apply kb3)); exact BK194.out⟩, ⟨by (with_reducible repeat (first | apply kb1 | apply kb2 | apply kb3)); exact BK195.out⟩, ⟨by (with_reducible repeat (first | apply kb1 | apply kb2 | apply kb3)); exact BK196.out⟩, ⟨by (with_reducible repeat (first | apply kb1 | apply kb2 | apply kb3)); exact BK197.out⟩, ⟨by (with_reducible repeat (first | apply kb1 | apply kb2 | apply kb3)); exact BK205.out⟩, ⟨by repeat (first | (with_reducible first | exact HB.out | apply kc1 | apply kc2 | apply kc3 | refine kc4 ?_ GE194.out | refine kc4 ?_ GE195.out | refine kc4 ?_ GE196.out | refine kc4 ?_ GE197.out | refine kc4 ?_ GE205.out) | exact HB.out)⟩⟩
    case rest =>
     clear HC48
     try clear c1
     try clear c2
     try clear p2
     try clear q2
     try clear c3
     try clear c4
     try clear c5
     try clear c6
     try clear p6
     try clear c9
     try clear c9b0
     try clear c9b1
     try clear c10
     try clear c11
     try clear c12
     try clear c14
     try clear c14b0
     try clear c15
     try clear c16
     try clear c17
     try clear c19
     try clear c20
     try clear q20
     try clear c21
     try clear c23
     try clear c28
     try clear c33
     try clear c49
     try clear c50
     try clear c51
     try clear c55
     try clear c56
     try clear c57
     try clear c58
     try clear c62
     try clear c63
     try clear c64
     try clear p64
     try clear c65
     try clear c66
     try clear hcz13
     try clear hcz18
     try clear hcz22
     try clear hcz52
     try clear hcz59
     try clear hcz60
     try clear hcz67
     try clear p2
     try clear q208
     obtain ⟨kq, x60_47, rfl, HA, HJ47, BK194, BK195, BK196, BK197, BK205, HB⟩ := hcut
     cases kq with
     | zero => exact absurd HA.out (by simp [water_one.j1])
     | succ kj47 =>
      have H := HA.out
      clear HA
      simp only [water_one.j1] at H
      by_cases c68 : x60_47 = true
      ·subst c68
       have H1 : (some (a0_0, a0_1, a0_2, a0_3, a0_4, a0_5, a0_6, a0_7, a0_8, a0_9, a0_10, a0_11, a0_12, a0_13, a0_14, a2_0, a2_1, a2_2, a2_3, a2_4, a2_5, false)) = some (r1, r2, r3, r4, r5, r6, r7, r8, r9, r10, r11, r12, r13, r14, r15, r16, r17, r18, r19, r20, r21, r22) := by rw [if_pos rfl] at H; exact H
       clear H
       have H := H1
       clear H1
       simp only [Option.some.injEq, Prod.mk.injEq] at H
       obtain ⟨rfl, rfl, rfl, rfl, rfl, rfl, rfl, rfl, rfl, rfl, rfl, rfl, rfl, rfl, rfl, rfl, rfl, rfl, rfl, rfl, rfl, rfl⟩ := H
       try go_wp2
       have n0_ := ka (blk_drew BK194.out)
       have n1_ := ka (blk_drew BK195.out)
       have n2_ := ka (blk_drew BK196.out)
       have n3_ := ka (blk_drew BK197.out)
       have n4_ := ka (blk_drew BK205.out)
       have n5_ := ka (below_drew1 HB.out)
       clear BK194
       clear BK195
       clear BK196
       clear BK197
       clear BK205
       clear HB
       have BK194 := n0_
       have BK195 := n1_
       have BK196 := n2_
       have BK197 := n3_
       have BK205 := n4_
       have HB := n5_
       clear n0_ n1_ n2_ n3_ n4_ n5_
       refine start_ (n := 5) (S := fun w' => w'.heap[gb194]? = some (.cells #[.int .i64 a0_0, .int .i64 a0_1, .int .i64 a0_2, .int .i64 a0_3, .int .i64 a0_4, .int .i64 a0_5, .int .i64 a0_6, .int .i64 a0_7, .int .i64 a0_8, .int .i64 a0_9, .int .i64 a0_10, .int .i64 a0_11, .int .i64 a0_12, .int .i64 a0_13, .int .i64 a0_14] 25 (0, 0)) ∧ w'.heap[gb195]? = some (.cells #[.int .i64 a2_0, .int .i64 a2_1, .int .i64 a2_2, .int .i64 a2_3, .int .i64 a2_4, .int .i64 a2_5] 28 (0, 0))) (ds := []) #[false, false, false, false, false] (by kernel_rfl) rfl rfl ⟨BK194.out, BK195.out⟩ (fun hHeld => ?_)
       generalize wc.drew = w69 at BK194 BK195 BK196 BK197 BK205 HB hHeld ⊢
       refine take_ (i := 0) (N := some 61) (v := ?_) (a' := ?_) #[true, false, false, false, false] rfl rfl (by kernel_rfl) (fun _ _ _ h => h) (Or.inl ⟨by rfl, ?_⟩) hHeld ?_ ?_
       rotate_left
       ·rintro w' ⟨b194, b195⟩
        first | exact loadRow rfl rfl Try.underlying25 rfl b194 (by kernel_rfl) | exact loadRow rfl rfl Try.underlying28 rfl b195 (by kernel_rfl) | (have q194 := blkAll15 b194; have q195 := blkAll6 b195; go_simp; with_reducible rfl)
       rotate_left
       ·simp only [Act.put, List.setIfInBounds_toArray, List.set_cons_zero, List.set_cons_succ, i64_w, i32_w]
        rfl
       refine take_ (i := 1) (N := some 62) (v := ?_) (a' := ?_) #[true, true, false, false, false] rfl rfl (by kernel_rfl) (fun _ _ _ h => h) (Or.inl ⟨by rfl, ?_⟩) hHeld ?_ ?_
       rotate_left
       ·rintro w' ⟨b194, b195⟩
        first | exact loadRow rfl rfl Try.underlying25 rfl b194 (by kernel_rfl) | exact loadRow rfl rfl Try.underlying28 rfl b195 (by kernel_rfl) | (have q194 := blkAll15 b194; have q195 := blkAll6 b195; go_simp; with_reducible rfl)
       rotate_left
       ·simp only [Act.put, List.setIfInBounds_toArray, List.set_cons_zero, List.set_cons_succ, i64_w, i32_w]
        rfl
       refine one_ (i := 2) (N := none) #[true, true, true, false, false] rfl rfl (by kernel_rfl) (by decide) (fun K hK => ?_)
       refine skipRow (by rfl) rfl rfl rfl rfl BK196.out (by kernel_rfl) rfl rfl ?_
       refine fresh5 (K := K) (o1 := w69.heap[gb194]?) (o2 := w69.heap[gb195]?) (o4 := w69.heap[gb197]?) (o5 := w69.heap[gb205]?) (setRow_other _ _ _ _ NB194_196.out) (setRow_other _ _ _ _ NB195_196.out) (setRow_heap _ _ _ _ _ _ BK196.out) (setRow_other _ _ _ _ NB197_196.out) (setRow_other _ _ _ _ NB205_196.out) (below_setRow HB.out GE196.out _) (fun w69 eBK194 eBK195 eBK196 eBK197 eBK205 eHB => ?_)
       replace BK194 := ka (eBK194.trans BK194.out)
       replace BK195 := ka (eBK195.trans BK195.out)
       replace BK196 := ka eBK196
       replace BK197 := ka (eBK197.trans BK197.out)
       replace BK205 := ka (eBK205.trans BK205.out)
       replace HB := ka eHB
       clear hHeld eHB eBK194 eBK195 eBK196 eBK197 eBK205
       refine hK.out _ _ ⟨BK194.out, BK195.out⟩ (fun hHeld => ?_)
       clear hK K
       refine one_ (i := 3) (N := none) #[true, true, true, true, false] rfl rfl (by kernel_rfl) (by decide) (fun K hK => ?_)
       refine skipRow (by rfl) rfl rfl rfl rfl BK197.out (by kernel_rfl) rfl rfl ?_
       refine fresh5 (K := K) (o1 := w69.heap[gb194]?) (o2 := w69.heap[gb195]?) (o3 := w69.heap[gb196]?) (o5 := w69.heap[gb205]?) (setRow_other _ _ _ _ NB194_197.out) (setRow_other _ _ _ _ NB195_197.out) (setRow_other _ _ _ _ NB196_197.out) (setRow_heap _ _ _ _ _ _ BK197.out) (setRow_other _ _ _ _ NB205_197.out) (below_setRow HB.out GE197.out _) (fun w69 eBK194 eBK195 eBK196 eBK197 eBK205 eHB => ?_)
       replace BK194 := ka (eBK194.trans BK194.out)
       replace BK195 := ka (eBK195.trans BK195.out)
       replace BK196 := ka (eBK196.trans BK196.out)
       replace BK197 := ka eBK197
       replace BK205 := ka (eBK205.trans BK205.out)
       replace HB := ka eHB
       clear hHeld eHB eBK194 eBK195 eBK196 eBK197 eBK205
       refine hK.out _ _ ⟨BK194.out, BK195.out⟩ (fun hHeld => ?_)
       clear hK K
       refine pure_ (i := 4) (N := some 8) (v := ?_) (a' := ?_) #[true, true, true, true, true] rfl rfl (by kernel_rfl) (fun _ _ _ h => h) (Or.inl ⟨by rfl, ?_⟩) ?_ ?_
       rotate_left
       ·intro w'
        go_simp
        with_reducible rfl
       rotate_left
       ·simp only [Act.put, List.setIfInBounds_toArray, List.set_cons_zero, List.set_cons_succ, i64_w, i32_w]
        rfl
       refine done_ (by kernel_rfl) ?_
       try go_wp2
       refine bodyPost_ret (results_list (rs := [.cell 6 25, .cell 7 28, .tmp 8]) rfl (by simp) (.cell gb196 25 #[.int .i64 a0_0, .int .i64 a0_1, .int .i64 a0_2, .int .i64 a0_3, .int .i64 a0_4, .int .i64 a0_5, .int .i64 a0_6, .int .i64 a0_7, .int .i64 a0_8, .int .i64 a0_9, .int .i64 a0_10, .int .i64 a0_11, .int .i64 a0_12, .int .i64 a0_13, .int .i64 a0_14] (0, 0) _ rfl (by (with_reducible repeat (first | apply kb1 | apply kb2 | apply kb3 | refine kb4 ?_ NB196_197.out _ | apply blkPut15_14 | apply blkPut15_13 | apply blkPut15_12 | apply blkPut15_11 | apply blkPut15_10 | apply blkPut15_9 | apply blkPut15_8 | apply blkPut15_7 | apply blkPut15_6 | apply blkPut15_5 | apply blkPut15_4 | apply blkPut15_3 | apply blkPut15_2 | apply blkPut15_1 | apply blkPut15_0)); exact BK196.out) Try.underlying25 rfl (by kernel_rfl) (.cell gb197 28 #[.int .i64 a2_0, .int .i64 a2_1, .int .i64 a2_2, .int .i64 a2_3, .int .i64 a2_4, .int .i64 a2_5] (0, 0) _ rfl (by (with_reducible repeat (first | apply kb1 | apply kb2 | apply kb3 | apply blkPut6_5 | apply blkPut6_4 | apply blkPut6_3 | apply blkPut6_2 | apply blkPut6_1 | apply blkPut6_0 | refine kb4 ?_ NB197_196.out _)); exact BK197.out) Try.underlying28 rfl (by kernel_rfl) (.tmp .nil)))) rfl ?_
       exact ⟨by first | rfl | (simp [errW_none, errW_some] <;> rfl) | (simp [*, errW_none, errW_some] <;> rfl), by repeat (first | (with_reducible first | exact HB.out | apply kc1 | apply kc2 | apply kc3 | refine kc4 ?_ GE194.out | refine kc4 ?_ GE195.out | refine kc4 ?_ GE196.out | refine kc4 ?_ GE197.out | refine kc4 ?_ GE205.out) | exact HB.out)⟩
      ·replace c68 := Bool.eq_false_iff.mpr c68
       subst c68
       have H1 : (some (a0_0, a0_1, a0_2, a0_3, a0_4, a0_5, a0_6, a0_7, a0_8, t203, a0_10, t206, wrap64 (a0_12 + 1), wrap64 (a0_13 - (wrap64 ((wrap64 (t199 + t200)) + t201))), a0_14, wrap64 (a2_0 + 1), wrap64 (a2_1 + t199), wrap64 (a2_2 + t200), wrap64 (a2_3 + t201), a2_4, a2_5, true)) = some (r1, r2, r3, r4, r5, r6, r7, r8, r9, r10, r11, r12, r13, r14, r15, r16, r17, r18, r19, r20, r21, r22) := by rw [if_neg (show ¬ (false = true) by decide)] at H; exact H
       clear H
       have H := H1
       clear H1
       simp only [Option.some.injEq, Prod.mk.injEq] at H
       obtain ⟨rfl, rfl, rfl, rfl, rfl, rfl, rfl, rfl, rfl, rfl, rfl, rfl, rfl, rfl, rfl, rfl, rfl, rfl, rfl, rfl, rfl, rfl⟩ := H
       have hnb91 := NB205_194.out
       have hnc91 := NB194_205.out
       have hnb92 := NB205_195.out
       have hnc92 := NB195_205.out
       have hnb93 := NB205_196.out
       have hnc93 := NB196_205.out
       have hnb94 := NB205_197.out
       have hnc94 := NB197_205.out
       have hcz95 := blkAll6 BK205.out
       have hnb96 := NB194_195.out
       have hnc96 := NB195_194.out
       have hnb97 := NB194_196.out
       have hnc97 := NB196_194.out
       have hnb98 := NB194_197.out
       have hnc98 := NB197_194.out
       have hcz99 := blkAll15 BK194.out
       have hnb100 := NB195_196.out
       have hnc100 := NB196_195.out
       have hnb101 := NB195_197.out
       have hnc101 := NB197_195.out
       have hcz102 := blkAll6 BK195.out
       try go_wp2
       have n0_ : Aside0 (((((((((wc.setCell ⟨gb194, 9, none⟩ (.int .i64 t203)).setCell ⟨gb194, 11, none⟩ (.int .i64 t206)).setCell ⟨gb194, 12, none⟩ (.int .i64 (wrap64 (a0_12 + 1)))).setCell ⟨gb194, 13, none⟩ (.int .i64 (wrap64 (a0_13 - (wrap64 ((wrap64 (t199 + t200)) + t201)))))).setCell ⟨gb195, 0, none⟩ (.int .i64 (wrap64 (a2_0 + 1)))).setCell ⟨gb195, 1, none⟩ (.int .i64 (wrap64 (a2_1 + t199)))).setCell ⟨gb195, 2, none⟩ (.int .i64 (wrap64 (a2_2 + t200)))).setCell ⟨gb195, 3, none⟩ (.int .i64 (wrap64 (a2_3 + t201)))).heap[gb194]? = some (.cells #[.int .i64 a0_0, .int .i64 a0_1, .int .i64 a0_2, .int .i64 a0_3, .int .i64 a0_4, .int .i64 a0_5, .int .i64 a0_6, .int .i64 a0_7, .int .i64 a0_8, .int .i64 t203, .int .i64 a0_10, .int .i64 t206, .int .i64 (wrap64 (a0_12 + 1)), .int .i64 (wrap64 (a0_13 - (wrap64 ((wrap64 (t199 + t200)) + t201)))), .int .i64 a0_14] 25 (0, 0))) := ⟨by (with_reducible repeat (first | apply kb1 | apply kb2 | apply kb3 | refine kb4 ?_ NB194_195.out _ | apply blkPut15_13 | apply blkPut15_12 | apply blkPut15_11 | apply blkPut15_9)); exact BK194.out⟩
       have n1_ : Aside0 (((((((((wc.setCell ⟨gb194, 9, none⟩ (.int .i64 t203)).setCell ⟨gb194, 11, none⟩ (.int .i64 t206)).setCell ⟨gb194, 12, none⟩ (.int .i64 (wrap64 (a0_12 + 1)))).setCell ⟨gb194, 13, none⟩ (.int .i64 (wrap64 (a0_13 - (wrap64 ((wrap64 (t199 + t200)) + t201)))))).setCell ⟨gb195, 0, none⟩ (.int .i64 (wrap64 (a2_0 + 1)))).setCell ⟨gb195, 1, none⟩ (.int .i64 (wrap64 (a2_1 + t199)))).setCell ⟨gb195, 2, none⟩ (.int .i64 (wrap64 (a2_2 + t200)))).setCell ⟨gb195, 3, none⟩ (.int .i64 (wrap64 (a2_3 + t201)))).heap[gb195]? = some (.cells #[.int .i64 (wrap64 (a2_0 + 1)), .int .i64 (wrap64 (a2_1 + t199)), .int .i64 (wrap64 (a2_2 + t200)), .int .i64 (wrap64 (a2_3 + t201)), .int .i64 a2_4, .int .i64 a2_5] 28 (0, 0))) := ⟨by (with_reducible repeat (first | apply kb1 | apply kb2 | apply kb3 | apply blkPut6_3 | apply blkPut6_2 | apply blkPut6_1 | apply blkPut6_0 | refine kb4 ?_ NB195_194.out _)); exact BK195.out⟩
       have n2_ : Aside0 (((((((((wc.setCell ⟨gb194, 9, none⟩ (.int .i64 t203)).setCell ⟨gb194, 11, none⟩ (.int .i64 t206)).setCell ⟨gb194, 12, none⟩ (.int .i64 (wrap64 (a0_12 + 1)))).setCell ⟨gb194, 13, none⟩ (.int .i64 (wrap64 (a0_13 - (wrap64 ((wrap64 (t199 + t200)) + t201)))))).setCell ⟨gb195, 0, none⟩ (.int .i64 (wrap64 (a2_0 + 1)))).setCell ⟨gb195, 1, none⟩ (.int .i64 (wrap64 (a2_1 + t199)))).setCell ⟨gb195, 2, none⟩ (.int .i64 (wrap64 (a2_2 + t200)))).setCell ⟨gb195, 3, none⟩ (.int .i64 (wrap64 (a2_3 + t201)))).heap[gb196]? = some (.cells #[.int .i64 0, .int .i64 0, .int .i64 0, .int .i64 0, .int .i64 0, .int .i64 0, .int .i64 0, .int .i64 0, .int .i64 0, .int .i64 0, .int .i64 0, .int .i64 0, .int .i64 0, .int .i64 0, .int .i64 0] 25 (0, 0))) := ⟨by (with_reducible repeat (first | apply kb1 | apply kb2 | apply kb3 | refine kb4 ?_ NB196_195.out _ | refine kb4 ?_ NB196_194.out _)); exact BK196.out⟩
       have n3_ : Aside0 (((((((((wc.setCell ⟨gb194, 9, none⟩ (.int .i64 t203)).setCell ⟨gb194, 11, none⟩ (.int .i64 t206)).setCell ⟨gb194, 12, none⟩ (.int .i64 (wrap64 (a0_12 + 1)))).setCell ⟨gb194, 13, none⟩ (.int .i64 (wrap64 (a0_13 - (wrap64 ((wrap64 (t199 + t200)) + t201)))))).setCell ⟨gb195, 0, none⟩ (.int .i64 (wrap64 (a2_0 + 1)))).setCell ⟨gb195, 1, none⟩ (.int .i64 (wrap64 (a2_1 + t199)))).setCell ⟨gb195, 2, none⟩ (.int .i64 (wrap64 (a2_2 + t200)))).setCell ⟨gb195, 3, none⟩ (.int .i64 (wrap64 (a2_3 + t201)))).heap[gb197]? = some (.cells #[.int .i64 0, .int .i64 0, .int .i64 0, .int .i64 0, .int .i64 0, .int .i64 0] 28 (0, 0))) := ⟨by (with_reducible repeat (first | apply kb1 | apply kb2 | apply kb3 | refine kb4 ?_ NB197_195.out _ | refine kb4 ?_ NB197_194.out _)); exact BK197.out⟩
       have n4_ : Aside0 (((((((((wc.setCell ⟨gb194, 9, none⟩ (.int .i64 t203)).setCell ⟨gb194, 11, none⟩ (.int .i64 t206)).setCell ⟨gb194, 12, none⟩ (.int .i64 (wrap64 (a0_12 + 1)))).setCell ⟨gb194, 13, none⟩ (.int .i64 (wrap64 (a0_13 - (wrap64 ((wrap64 (t199 + t200)) + t201)))))).setCell ⟨gb195, 0, none⟩ (.int .i64 (wrap64 (a2_0 + 1)))).setCell ⟨gb195, 1, none⟩ (.int .i64 (wrap64 (a2_1 + t199)))).setCell ⟨gb195, 2, none⟩ (.int .i64 (wrap64 (a2_2 + t200)))).setCell ⟨gb195, 3, none⟩ (.int .i64 (wrap64 (a2_3 + t201)))).heap[gb205]? = some (.cells #[.int .i64 t198, .int .i64 t199, .int .i64 t200, .int .i64 t201, .int .i64 t202, .int .i64 t203] 28 (0, 0))) := ⟨by (with_reducible repeat (first | apply kb1 | apply kb2 | apply kb3 | refine kb4 ?_ NB205_195.out _ | refine kb4 ?_ NB205_194.out _)); exact BK205.out⟩
       have n5_ : Aside0 (Below w.heap.size w ((((((((wc.setCell ⟨gb194, 9, none⟩ (.int .i64 t203)).setCell ⟨gb194, 11, none⟩ (.int .i64 t206)).setCell ⟨gb194, 12, none⟩ (.int .i64 (wrap64 (a0_12 + 1)))).setCell ⟨gb194, 13, none⟩ (.int .i64 (wrap64 (a0_13 - (wrap64 ((wrap64 (t199 + t200)) + t201)))))).setCell ⟨gb195, 0, none⟩ (.int .i64 (wrap64 (a2_0 + 1)))).setCell ⟨gb195, 1, none⟩ (.int .i64 (wrap64 (a2_1 + t199)))).setCell ⟨gb195, 2, none⟩ (.int .i64 (wrap64 (a2_2 + t200)))).setCell ⟨gb195, 3, none⟩ (.int .i64 (wrap64 (a2_3 + t201))))) := ⟨by repeat (first | (with_reducible first | exact HB.out | apply kc1 | apply kc2 | apply kc3 | refine kc4 ?_ GE194.out | refine kc4 ?_ GE195.out | refine kc4 ?_ GE196.out | refine kc4 ?_ GE197.out | refine kc4 ?_ GE205.out) | exact HB.out)⟩
       (try clear BK194)
       (try clear BK195)
       (try clear BK196)
       (try clear BK197)
       (try clear BK205)
       (try clear HB)
       generalize ((((((((wc.setCell ⟨gb194, 9, none⟩ (.int .i64 t203)).setCell ⟨gb194, 11, none⟩ (.int .i64 t206)).setCell ⟨gb194, 12, none⟩ (.int .i64 (wrap64 (a0_12 + 1)))).setCell ⟨gb194, 13, none⟩ (.int .i64 (wrap64 (a0_13 - (wrap64 ((wrap64 (t199 + t200)) + t201)))))).setCell ⟨gb195, 0, none⟩ (.int .i64 (wrap64 (a2_0 + 1)))).setCell ⟨gb195, 1, none⟩ (.int .i64 (wrap64 (a2_1 + t199)))).setCell ⟨gb195, 2, none⟩ (.int .i64 (wrap64 (a2_2 + t200)))).setCell ⟨gb195, 3, none⟩ (.int .i64 (wrap64 (a2_3 + t201)))) = w103 at n0_ n1_ n2_ n3_ n4_ n5_ ⊢
       have BK194 := n0_
       have BK195 := n1_
       have BK196 := n2_
       have BK197 := n3_
       have BK205 := n4_
       have HB := n5_
       clear n0_ n1_ n2_ n3_ n4_ n5_
       have n0_ := ka (blk_drew BK194.out)
       have n1_ := ka (blk_drew BK195.out)
       have n2_ := ka (blk_drew BK196.out)
       have n3_ := ka (blk_drew BK197.out)
       have n4_ := ka (blk_drew BK205.out)
       have n5_ := ka (below_drew1 HB.out)
       clear BK194
       clear BK195
       clear BK196
       clear BK197
       clear BK205
       clear HB
       have BK194 := n0_
       have BK195 := n1_
       have BK196 := n2_
       have BK197 := n3_
       have BK205 := n4_
       have HB := n5_
       clear n0_ n1_ n2_ n3_ n4_ n5_
       refine start_ (n := 5) (S := fun w' => w'.heap[gb194]? = some (.cells #[.int .i64 a0_0, .int .i64 a0_1, .int .i64 a0_2, .int .i64 a0_3, .int .i64 a0_4, .int .i64 a0_5, .int .i64 a0_6, .int .i64 a0_7, .int .i64 a0_8, .int .i64 t203, .int .i64 a0_10, .int .i64 t206, .int .i64 (wrap64 (a0_12 + 1)), .int .i64 (wrap64 (a0_13 - (wrap64 ((wrap64 (t199 + t200)) + t201)))), .int .i64 a0_14] 25 (0, 0)) ∧ w'.heap[gb195]? = some (.cells #[.int .i64 (wrap64 (a2_0 + 1)), .int .i64 (wrap64 (a2_1 + t199)), .int .i64 (wrap64 (a2_2 + t200)), .int .i64 (wrap64 (a2_3 + t201)), .int .i64 a2_4, .int .i64 a2_5] 28 (0, 0))) (ds := []) #[false, false, false, false, false] (by kernel_rfl) rfl rfl ⟨BK194.out, BK195.out⟩ (fun hHeld => ?_)
       generalize w103.drew = w104 at BK194 BK195 BK196 BK197 BK205 HB hHeld ⊢
       refine take_ (i := 0) (N := some 99) (v := ?_) (a' := ?_) #[true, false, false, false, false] rfl rfl (by kernel_rfl) (fun _ _ _ h => h) (Or.inl ⟨by rfl, ?_⟩) hHeld ?_ ?_
       rotate_left
       ·rintro w' ⟨b194, b195⟩
        first | exact loadRow rfl rfl Try.underlying25 rfl b194 (by kernel_rfl) | exact loadRow rfl rfl Try.underlying28 rfl b195 (by kernel_rfl) | (have q194 := blkAll15 b194; have q195 := blkAll6 b195; go_simp; with_reducible rfl)
       rotate_left
       ·simp only [Act.put, List.setIfInBounds_toArray, List.set_cons_zero, List.set_cons_succ, i64_w, i32_w]
        rfl
       refine take_ (i := 1) (N := some 100) (v := ?_) (a' := ?_) #[true, true, false, false, false] rfl rfl (by kernel_rfl) (fun _ _ _ h => h) (Or.inl ⟨by rfl, ?_⟩) hHeld ?_ ?_
       rotate_left
       ·rintro w' ⟨b194, b195⟩
        first | exact loadRow rfl rfl Try.underlying25 rfl b194 (by kernel_rfl) | exact loadRow rfl rfl Try.underlying28 rfl b195 (by kernel_rfl) | (have q194 := blkAll15 b194; have q195 := blkAll6 b195; go_simp; with_reducible rfl)
       rotate_left
       ·simp only [Act.put, List.setIfInBounds_toArray, List.set_cons_zero, List.set_cons_succ, i64_w, i32_w]
        rfl
       refine one_ (i := 2) (N := none) #[true, true, true, false, false] rfl rfl (by kernel_rfl) (by decide) (fun K hK => ?_)
       refine skipRow (by rfl) rfl rfl rfl rfl BK196.out (by kernel_rfl) rfl rfl ?_
       refine fresh5 (K := K) (o1 := w104.heap[gb194]?) (o2 := w104.heap[gb195]?) (o4 := w104.heap[gb197]?) (o5 := w104.heap[gb205]?) (setRow_other _ _ _ _ NB194_196.out) (setRow_other _ _ _ _ NB195_196.out) (setRow_heap _ _ _ _ _ _ BK196.out) (setRow_other _ _ _ _ NB197_196.out) (setRow_other _ _ _ _ NB205_196.out) (below_setRow HB.out GE196.out _) (fun w104 eBK194 eBK195 eBK196 eBK197 eBK205 eHB => ?_)
       replace BK194 := ka (eBK194.trans BK194.out)
       replace BK195 := ka (eBK195.trans BK195.out)
       replace BK196 := ka eBK196
       replace BK197 := ka (eBK197.trans BK197.out)
       replace BK205 := ka (eBK205.trans BK205.out)
       replace HB := ka eHB
       clear hHeld eHB eBK194 eBK195 eBK196 eBK197 eBK205
       refine hK.out _ _ ⟨BK194.out, BK195.out⟩ (fun hHeld => ?_)
       clear hK K
       refine one_ (i := 3) (N := none) #[true, true, true, true, false] rfl rfl (by kernel_rfl) (by decide) (fun K hK => ?_)
       refine skipRow (by rfl) rfl rfl rfl rfl BK197.out (by kernel_rfl) rfl rfl ?_
       refine fresh5 (K := K) (o1 := w104.heap[gb194]?) (o2 := w104.heap[gb195]?) (o3 := w104.heap[gb196]?) (o5 := w104.heap[gb205]?) (setRow_other _ _ _ _ NB194_197.out) (setRow_other _ _ _ _ NB195_197.out) (setRow_other _ _ _ _ NB196_197.out) (setRow_heap _ _ _ _ _ _ BK197.out) (setRow_other _ _ _ _ NB205_197.out) (below_setRow HB.out GE197.out _) (fun w104 eBK194 eBK195 eBK196 eBK197 eBK205 eHB => ?_)
       replace BK194 := ka (eBK194.trans BK194.out)
       replace BK195 := ka (eBK195.trans BK195.out)
       replace BK196 := ka (eBK196.trans BK196.out)
       replace BK197 := ka eBK197
       replace BK205 := ka (eBK205.trans BK205.out)
       replace HB := ka eHB
       clear hHeld eHB eBK194 eBK195 eBK196 eBK197 eBK205
       refine hK.out _ _ ⟨BK194.out, BK195.out⟩ (fun hHeld => ?_)
       clear hK K
       refine pure_ (i := 4) (N := some 8) (v := ?_) (a' := ?_) #[true, true, true, true, true] rfl rfl (by kernel_rfl) (fun _ _ _ h => h) (Or.inl ⟨by rfl, ?_⟩) ?_ ?_
       rotate_left
       ·intro w'
        go_simp
        with_reducible rfl
       rotate_left
       ·simp only [Act.put, List.setIfInBounds_toArray, List.set_cons_zero, List.set_cons_succ, i64_w, i32_w]
        rfl
       refine done_ (by kernel_rfl) ?_
       try go_wp2
       refine bodyPost_ret (results_list (rs := [.cell 6 25, .cell 7 28, .tmp 8]) rfl (by simp) (.cell gb196 25 #[.int .i64 a0_0, .int .i64 a0_1, .int .i64 a0_2, .int .i64 a0_3, .int .i64 a0_4, .int .i64 a0_5, .int .i64 a0_6, .int .i64 a0_7, .int .i64 a0_8, .int .i64 t203, .int .i64 a0_10, .int .i64 t206, .int .i64 (wrap64 (a0_12 + 1)), .int .i64 (wrap64 (a0_13 - (wrap64 ((wrap64 (t199 + t200)) + t201)))), .int .i64 a0_14] (0, 0) _ rfl (by (with_reducible repeat (first | apply kb1 | apply kb2 | apply kb3 | refine kb4 ?_ NB196_197.out _ | apply blkPut15_14 | apply blkPut15_13 | apply blkPut15_12 | apply blkPut15_11 | apply blkPut15_10 | apply blkPut15_9 | apply blkPut15_8 | apply blkPut15_7 | apply blkPut15_6 | apply blkPut15_5 | apply blkPut15_4 | apply blkPut15_3 | apply blkPut15_2 | apply blkPut15_1 | apply blkPut15_0)); exact BK196.out) Try.underlying25 rfl (by kernel_rfl) (.cell gb197 28 #[.int .i64 (wrap64 (a2_0 + 1)), .int .i64 (wrap64 (a2_1 + t199)), .int .i64 (wrap64 (a2_2 + t200)), .int .i64 (wrap64 (a2_3 + t201)), .int .i64 a2_4, .int .i64 a2_5] (0, 0) _ rfl (by (with_reducible repeat (first | apply kb1 | apply kb2 | apply kb3 | apply blkPut6_5 | apply blkPut6_4 | apply blkPut6_3 | apply blkPut6_2 | apply blkPut6_1 | apply blkPut6_0 | refine kb4 ?_ NB197_196.out _)); exact BK197.out) Try.underlying28 rfl (by kernel_rfl) (.tmp .nil)))) rfl ?_
       exact ⟨by first | rfl | (simp [errW_none, errW_some] <;> rfl) | (simp [*, errW_none, errW_some] <;> rfl), by repeat (first | (with_reducible first | exact HB.out | apply kc1 | apply kc2 | apply kc3 | refine kc4 ?_ GE194.out | refine kc4 ?_ GE195.out | refine kc4 ?_ GE196.out | refine kc4 ?_ GE197.out | refine kc4 ?_ GE205.out) | exact HB.out)⟩

end Go.Proofs.Ytimobafoidplaaa.P
