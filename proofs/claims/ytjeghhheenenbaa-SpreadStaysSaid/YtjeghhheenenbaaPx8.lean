-- Written by a program of this session out of the translation of the seat: Lean functions and the proofs that the Go functions come to them.
import Derived.Test.YtjeghhheenenbaaPx0
import Derived.Test.YtjeghhheenenbaaPx7
namespace Go.Proofs.Ytjeghhheenenbaa.P
open Go.RowKit Go.Proofs.YtjeghhheenenbaaW.PrintWords Go.Proofs.YtjeghhheenenbaaW.PrintLast Go.Proofs.YtjeghhheenenbaaW.PrintMore
attribute [local go_sem] max2_int min2_int max_two min_two max_three min_three max_four min_four   -- for this text's walks alone
set_option linter.unusedVariables false
set_option linter.unusedSimpArgs false

/-! ### trivetref16_Of: function 10 -/
mutual
def trivetref16_Of.j0 : Nat → Int → Bool → Bool → Int → Int → Int → Int → Int → List Int → Int → Int → Int → Int → Option (Int × Int × Int × Int × List Int × Bool)
 | 0, _, _, _, _, _, _, _, _, _, _, _, _, _ => none
 | k + 1, x1, x2, x28, x503000, x503001, x503002, x503003, x503004, x503005, x505000, x505001, x505002, x505003 => if x28 = true then (some (x505000, x505001, x505002, x505003, ([] : List Int), false)) else (if x1 ≥ x503003 then (trivetref16_Of.j1 k x2 x503000 x503001 x503002 x503003 x503004 x503005 (wrap64 (x1 - x503003)) x505001 x505002 x505003) else (if x1 ≥ 0 then (trivetref16_Of.j1 k x2 x503000 x503001 x503002 x503003 x503004 x503005 x505000 (wrap64 (x503003 - x1)) x505002 x505003) else (if x503003 > 0 then (trivetref16_Of.j1 k x2 x503000 x503001 x503002 x503003 x503004 x503005 x505000 x503003 (wrap64 (-x1)) x505003) else (trivetref16_Of.j1 k x2 x503000 x503001 x503002 x503003 x503004 x503005 x505000 x505001 (wrap64 (x503003 - x1)) x505003))))
def trivetref16_Of.j1 : Nat → Bool → Int → Int → Int → Int → Int → List Int → Int → Int → Int → Int → Option (Int × Int × Int × Int × List Int × Bool)
 | 0, _, _, _, _, _, _, _, _, _, _, _ => none
 | k + 1, x2, x503000, x503001, x503002, x503003, x503004, x503005, x505000, x505001, x505002, x505003 => (trivetref16_money.f x505000).bind fun t508 => (if t508 = true then ((trivetref16_money.f x505001).bind fun t509 => (if t509 = true then ((trivetref16_money.f x505002).bind fun t510 => (trivetref16_Of.j2 k x2 (!t510) x503000 x503001 x503002 x503003 x503004 x503005 x505000 x505001 x505002 x505003)) else (trivetref16_Of.j2 k x2 true x503000 x503001 x503002 x503003 x503004 x503005 x505000 x505001 x505002 x505003))) else (trivetref16_Of.j2 k x2 true x503000 x503001 x503002 x503003 x503004 x503005 x505000 x505001 x505002 x505003))
def trivetref16_Of.j2 : Nat → Bool → Bool → Int → Int → Int → Int → Int → List Int → Int → Int → Int → Int → Option (Int × Int × Int × Int × List Int × Bool)
 | 0, _, _, _, _, _, _, _, _, _, _, _, _ => none
 | k + 1, x2, x75, x503000, x503001, x503002, x503003, x503004, x503005, x505000, x505001, x505002, x505003 => if x75 = true then (some (0, 0, 0, 0, ([] : List Int), false)) else (if 12 ≤ 35184372088832 then ((some (List.replicate 12 0 : List Int)).bind fun y511 => (if x505000 ≥ 5000 then (trivetref16_Of.j3 k x2 x503000 x503001 x503002 x503003 x503004 x503005 x505000 x505001 x505002 x505003 y511) else (trivetref16_Of.j3 k false x503000 x503001 x503002 x503003 x503004 x503005 x505000 x505001 x505002 x505003 y511))) else (none))
def trivetref16_Of.j3 : Nat → Bool → Int → Int → Int → Int → Int → List Int → Int → Int → Int → Int → List Int → Option (Int × Int × Int × Int × List Int × Bool)
 | 0, _, _, _, _, _, _, _, _, _, _, _, _ => none
 | k + 1, x84, x503000, x503001, x503002, x503003, x503004, x503005, x505000, x505001, x505002, x505003, x505004 => if x84 = true then (trivetref16_Of.j4 k x503000 x503001 x503002 x503003 x503004 x503005 x505000 x505001 x505002 x505000 x505004) else ((trivetref16_spread.f k x505004 x505000 12 (-1)).bind fun t514 => (trivetref16_Of.j4 k x503000 x503001 x503002 x503003 x503004 x503005 x505000 x505001 x505002 x505003 t514))
def trivetref16_Of.j4 : Nat → Int → Int → Int → Int → Int → List Int → Int → Int → Int → Int → List Int → Option (Int × Int × Int × Int × List Int × Bool)
 | 0, _, _, _, _, _, _, _, _, _, _, _ => none
 | k + 1, x503000, x503001, x503002, x503003, x503004, x503005, x505000, x505001, x505002, x505003, x505004 => (trivetref16_spread.f k x505004 x505001 12 1).bind fun t515 => (if x505002 < x503001 then ((trivetref16_spread.f k t515 x505002 2 1).bind fun t516 => (some (x505000, x505001, x505002, x505003, t516, true))) else ((trivetref16_spread.f k t515 x505002 12 1).bind fun t517 => (some (x505000, x505001, x505002, x505003, t517, true))))
end
def trivetref16_Of.f (k : Nat) (a0_0 : Int) (a0_1 : Int) (a0_2 : Int) (a0_3 : Int) (a0_4 : Int) (l0_5 : List Int) (a1 : Int) (a2 : Bool) : Option (Int × Int × Int × Int × List Int × Bool) := if a0_1 < 0 then (trivetref16_Of.j0 k a1 a2 true a0_0 a0_1 a0_2 a0_3 a0_4 l0_5 0 0 0 0) else ((trivetref16_money.f a0_1).bind fun t505 => (if t505 = true then ((trivetref16_money.f a0_3).bind fun t506 => (if t506 = true then ((trivetref16_money.f a1).bind fun t507 => (trivetref16_Of.j0 k a1 a2 (!t507) a0_0 a0_1 a0_2 a0_3 a0_4 l0_5 0 0 0 0)) else (trivetref16_Of.j0 k a1 a2 true a0_0 a0_1 a0_2 a0_3 a0_4 l0_5 0 0 0 0))) else (trivetref16_Of.j0 k a1 a2 true a0_0 a0_1 a0_2 a0_3 a0_4 l0_5 0 0 0 0)))
theorem trivetref16_Of.mono_l : ∀ k, (∀ y0 y1 y2 y3 y4 y5 y6 y7 y8 y9 y10 y11 y12, LeO (trivetref16_Of.j0 k y0 y1 y2 y3 y4 y5 y6 y7 y8 y9 y10 y11 y12) (trivetref16_Of.j0 (k + 1) y0 y1 y2 y3 y4 y5 y6 y7 y8 y9 y10 y11 y12)) ∧ (∀ y0 y1 y2 y3 y4 y5 y6 y7 y8 y9 y10, LeO (trivetref16_Of.j1 k y0 y1 y2 y3 y4 y5 y6 y7 y8 y9 y10) (trivetref16_Of.j1 (k + 1) y0 y1 y2 y3 y4 y5 y6 y7 y8 y9 y10)) ∧ (∀ y0 y1 y2 y3 y4 y5 y6 y7 y8 y9 y10 y11, LeO (trivetref16_Of.j2 k y0 y1 y2 y3 y4 y5 y6 y7 y8 y9 y10 y11) (trivetref16_Of.j2 (k + 1) y0 y1 y2 y3 y4 y5 y6 y7 y8 y9 y10 y11)) ∧ (∀ y0 y1 y2 y3 y4 y5 y6 y7 y8 y9 y10 y11, LeO (trivetref16_Of.j3 k y0 y1 y2 y3 y4 y5 y6 y7 y8 y9 y10 y11) (trivetref16_Of.j3 (k + 1) y0 y1 y2 y3 y4 y5 y6 y7 y8 y9 y10 y11)) ∧ (∀ y0 y1 y2 y3 y4 y5 y6 y7 y8 y9 y10, LeO (trivetref16_Of.j4 k y0 y1 y2 y3 y4 y5 y6 y7 y8 y9 y10) (trivetref16_Of.j4 (k + 1) y0 y1 y2 y3 y4 y5 y6 y7 y8 y9 y10))
 | 0 => ⟨fun _ _ _ _ _ _ _ _ _ _ _ _ _ r h => by simp [trivetref16_Of.j0] at h, fun _ _ _ _ _ _ _ _ _ _ _ r h => by simp [trivetref16_Of.j1] at h, fun _ _ _ _ _ _ _ _ _ _ _ _ r h => by simp [trivetref16_Of.j2] at h, fun _ _ _ _ _ _ _ _ _ _ _ _ r h => by simp [trivetref16_Of.j3] at h, fun _ _ _ _ _ _ _ _ _ _ _ r h => by simp [trivetref16_Of.j4] at h⟩
 | k + 1 => by
  obtain ⟨ih0, ih1, ih2, ih3, ih4⟩ := trivetref16_Of.mono_l k
  refine ⟨?_, ?_, ?_, ?_, ?_⟩
  ·intro y0 y1 y2 y3 y4 y5 y6 y7 y8 y9 y10 y11 y12
   unfold trivetref16_Of.j0
   repeat' first
   | (with_reducible exact ih0 _ _ _ _ _ _ _ _ _ _ _ _ _)
   | (with_reducible exact ih1 _ _ _ _ _ _ _ _ _ _ _)
   | (with_reducible exact ih2 _ _ _ _ _ _ _ _ _ _ _ _)
   | (with_reducible exact ih3 _ _ _ _ _ _ _ _ _ _ _ _)
   | (with_reducible exact ih4 _ _ _ _ _ _ _ _ _ _ _)
   | (with_reducible exact trivetref16_spread.mono _ _ _ _ _)
   | (with_reducible exact LeO.refl _)
   | (with_reducible exact LeO.none _)
   | (with_reducible refine LeO.ite ?_ ?_)
   | (with_reducible refine LeO.bind ?_ (fun _ => ?_))
   | exact ih0 _ _ _ _ _ _ _ _ _ _ _ _ _
   | exact ih1 _ _ _ _ _ _ _ _ _ _ _
   | exact ih2 _ _ _ _ _ _ _ _ _ _ _ _
   | exact ih3 _ _ _ _ _ _ _ _ _ _ _ _
   | exact ih4 _ _ _ _ _ _ _ _ _ _ _
   | exact trivetref16_spread.mono _ _ _ _ _
   | exact LeO.none _
   | refine LeO.ite ?_ ?_
   | refine LeO.bind ?_ (fun _ => ?_)
  ·intro y0 y1 y2 y3 y4 y5 y6 y7 y8 y9 y10
   unfold trivetref16_Of.j1
   repeat' first
   | (with_reducible exact ih0 _ _ _ _ _ _ _ _ _ _ _ _ _)
   | (with_reducible exact ih1 _ _ _ _ _ _ _ _ _ _ _)
   | (with_reducible exact ih2 _ _ _ _ _ _ _ _ _ _ _ _)
   | (with_reducible exact ih3 _ _ _ _ _ _ _ _ _ _ _ _)
   | (with_reducible exact ih4 _ _ _ _ _ _ _ _ _ _ _)
   | (with_reducible exact trivetref16_spread.mono _ _ _ _ _)
   | (with_reducible exact LeO.refl _)
   | (with_reducible exact LeO.none _)
   | (with_reducible refine LeO.ite ?_ ?_)
   | (with_reducible refine LeO.bind ?_ (fun _ => ?_))
   | exact ih0 _ _ _ _ _ _ _ _ _ _ _ _ _
   | exact ih1 _ _ _ _ _ _ _ _ _ _ _
   | exact ih2 _ _ _ _ _ _ _ _ _ _ _ _
   | exact ih3 _ _ _ _ _ _ _ _ _ _ _ _
   | exact ih4 _ _ _ _ _ _ _ _ _ _ _
   | exact trivetref16_spread.mono _ _ _ _ _
   | exact LeO.none _
   | refine LeO.ite ?_ ?_
   | refine LeO.bind ?_ (fun _ => ?_)
  ·intro y0 y1 y2 y3 y4 y5 y6 y7 y8 y9 y10 y11
   unfold trivetref16_Of.j2
   repeat' first
   | (with_reducible exact ih0 _ _ _ _ _ _ _ _ _ _ _ _ _)
   | (with_reducible exact ih1 _ _ _ _ _ _ _ _ _ _ _)
   | (with_reducible exact ih2 _ _ _ _ _ _ _ _ _ _ _ _)
   | (with_reducible exact ih3 _ _ _ _ _ _ _ _ _ _ _ _)
   | (with_reducible exact ih4 _ _ _ _ _ _ _ _ _ _ _)
   | (with_reducible exact trivetref16_spread.mono _ _ _ _ _)
   | (with_reducible exact LeO.refl _)
   | (with_reducible exact LeO.none _)
   | (with_reducible refine LeO.ite ?_ ?_)
   | (with_reducible refine LeO.bind ?_ (fun _ => ?_))
   | exact ih0 _ _ _ _ _ _ _ _ _ _ _ _ _
   | exact ih1 _ _ _ _ _ _ _ _ _ _ _
   | exact ih2 _ _ _ _ _ _ _ _ _ _ _ _
   | exact ih3 _ _ _ _ _ _ _ _ _ _ _ _
   | exact ih4 _ _ _ _ _ _ _ _ _ _ _
   | exact trivetref16_spread.mono _ _ _ _ _
   | exact LeO.none _
   | refine LeO.ite ?_ ?_
   | refine LeO.bind ?_ (fun _ => ?_)
  ·intro y0 y1 y2 y3 y4 y5 y6 y7 y8 y9 y10 y11
   unfold trivetref16_Of.j3
   repeat' first
   | (with_reducible exact ih0 _ _ _ _ _ _ _ _ _ _ _ _ _)
   | (with_reducible exact ih1 _ _ _ _ _ _ _ _ _ _ _)
   | (with_reducible exact ih2 _ _ _ _ _ _ _ _ _ _ _ _)
   | (with_reducible exact ih3 _ _ _ _ _ _ _ _ _ _ _ _)
   | (with_reducible exact ih4 _ _ _ _ _ _ _ _ _ _ _)
   | (with_reducible exact trivetref16_spread.mono _ _ _ _ _)
   | (with_reducible exact LeO.refl _)
   | (with_reducible exact LeO.none _)
   | (with_reducible refine LeO.ite ?_ ?_)
   | (with_reducible refine LeO.bind ?_ (fun _ => ?_))
   | exact ih0 _ _ _ _ _ _ _ _ _ _ _ _ _
   | exact ih1 _ _ _ _ _ _ _ _ _ _ _
   | exact ih2 _ _ _ _ _ _ _ _ _ _ _ _
   | exact ih3 _ _ _ _ _ _ _ _ _ _ _ _
   | exact ih4 _ _ _ _ _ _ _ _ _ _ _
   | exact trivetref16_spread.mono _ _ _ _ _
   | exact LeO.none _
   | refine LeO.ite ?_ ?_
   | refine LeO.bind ?_ (fun _ => ?_)
  ·intro y0 y1 y2 y3 y4 y5 y6 y7 y8 y9 y10
   unfold trivetref16_Of.j4
   repeat' first
   | (with_reducible exact ih0 _ _ _ _ _ _ _ _ _ _ _ _ _)
   | (with_reducible exact ih1 _ _ _ _ _ _ _ _ _ _ _)
   | (with_reducible exact ih2 _ _ _ _ _ _ _ _ _ _ _ _)
   | (with_reducible exact ih3 _ _ _ _ _ _ _ _ _ _ _ _)
   | (with_reducible exact ih4 _ _ _ _ _ _ _ _ _ _ _)
   | (with_reducible exact trivetref16_spread.mono _ _ _ _ _)
   | (with_reducible exact LeO.refl _)
   | (with_reducible exact LeO.none _)
   | (with_reducible refine LeO.ite ?_ ?_)
   | (with_reducible refine LeO.bind ?_ (fun _ => ?_))
   | exact ih0 _ _ _ _ _ _ _ _ _ _ _ _ _
   | exact ih1 _ _ _ _ _ _ _ _ _ _ _
   | exact ih2 _ _ _ _ _ _ _ _ _ _ _ _
   | exact ih3 _ _ _ _ _ _ _ _ _ _ _ _
   | exact ih4 _ _ _ _ _ _ _ _ _ _ _
   | exact trivetref16_spread.mono _ _ _ _ _
   | exact LeO.none _
   | refine LeO.ite ?_ ?_
   | refine LeO.bind ?_ (fun _ => ?_)
theorem trivetref16_Of.mono : ∀ a0 a1 a2 a3 a4 a5 a6 a7 k, LeO (trivetref16_Of.f k a0 a1 a2 a3 a4 a5 a6 a7) (trivetref16_Of.f (k + 1) a0 a1 a2 a3 a4 a5 a6 a7) := by
 intro a0 a1 a2 a3 a4 a5 a6 a7 k
 obtain ⟨ih0, ih1, ih2, ih3, ih4⟩ := trivetref16_Of.mono_l k
 unfold trivetref16_Of.f
 repeat' first
   | (with_reducible exact ih0 _ _ _ _ _ _ _ _ _ _ _ _ _)
   | (with_reducible exact ih1 _ _ _ _ _ _ _ _ _ _ _)
   | (with_reducible exact ih2 _ _ _ _ _ _ _ _ _ _ _ _)
   | (with_reducible exact ih3 _ _ _ _ _ _ _ _ _ _ _ _)
   | (with_reducible exact ih4 _ _ _ _ _ _ _ _ _ _ _)
   | (with_reducible exact trivetref16_spread.mono _ _ _ _ _)
   | (with_reducible exact LeO.refl _)
   | (with_reducible exact LeO.none _)
   | (with_reducible refine LeO.ite ?_ ?_)
   | (with_reducible refine LeO.bind ?_ (fun _ => ?_))
   | exact ih0 _ _ _ _ _ _ _ _ _ _ _ _ _
   | exact ih1 _ _ _ _ _ _ _ _ _ _ _
   | exact ih2 _ _ _ _ _ _ _ _ _ _ _ _
   | exact ih3 _ _ _ _ _ _ _ _ _ _ _ _
   | exact ih4 _ _ _ _ _ _ _ _ _ _ _
   | exact trivetref16_spread.mono _ _ _ _ _
   | exact LeO.none _
   | refine LeO.ite ?_ ?_
   | refine LeO.bind ?_ (fun _ => ?_)
set_option maxHeartbeats 8000000 in
set_option maxRecDepth 100000 in
theorem trivetref16_Of.calls (k : Nat) (a0_0 : Int) (a0_1 : Int) (a0_2 : Int) (a0_3 : Int) (a0_4 : Int) (A0_5 : Option Addr) (c0_5 : Nat) (l0_5 : List Int) (a1 : Int) (a2 : Bool) (r1 : Int) (r2 : Int) (r3 : Int) (r4 : Int) (r5 : List Int) (r6 : Bool) (w : World) (hr0_5 : Kd.C (Kd.int .i64) w A0_5 l0_5.length l0_5) (hc0_5 : l0_5.length ≤ c0_5) (h : trivetref16_Of.f k a0_0 a0_1 a0_2 a0_3 a0_4 l0_5 a1 a2 = some (r1, r2, r3, r4, r5, r6)) :
  Calls Try.prog 10 #[.agg #[.int .i64 a0_0, .int .i64 a0_1, .int .i64 a0_2, .int .i64 a0_3, .int .i64 a0_4, .slice A0_5 l0_5.length c0_5], .int .i64 a1, .bool a2] w fun e w' => ∃ v4_ : Value, e = .returned (.tuple #[.agg #[.int .i64 r1, .int .i64 r2, .int .i64 r3, .int .i64 r4, v4_], .bool r6]) ∧ Kd.R (Kd.int .i64) 2 w' w.heap.size (fun _ => True) v4_ r5 ∧ Below w.heap.size w w' := by
 have hu24 := Try.underlying24
 have hu27 := Try.underlying27
 have HR0_5 := ka hr0_5
 have HC0_5 := ka hc0_5
 clear hr0_5 hc0_5
 have HB := ka (Below.refl w.heap.size w)
 have H : (if a0_1 < 0 then (trivetref16_Of.j0 k a1 a2 true a0_0 a0_1 a0_2 a0_3 a0_4 l0_5 0 0 0 0) else ((trivetref16_money.f a0_1).bind fun t505 => (if t505 = true then ((trivetref16_money.f a0_3).bind fun t506 => (if t506 = true then ((trivetref16_money.f a1).bind fun t507 => (trivetref16_Of.j0 k a1 a2 (!t507) a0_0 a0_1 a0_2 a0_3 a0_4 l0_5 0 0 0 0)) else (trivetref16_Of.j0 k a1 a2 true a0_0 a0_1 a0_2 a0_3 a0_4 l0_5 0 0 0 0))) else (trivetref16_Of.j0 k a1 a2 true a0_0 a0_1 a0_2 a0_3 a0_4 l0_5 0 0 0 0)))) = some (r1, r2, r3, r4, r5, r6) := h
 clear h
 have HC4 := ka H
 clear H
 go_enter Try.func10, Try.ntmps10
 go_upto_region 2 with (first | ((with_reducible refine gate_dst (N := 3) rfl ?_); refine kx (N := 3) (cs := #[.int .i64 a0_0, .int .i64 a0_1, .int .i64 a0_2, .int .i64 a0_3, .int .i64 a0_4, .slice A0_5 l0_5.length c0_5]) (t := 24) ?_; intro gb502 hg w5 hbox hb; have n0_ := ka (below_step (kw HB.out) hb); have n1_ := ka (hbox); have n2_ := ka ((by rw [hg]; exact (below_size (kw HB.out)) : w.heap.size ≤ gb502)); have n3_ := n2_; clear HB; have HB := n0_; have BK502 := n1_; have GW502 := n2_; have GE502 := n3_; clear n0_ n1_ n2_ n3_; clear hb hbox hg) | ((with_reducible refine gate_dst (N := 6) rfl ?_); refine kx (N := 6) (cs := #[.int .i64 0, .int .i64 0, .int .i64 0, .int .i64 0, .slice none 0 0]) (t := 27) ?_; intro gb503 hg w6 hbox hb; have n0_ := ka (blk_below (g := gb502) (kz BK502.out) hb); have n1_ := ka (below_step (kw HB.out) hb); have n2_ := ka (hbox); have n3_ := ka ((by rw [hg]; exact (below_size (kw HB.out)) : w.heap.size ≤ gb503)); have n4_ := n3_; have n5_ := ka ((by rw [hg]; exact Nat.ne_of_lt (blk_lt (g := gb502) (kz BK502.out)) : gb502 ≠ gb503)); have n6_ := ka n5_.out.symm; clear BK502; clear HB; have BK502 := n0_; have HB := n1_; have BK503 := n2_; have GW503 := n3_; have GE503 := n4_; have NB502_503 := n5_; have NB503_502 := n6_; clear n0_ n1_ n2_ n3_ n4_ n5_ n6_; clear hb hbox hg) | ((with_reducible refine gate_dst (N := 8) rfl ?_); refine kx (N := 8) (cs := #[.int .i64 0, .int .i64 0, .int .i64 0, .int .i64 0, .slice none 0 0]) (t := 27) ?_; intro gb504 hg w7 hbox hb; have n0_ := ka (blk_below (g := gb502) (kz BK502.out) hb); have n1_ := ka (blk_below (g := gb503) (kz BK503.out) hb); have n2_ := ka (below_step (kw HB.out) hb); have n3_ := ka (hbox); have n4_ := ka ((by rw [hg]; exact (below_size (kw HB.out)) : w.heap.size ≤ gb504)); have n5_ := n4_; have n6_ := ka ((by rw [hg]; exact Nat.ne_of_lt (blk_lt (g := gb502) (kz BK502.out)) : gb502 ≠ gb504)); have n7_ := ka n6_.out.symm; have n8_ := ka ((by rw [hg]; exact Nat.ne_of_lt (blk_lt (g := gb503) (kz BK503.out)) : gb503 ≠ gb504)); have n9_ := ka n8_.out.symm; clear BK502; clear BK503; clear HB; have BK502 := n0_; have BK503 := n1_; have HB := n2_; have BK504 := n3_; have GW504 := n4_; have GE504 := n5_; have NB502_504 := n6_; have NB504_502 := n7_; have NB503_504 := n8_; have NB504_503 := n9_; clear n0_ n1_ n2_ n3_ n4_ n5_ n6_ n7_ n8_ n9_; clear hb hbox hg))
 (try simp only [Act.put, List.setIfInBounds_toArray, List.set_cons_zero, List.set_cons_succ])
 go_cut [28] (fun v28 wc => ∃ (kq : Nat) (x28_3 : Bool), v28 = .bool x28_3 ∧ Aside0 (trivetref16_Of.j0 kq a1 a2 x28_3 a0_0 a0_1 a0_2 a0_3 a0_4 l0_5 0 0 0 0 = some (r1, r2, r3, r4, r5, r6)) ∧ Aside0 (kq ≤ k) ∧ Aside0 (wc.heap[gb502]? = some (.cells #[.int .i64 a0_0, .int .i64 a0_1, .int .i64 a0_2, .int .i64 a0_3, .int .i64 a0_4, (.slice A0_5 l0_5.length c0_5)] 24 (0, 0))) ∧ Aside0 (wc.heap[gb503]? = some (.cells #[.int .i64 0, .int .i64 0, .int .i64 0, .int .i64 0, (.slice none 0 0)] 27 (0, 0))) ∧ Aside0 (wc.heap[gb504]? = some (.cells #[.int .i64 0, .int .i64 0, .int .i64 0, .int .i64 0, (.slice none 0 0)] 27 (0, 0))) ∧ Aside0 (Below w.heap.size w wc))
 case first =>
  have H := HC4.out
  clear HC4
  by_cases c8 : a0_1 < 0
  ·rw [if_pos c8] at H
   have c8b0 : decide (a0_1 < 0) = true := decide_eq_true c8
   clear c8
   (first | rw [c8b0] | (simp only [i64_w, i32_w]; rw [c8b0]) | skip)
   have H' := ka H
   clear H
   have hnb9 := NB502_503.out
   have hnc9 := NB503_502.out
   have hnb10 := NB502_504.out
   have hnc10 := NB504_502.out
   have hcz11 := blkAll6 BK502.out
   go_wp2
   go_meet
   case rel => exact ⟨_, (true), (by first | rfl | (simp; done) | (simp [*]; done)), H', ⟨by first | omega | exact Nat.le_refl _⟩, ⟨by (with_reducible repeat (first | apply kb1 | apply kb2 | apply kb3)); exact BK502.out⟩, ⟨by (with_reducible repeat (first | apply kb1 | apply kb2 | apply kb3)); exact BK503.out⟩, ⟨by (with_reducible repeat (first | apply kb1 | apply kb2 | apply kb3)); exact BK504.out⟩, ⟨by repeat (first | (with_reducible first | exact HB.out | apply kc1 | apply kc2 | apply kc3 | refine kc4 ?_ GE502.out | refine kc4 ?_ GE503.out | refine kc4 ?_ GE504.out) | exact HB.out)⟩⟩
  ·rw [if_neg c8] at H
   have c8b0 : decide (a0_1 < 0) = false := decide_eq_false c8
   clear c8
   (first | rw [c8b0] | (simp only [i64_w, i32_w]; rw [c8b0]) | skip)
   replace H := Option.bind_eq_some_iff.mp H
   obtain ⟨t505, A120, H⟩ := H
   replace H : (if t505 = true then ((trivetref16_money.f a0_3).bind fun t506 => (if t506 = true then ((trivetref16_money.f a1).bind fun t507 => (trivetref16_Of.j0 k a1 a2 (!t507) a0_0 a0_1 a0_2 a0_3 a0_4 l0_5 0 0 0 0)) else (trivetref16_Of.j0 k a1 a2 true a0_0 a0_1 a0_2 a0_3 a0_4 l0_5 0 0 0 0))) else (trivetref16_Of.j0 k a1 a2 true a0_0 a0_1 a0_2 a0_3 a0_4 l0_5 0 0 0 0)) = some (r1, r2, r3, r4, r5, r6) := H
   have A12 := ka A120
   clear A120
   by_cases c13 : t505 = true
   ·subst c13
    have H1 : ((trivetref16_money.f a0_3).bind fun t506 => (if t506 = true then ((trivetref16_money.f a1).bind fun t507 => (trivetref16_Of.j0 k a1 a2 (!t507) a0_0 a0_1 a0_2 a0_3 a0_4 l0_5 0 0 0 0)) else (trivetref16_Of.j0 k a1 a2 true a0_0 a0_1 a0_2 a0_3 a0_4 l0_5 0 0 0 0))) = some (r1, r2, r3, r4, r5, r6) := by rw [if_pos rfl] at H; exact H
    clear H
    have H := H1
    clear H1
    replace H := Option.bind_eq_some_iff.mp H
    obtain ⟨t506, A140, H⟩ := H
    replace H : (if t506 = true then ((trivetref16_money.f a1).bind fun t507 => (trivetref16_Of.j0 k a1 a2 (!t507) a0_0 a0_1 a0_2 a0_3 a0_4 l0_5 0 0 0 0)) else (trivetref16_Of.j0 k a1 a2 true a0_0 a0_1 a0_2 a0_3 a0_4 l0_5 0 0 0 0)) = some (r1, r2, r3, r4, r5, r6) := H
    have A14 := ka A140
    clear A140
    by_cases c15 : t506 = true
    ·subst c15
     have H1 : ((trivetref16_money.f a1).bind fun t507 => (trivetref16_Of.j0 k a1 a2 (!t507) a0_0 a0_1 a0_2 a0_3 a0_4 l0_5 0 0 0 0)) = some (r1, r2, r3, r4, r5, r6) := by rw [if_pos rfl] at H; exact H
     clear H
     have H := H1
     clear H1
     replace H := Option.bind_eq_some_iff.mp H
     obtain ⟨t507, A160, H⟩ := H
     replace H : (trivetref16_Of.j0 k a1 a2 (!t507) a0_0 a0_1 a0_2 a0_3 a0_4 l0_5 0 0 0 0) = some (r1, r2, r3, r4, r5, r6) := H
     have A16 := ka A160
     clear A160
     have H' := ka H
     clear H
     have hnb17 := NB502_503.out
     have hnc17 := NB503_502.out
     have hnb18 := NB502_504.out
     have hnc18 := NB504_502.out
     have hcz19 := blkAll6 BK502.out
     go_wp2_with (first | (go_at_call 16; (with_reducible refine (trivetref16_money.calls a0_1 true _ A12.out).mono ?_); rintro e w' ⟨rfl, ⟨nd, rfl⟩⟩) | (go_at_call 16; (with_reducible refine (trivetref16_money.calls a0_3 true _ A14.out).mono ?_); rintro e w' ⟨rfl, ⟨nd, rfl⟩⟩) | (go_at_call 16; (with_reducible refine (trivetref16_money.calls a1 t507 _ A16.out).mono ?_); rintro e w' ⟨rfl, ⟨nd, rfl⟩⟩))
     go_meet
     case rel => exact ⟨_, (!t507), (by first | rfl | (simp; done) | (simp [*]; done)), H', ⟨by first | omega | exact Nat.le_refl _⟩, ⟨by (with_reducible repeat (first | apply kb1 | apply kb2 | apply kb3)); exact BK502.out⟩, ⟨by (with_reducible repeat (first | apply kb1 | apply kb2 | apply kb3)); exact BK503.out⟩, ⟨by (with_reducible repeat (first | apply kb1 | apply kb2 | apply kb3)); exact BK504.out⟩, ⟨by repeat (first | (with_reducible first | exact HB.out | apply kc1 | apply kc2 | apply kc3 | refine kc4 ?_ GE502.out | refine kc4 ?_ GE503.out | refine kc4 ?_ GE504.out) | exact HB.out)⟩⟩
    ·replace c15 := Bool.eq_false_iff.mpr c15
     subst c15
     have H1 : (trivetref16_Of.j0 k a1 a2 true a0_0 a0_1 a0_2 a0_3 a0_4 l0_5 0 0 0 0) = some (r1, r2, r3, r4, r5, r6) := by rw [if_neg (show ¬ (false = true) by decide)] at H; exact H
     clear H
     have H := H1
     clear H1
     have H' := ka H
     clear H
     have hnb20 := NB502_503.out
     have hnc20 := NB503_502.out
     have hnb21 := NB502_504.out
     have hnc21 := NB504_502.out
     have hcz22 := blkAll6 BK502.out
     go_wp2_with (first | (go_at_call 16; (with_reducible refine (trivetref16_money.calls a0_1 true _ A12.out).mono ?_); rintro e w' ⟨rfl, ⟨nd, rfl⟩⟩) | (go_at_call 16; (with_reducible refine (trivetref16_money.calls a0_3 false _ A14.out).mono ?_); rintro e w' ⟨rfl, ⟨nd, rfl⟩⟩))
     go_meet
     case rel => exact ⟨_, (true), (by first | rfl | (simp; done) | (simp [*]; done)), H', ⟨by first | omega | exact Nat.le_refl _⟩, ⟨by (with_reducible repeat (first | apply kb1 | apply kb2 | apply kb3)); exact BK502.out⟩, ⟨by (with_reducible repeat (first | apply kb1 | apply kb2 | apply kb3)); exact BK503.out⟩, ⟨by (with_reducible repeat (first | apply kb1 | apply kb2 | apply kb3)); exact BK504.out⟩, ⟨by repeat (first | (with_reducible first | exact HB.out | apply kc1 | apply kc2 | apply kc3 | refine kc4 ?_ GE502.out | refine kc4 ?_ GE503.out | refine kc4 ?_ GE504.out) | exact HB.out)⟩⟩
   ·replace c13 := Bool.eq_false_iff.mpr c13
    subst c13
    have H1 : (trivetref16_Of.j0 k a1 a2 true a0_0 a0_1 a0_2 a0_3 a0_4 l0_5 0 0 0 0) = some (r1, r2, r3, r4, r5, r6) := by rw [if_neg (show ¬ (false = true) by decide)] at H; exact H
    clear H
    have H := H1
    clear H1
    have H' := ka H
    clear H
    have hnb23 := NB502_503.out
    have hnc23 := NB503_502.out
    have hnb24 := NB502_504.out
    have hnc24 := NB504_502.out
    have hcz25 := blkAll6 BK502.out
    go_wp2_with (first | (go_at_call 16; (with_reducible refine (trivetref16_money.calls a0_1 false _ A12.out).mono ?_); rintro e w' ⟨rfl, ⟨nd, rfl⟩⟩))
    go_meet
    case rel => exact ⟨_, (true), (by first | rfl | (simp; done) | (simp [*]; done)), H', ⟨by first | omega | exact Nat.le_refl _⟩, ⟨by (with_reducible repeat (first | apply kb1 | apply kb2 | apply kb3)); exact BK502.out⟩, ⟨by (with_reducible repeat (first | apply kb1 | apply kb2 | apply kb3)); exact BK503.out⟩, ⟨by (with_reducible repeat (first | apply kb1 | apply kb2 | apply kb3)); exact BK504.out⟩, ⟨by repeat (first | (with_reducible first | exact HB.out | apply kc1 | apply kc2 | apply kc3 | refine kc4 ?_ GE502.out | refine kc4 ?_ GE503.out | refine kc4 ?_ GE504.out) | exact HB.out)⟩⟩
 case rest =>
  clear HC4
  try clear c1
  try clear c2
  try clear p2
  try clear c8
  try clear c8b0
  try clear c9
  try clear c10
  try clear c13
  try clear c15
  try clear c17
  try clear c18
  try clear c20
  try clear c21
  try clear c23
  try clear c24
  try clear hcz11
  try clear hcz19
  try clear hcz22
  try clear hcz25
  obtain ⟨kq, x28_3, rfl, HA, HJ3, BK502, BK503, BK504, HB⟩ := hcut
  cases kq with
  | zero => exact absurd HA.out (by simp [trivetref16_Of.j0])
  | succ kj3 =>
   have H := HA.out
   clear HA
   simp only [trivetref16_Of.j0] at H
   by_cases c26 : x28_3 = true
   ·subst c26
    have H1 : (some (0, 0, 0, 0, ([] : List Int), false)) = some (r1, r2, r3, r4, r5, r6) := by rw [if_pos rfl] at H; exact H
    clear H
    have H := H1
    clear H1
    simp only [Option.some.injEq, Prod.mk.injEq] at H
    obtain ⟨rfl, rfl, rfl, rfl, rfl, rfl⟩ := H
    have hnb27 := NB504_502.out
    have hnc27 := NB502_504.out
    have hnb28 := NB504_503.out
    have hnc28 := NB503_504.out
    have hcz29 := blkAll5 BK504.out
    have hnb30 := NB503_502.out
    have hnc30 := NB502_503.out
    have hcz31 := blkAll5 BK503.out
    go_wp2
    refine bodyPost_ret (results_ct rfl _ _ gb503 27 #[.int .i64 0, .int .i64 0, .int .i64 0, .int .i64 0, .slice none 0 0] (0, 0) _ rfl (by (with_reducible repeat (first | apply kb1 | apply kb2 | apply kb3 | apply blkPut5_4 | apply blkPut5_3 | apply blkPut5_2 | apply blkPut5_1 | apply blkPut5_0)); exact BK503.out) Try.underlying27 rfl (by kernel_rfl)) rfl ?_
    exact ⟨_, by first | rfl | (simp [errW_none, errW_some] <;> rfl) | (simp [*, errW_none, errW_some] <;> rfl), by first | exact Kd.R_nil _ _ _ _ _ | exact Kd.N_nil _ _ _ _ _ | exact Kd.V_nil _ _ _ _ _ | exact Kd.Q_nil _ _ _ _ _ | exact Kd.S_nil _ _ _ _ _, by repeat (first | (with_reducible first | exact HB.out | apply kc1 | apply kc2 | apply kc3 | refine kc4 ?_ GE502.out | refine kc4 ?_ GE503.out | refine kc4 ?_ GE504.out) | exact HB.out)⟩
   ·replace c26 := Bool.eq_false_iff.mpr c26
    subst c26
    have H1 : (if a1 ≥ a0_3 then (trivetref16_Of.j1 kj3 a2 a0_0 a0_1 a0_2 a0_3 a0_4 l0_5 (wrap64 (a1 - a0_3)) 0 0 0) else (if a1 ≥ 0 then (trivetref16_Of.j1 kj3 a2 a0_0 a0_1 a0_2 a0_3 a0_4 l0_5 0 (wrap64 (a0_3 - a1)) 0 0) else (if a0_3 > 0 then (trivetref16_Of.j1 kj3 a2 a0_0 a0_1 a0_2 a0_3 a0_4 l0_5 0 a0_3 (wrap64 (-a1)) 0) else (trivetref16_Of.j1 kj3 a2 a0_0 a0_1 a0_2 a0_3 a0_4 l0_5 0 0 (wrap64 (a0_3 - a1)) 0)))) = some (r1, r2, r3, r4, r5, r6) := by rw [if_neg (show ¬ (false = true) by decide)] at H; exact H
    clear H
    have H := H1
    clear H1
    have HC32 := ka H
    clear H
    have hnb33 := NB502_503.out
    have hnc33 := NB503_502.out
    have hnb34 := NB502_504.out
    have hnc34 := NB504_502.out
    have hcz35 := blkAll6 BK502.out
    go_upto_if 33 with (fail)
    go_cut [] (fun wc => ∃ (kq : Nat) (x505000_31 : Int) (x505001_31 : Int) (x505002_31 : Int), Aside0 (trivetref16_Of.j1 kq a2 a0_0 a0_1 a0_2 a0_3 a0_4 l0_5 x505000_31 x505001_31 x505002_31 0 = some (r1, r2, r3, r4, r5, r6)) ∧ Aside0 (kq ≤ kj3) ∧ Aside0 (wc.heap[gb502]? = some (.cells #[.int .i64 a0_0, .int .i64 a0_1, .int .i64 a0_2, .int .i64 a0_3, .int .i64 a0_4, (.slice A0_5 l0_5.length c0_5)] 24 (0, 0))) ∧ Aside0 (wc.heap[gb503]? = some (.cells #[.int .i64 0, .int .i64 0, .int .i64 0, .int .i64 0, (.slice none 0 0)] 27 (0, 0))) ∧ Aside0 (wc.heap[gb504]? = some (.cells #[.int .i64 x505000_31, .int .i64 x505001_31, .int .i64 x505002_31, .int .i64 0, (.slice none 0 0)] 27 (0, 0))) ∧ Aside0 (Below w.heap.size w wc))
    case first =>
     have H := HC32.out
     clear HC32
     by_cases c36 : a1 ≥ a0_3
     ·rw [if_pos c36] at H
      have c36b0 : decide (a0_3 ≤ a1) = true := decide_eq_true c36
      clear c36
      (first | rw [c36b0] | (simp only [i64_w, i32_w]; rw [c36b0]) | skip)
      have H' := ka H
      clear H
      have hnb37 := NB502_503.out
      have hnc37 := NB503_502.out
      have hnb38 := NB502_504.out
      have hnc38 := NB504_502.out
      have hcz39 := blkAll6 BK502.out
      have hnb40 := NB504_503.out
      have hnc40 := NB503_504.out
      have hcz41 := blkAll5 BK504.out
      go_wp2
      go_meet
      case rel => exact ⟨_, (wrap64 (a1 - a0_3)), (0), (0), H', ⟨by have := HJ3.out; first | omega | exact Nat.le_refl _⟩, ⟨by (with_reducible repeat (first | apply kb1 | apply kb2 | apply kb3)); refine kb4 ?_ NB502_504.out _; (with_reducible repeat (first | apply kb1 | apply kb2 | apply kb3)); exact BK502.out⟩, ⟨by (with_reducible repeat (first | apply kb1 | apply kb2 | apply kb3)); refine kb4 ?_ NB503_504.out _; (with_reducible repeat (first | apply kb1 | apply kb2 | apply kb3)); exact BK503.out⟩, ⟨by (with_reducible repeat (first | apply kb1 | apply kb2 | apply kb3)); refine blk_put (cs := #[.int .i64 0, .int .i64 0, .int .i64 0, .int .i64 0, .slice none 0 0]) ?_ 0 _ rfl; (with_reducible repeat (first | apply kb1 | apply kb2 | apply kb3)); exact BK504.out⟩, ⟨by repeat (first | (with_reducible first | exact HB.out | apply kc1 | apply kc2 | apply kc3 | refine kc4 ?_ GE502.out | refine kc4 ?_ GE503.out | refine kc4 ?_ GE504.out) | exact HB.out)⟩⟩
     ·rw [if_neg c36] at H
      have c36b0 : decide (a0_3 ≤ a1) = false := decide_eq_false c36
      clear c36
      (first | rw [c36b0] | (simp only [i64_w, i32_w]; rw [c36b0]) | skip)
      by_cases c42 : a1 ≥ 0
      ·rw [if_pos c42] at H
       have c42b0 : decide (0 ≤ a1) = true := decide_eq_true c42
       clear c42
       have H' := ka H
       clear H
       have hnb43 := NB502_503.out
       have hnc43 := NB503_502.out
       have hnb44 := NB502_504.out
       have hnc44 := NB504_502.out
       have hcz45 := blkAll6 BK502.out
       have hnb46 := NB504_503.out
       have hnc46 := NB503_504.out
       have hcz47 := blkAll5 BK504.out
       go_wp2
       go_meet
       case rel => exact ⟨_, (0), (wrap64 (a0_3 - a1)), (0), H', ⟨by have := HJ3.out; first | omega | exact Nat.le_refl _⟩, ⟨by (with_reducible repeat (first | apply kb1 | apply kb2 | apply kb3)); refine kb4 ?_ NB502_504.out _; (with_reducible repeat (first | apply kb1 | apply kb2 | apply kb3)); exact BK502.out⟩, ⟨by (with_reducible repeat (first | apply kb1 | apply kb2 | apply kb3)); refine kb4 ?_ NB503_504.out _; (with_reducible repeat (first | apply kb1 | apply kb2 | apply kb3)); exact BK503.out⟩, ⟨by (with_reducible repeat (first | apply kb1 | apply kb2 | apply kb3)); refine blk_put (cs := #[.int .i64 0, .int .i64 0, .int .i64 0, .int .i64 0, .slice none 0 0]) ?_ 1 _ rfl; (with_reducible repeat (first | apply kb1 | apply kb2 | apply kb3)); exact BK504.out⟩, ⟨by repeat (first | (with_reducible first | exact HB.out | apply kc1 | apply kc2 | apply kc3 | refine kc4 ?_ GE502.out | refine kc4 ?_ GE503.out | refine kc4 ?_ GE504.out) | exact HB.out)⟩⟩
      ·rw [if_neg c42] at H
       have c42b0 : decide (0 ≤ a1) = false := decide_eq_false c42
       clear c42
       by_cases c48 : a0_3 > 0
       ·rw [if_pos c48] at H
        have c48b0 : decide (0 < a0_3) = true := decide_eq_true c48
        clear c48
        have H' := ka H
        clear H
        have hnb49 := NB502_503.out
        have hnc49 := NB503_502.out
        have hnb50 := NB502_504.out
        have hnc50 := NB504_502.out
        have hcz51 := blkAll6 BK502.out
        have hnb52 := NB504_503.out
        have hnc52 := NB503_504.out
        have hcz53 := blkAll5 BK504.out
        go_wp2
        go_meet
        case rel => exact ⟨_, (0), (a0_3), (wrap64 (-a1)), H', ⟨by have := HJ3.out; first | omega | exact Nat.le_refl _⟩, ⟨by (with_reducible repeat (first | apply kb1 | apply kb2 | apply kb3 | refine kb4 ?_ NB502_504.out _)); exact BK502.out⟩, ⟨by (with_reducible repeat (first | apply kb1 | apply kb2 | apply kb3 | refine kb4 ?_ NB503_504.out _)); exact BK503.out⟩, ⟨by (with_reducible repeat (first | apply kb1 | apply kb2 | apply kb3 | apply blkPut5_1 | apply blkPut5_2)); exact BK504.out⟩, ⟨by repeat (first | (with_reducible first | exact HB.out | apply kc1 | apply kc2 | apply kc3 | refine kc4 ?_ GE502.out | refine kc4 ?_ GE503.out | refine kc4 ?_ GE504.out) | exact HB.out)⟩⟩
       ·rw [if_neg c48] at H
        have c48b0 : decide (0 < a0_3) = false := decide_eq_false c48
        clear c48
        have H' := ka H
        clear H
        have hnb54 := NB502_503.out
        have hnc54 := NB503_502.out
        have hnb55 := NB502_504.out
        have hnc55 := NB504_502.out
        have hcz56 := blkAll6 BK502.out
        have hnb57 := NB504_503.out
        have hnc57 := NB503_504.out
        have hcz58 := blkAll5 BK504.out
        go_wp2
        go_meet
        case rel => exact ⟨_, (0), (0), (wrap64 (a0_3 - a1)), H', ⟨by have := HJ3.out; first | omega | exact Nat.le_refl _⟩, ⟨by (with_reducible repeat (first | apply kb1 | apply kb2 | apply kb3)); refine kb4 ?_ NB502_504.out _; (with_reducible repeat (first | apply kb1 | apply kb2 | apply kb3)); exact BK502.out⟩, ⟨by (with_reducible repeat (first | apply kb1 | apply kb2 | apply kb3)); refine kb4 ?_ NB503_504.out _; (with_reducible repeat (first | apply kb1 | apply kb2 | apply kb3)); exact BK503.out⟩, ⟨by (with_reducible repeat (first | apply kb1 | apply kb2 | apply kb3)); refine blk_put (cs := #[.int .i64 0, .int .i64 0, .int .i64 0, .int .i64 0, .slice none 0 0]) ?_ 2 _ rfl; (with_reducible repeat (first | apply kb1 | apply kb2 | apply kb3)); exact BK504.out⟩, ⟨by repeat (first | (with_reducible first | exact HB.out | apply kc1 | apply kc2 | apply kc3 | refine kc4 ?_ GE502.out | refine kc4 ?_ GE503.out | refine kc4 ?_ GE504.out) | exact HB.out)⟩⟩
    case rest =>
     clear HC32
     try clear c1
     try clear c2
     try clear p2
     try clear c3
     try clear c4
     try clear c5
     try clear p6
     try clear c8
     try clear c8b0
     try clear c9
     try clear c10
     try clear c13
     try clear c15
     try clear c17
     try clear c18
     try clear c20
     try clear c21
     try clear c23
     try clear c24
     try clear c26
     try clear c27
     try clear c28
     try clear c30
     try clear c33
     try clear c34
     try clear c36
     try clear c36b0
     try clear c37
     try clear c38
     try clear c40
     try clear c42
     try clear c42b0
     try clear c43
     try clear c44
     try clear c46
     try clear c48
     try clear c48b0
     try clear c49
     try clear c50
     try clear c52
     try clear c54
     try clear c55
     try clear c57
     try clear hcz11
     try clear hcz19
     try clear hcz22
     try clear hcz25
     try clear hcz29
     try clear hcz31
     try clear hcz35
     try clear hcz39
     try clear hcz41
     try clear hcz45
     try clear hcz47
     try clear hcz51
     try clear hcz53
     try clear hcz56
     try clear hcz58
     try clear p2
     obtain ⟨kq, x505000_31, x505001_31, x505002_31, HA, HJ31, BK502, BK503, BK504, HB⟩ := hcut
     cases kq with
     | zero => exact absurd HA.out (by simp [trivetref16_Of.j1])
     | succ kj31 =>
      have H := HA.out
      clear HA
      simp only [trivetref16_Of.j1] at H
      have HC59 := ka H
      clear H
      go_upto_region 12 with (fail)
      go_cut [75] (fun v75 wc => ∃ (kq : Nat) (x75_58 : Bool), v75 = .bool x75_58 ∧ Aside0 (trivetref16_Of.j2 kq a2 x75_58 a0_0 a0_1 a0_2 a0_3 a0_4 l0_5 x505000_31 x505001_31 x505002_31 0 = some (r1, r2, r3, r4, r5, r6)) ∧ Aside0 (kq ≤ kj31) ∧ Aside0 (wc.heap[gb502]? = some (.cells #[.int .i64 a0_0, .int .i64 a0_1, .int .i64 a0_2, .int .i64 a0_3, .int .i64 a0_4, (.slice A0_5 l0_5.length c0_5)] 24 (0, 0))) ∧ Aside0 (wc.heap[gb503]? = some (.cells #[.int .i64 0, .int .i64 0, .int .i64 0, .int .i64 0, (.slice none 0 0)] 27 (0, 0))) ∧ Aside0 (wc.heap[gb504]? = some (.cells #[.int .i64 x505000_31, .int .i64 x505001_31, .int .i64 x505002_31, .int .i64 0, (.slice none 0 0)] 27 (0, 0))) ∧ Aside0 (Below w.heap.size w wc))
      case first =>
       have H := HC59.out
       clear HC59
       replace H := Option.bind_eq_some_iff.mp H
       obtain ⟨t508, A600, H⟩ := H
       replace H : (if t508 = true then ((trivetref16_money.f x505001_31).bind fun t509 => (if t509 = true then ((trivetref16_money.f x505002_31).bind fun t510 => (trivetref16_Of.j2 kj31 a2 (!t510) a0_0 a0_1 a0_2 a0_3 a0_4 l0_5 x505000_31 x505001_31 x505002_31 0)) else (trivetref16_Of.j2 kj31 a2 true a0_0 a0_1 a0_2 a0_3 a0_4 l0_5 x505000_31 x505001_31 x505002_31 0))) else (trivetref16_Of.j2 kj31 a2 true a0_0 a0_1 a0_2 a0_3 a0_4 l0_5 x505000_31 x505001_31 x505002_31 0)) = some (r1, r2, r3, r4, r5, r6) := H
       have A60 := ka A600
       clear A600
       by_cases c61 : t508 = true
       ·subst c61
        have H1 : ((trivetref16_money.f x505001_31).bind fun t509 => (if t509 = true then ((trivetref16_money.f x505002_31).bind fun t510 => (trivetref16_Of.j2 kj31 a2 (!t510) a0_0 a0_1 a0_2 a0_3 a0_4 l0_5 x505000_31 x505001_31 x505002_31 0)) else (trivetref16_Of.j2 kj31 a2 true a0_0 a0_1 a0_2 a0_3 a0_4 l0_5 x505000_31 x505001_31 x505002_31 0))) = some (r1, r2, r3, r4, r5, r6) := by rw [if_pos rfl] at H; exact H
        clear H
        have H := H1
        clear H1
        replace H := Option.bind_eq_some_iff.mp H
        obtain ⟨t509, A620, H⟩ := H
        replace H : (if t509 = true then ((trivetref16_money.f x505002_31).bind fun t510 => (trivetref16_Of.j2 kj31 a2 (!t510) a0_0 a0_1 a0_2 a0_3 a0_4 l0_5 x505000_31 x505001_31 x505002_31 0)) else (trivetref16_Of.j2 kj31 a2 true a0_0 a0_1 a0_2 a0_3 a0_4 l0_5 x505000_31 x505001_31 x505002_31 0)) = some (r1, r2, r3, r4, r5, r6) := H
        have A62 := ka A620
        clear A620
        by_cases c63 : t509 = true
        ·subst c63
         have H1 : ((trivetref16_money.f x505002_31).bind fun t510 => (trivetref16_Of.j2 kj31 a2 (!t510) a0_0 a0_1 a0_2 a0_3 a0_4 l0_5 x505000_31 x505001_31 x505002_31 0)) = some (r1, r2, r3, r4, r5, r6) := by rw [if_pos rfl] at H; exact H
         clear H
         have H := H1
         clear H1
         replace H := Option.bind_eq_some_iff.mp H
         obtain ⟨t510, A640, H⟩ := H
         replace H : (trivetref16_Of.j2 kj31 a2 (!t510) a0_0 a0_1 a0_2 a0_3 a0_4 l0_5 x505000_31 x505001_31 x505002_31 0) = some (r1, r2, r3, r4, r5, r6) := H
         have A64 := ka A640
         clear A640
         have H' := ka H
         clear H
         have hnb65 := NB504_502.out
         have hnc65 := NB502_504.out
         have hnb66 := NB504_503.out
         have hnc66 := NB503_504.out
         have hcz67 := blkAll5 BK504.out
         go_wp2_with (first | ((with_reducible refine gate_callee (f := 16) rfl ?_); refine kg (some 62) rfl rfl Try.func16 (by kernel_rfl) rfl #[.int .i64 x505000_31] rfl ?_; (with_reducible refine (trivetref16_money.calls x505000_31 true _ A60.out).mono ?_); rintro e w' ⟨rfl, ⟨nd, rfl⟩⟩; refine ⟨_, rfl, ?_⟩) | (go_at_call 16; (with_reducible refine (trivetref16_money.calls x505001_31 true _ A62.out).mono ?_); rintro e w' ⟨rfl, ⟨nd, rfl⟩⟩) | (go_at_call 16; (with_reducible refine (trivetref16_money.calls x505002_31 t510 _ A64.out).mono ?_); rintro e w' ⟨rfl, ⟨nd, rfl⟩⟩))
         go_meet
         case rel => exact ⟨_, (!t510), (by first | rfl | (simp; done) | (simp [*]; done)), H', ⟨by have := HJ3.out; have := HJ31.out; first | omega | exact Nat.le_refl _⟩, ⟨by (with_reducible repeat (first | apply kb1 | apply kb2 | apply kb3)); exact BK502.out⟩, ⟨by (with_reducible repeat (first | apply kb1 | apply kb2 | apply kb3)); exact BK503.out⟩, ⟨by (with_reducible repeat (first | apply kb1 | apply kb2 | apply kb3)); exact BK504.out⟩, ⟨by repeat (first | (with_reducible first | exact HB.out | apply kc1 | apply kc2 | apply kc3 | refine kc4 ?_ GE502.out | refine kc4 ?_ GE503.out | refine kc4 ?_ GE504.out) | exact HB.out)⟩⟩
        ·replace c63 := Bool.eq_false_iff.mpr c63
         subst c63
         have H1 : (trivetref16_Of.j2 kj31 a2 true a0_0 a0_1 a0_2 a0_3 a0_4 l0_5 x505000_31 x505001_31 x505002_31 0) = some (r1, r2, r3, r4, r5, r6) := by rw [if_neg (show ¬ (false = true) by decide)] at H; exact H
         clear H
         have H := H1
         clear H1
         have H' := ka H
         clear H
         have hnb68 := NB504_502.out
         have hnc68 := NB502_504.out
         have hnb69 := NB504_503.out
         have hnc69 := NB503_504.out
         have hcz70 := blkAll5 BK504.out
         go_wp2_with (first | ((with_reducible refine gate_callee (f := 16) rfl ?_); refine kg (some 62) rfl rfl Try.func16 (by kernel_rfl) rfl #[.int .i64 x505000_31] rfl ?_; (with_reducible refine (trivetref16_money.calls x505000_31 true _ A60.out).mono ?_); rintro e w' ⟨rfl, ⟨nd, rfl⟩⟩; refine ⟨_, rfl, ?_⟩) | (go_at_call 16; (with_reducible refine (trivetref16_money.calls x505001_31 false _ A62.out).mono ?_); rintro e w' ⟨rfl, ⟨nd, rfl⟩⟩))
         go_meet
         case rel => exact ⟨_, (true), (by first | rfl | (simp; done) | (simp [*]; done)), H', ⟨by have := HJ3.out; have := HJ31.out; first | omega | exact Nat.le_refl _⟩, ⟨by (with_reducible repeat (first | apply kb1 | apply kb2 | apply kb3)); exact BK502.out⟩, ⟨by (with_reducible repeat (first | apply kb1 | apply kb2 | apply kb3)); exact BK503.out⟩, ⟨by (with_reducible repeat (first | apply kb1 | apply kb2 | apply kb3)); exact BK504.out⟩, ⟨by repeat (first | (with_reducible first | exact HB.out | apply kc1 | apply kc2 | apply kc3 | refine kc4 ?_ GE502.out | refine kc4 ?_ GE503.out | refine kc4 ?_ GE504.out) | exact HB.out)⟩⟩
       ·replace c61 := Bool.eq_false_iff.mpr c61
        subst c61
        have H1 : (trivetref16_Of.j2 kj31 a2 true a0_0 a0_1 a0_2 a0_3 a0_4 l0_5 x505000_31 x505001_31 x505002_31 0) = some (r1, r2, r3, r4, r5, r6) := by rw [if_neg (show ¬ (false = true) by decide)] at H; exact H
        clear H
        have H := H1
        clear H1
        have H' := ka H
        clear H
        have hnb71 := NB504_502.out
        have hnc71 := NB502_504.out
        have hnb72 := NB504_503.out
        have hnc72 := NB503_504.out
        have hcz73 := blkAll5 BK504.out
        go_wp2_with (first | ((with_reducible refine gate_callee (f := 16) rfl ?_); refine kg (some 62) rfl rfl Try.func16 (by kernel_rfl) rfl #[.int .i64 x505000_31] rfl ?_; (with_reducible refine (trivetref16_money.calls x505000_31 false _ A60.out).mono ?_); rintro e w' ⟨rfl, ⟨nd, rfl⟩⟩; refine ⟨_, rfl, ?_⟩))
        go_meet
        case rel => exact ⟨_, (true), (by first | rfl | (simp; done) | (simp [*]; done)), H', ⟨by have := HJ3.out; have := HJ31.out; first | omega | exact Nat.le_refl _⟩, ⟨by (with_reducible repeat (first | apply kb1 | apply kb2 | apply kb3)); exact BK502.out⟩, ⟨by (with_reducible repeat (first | apply kb1 | apply kb2 | apply kb3)); exact BK503.out⟩, ⟨by (with_reducible repeat (first | apply kb1 | apply kb2 | apply kb3)); exact BK504.out⟩, ⟨by repeat (first | (with_reducible first | exact HB.out | apply kc1 | apply kc2 | apply kc3 | refine kc4 ?_ GE502.out | refine kc4 ?_ GE503.out | refine kc4 ?_ GE504.out) | exact HB.out)⟩⟩
      case rest =>
       clear HC59
       try clear c1
       try clear c2
       try clear p2
       try clear c3
       try clear c4
       try clear c5
       try clear c6
       try clear p6
       try clear c7
       try clear c8
       try clear c8b0
       try clear c9
       try clear c10
       try clear c13
       try clear c15
       try clear c16
       try clear c17
       try clear c18
       try clear c20
       try clear c21
       try clear c23
       try clear c24
       try clear c26
       try clear c27
       try clear c28
       try clear c30
       try clear c33
       try clear c34
       try clear c36
       try clear c36b0
       try clear c37
       try clear c38
       try clear c40
       try clear c42
       try clear c42b0
       try clear c43
       try clear c44
       try clear c46
       try clear c48
       try clear c48b0
       try clear c49
       try clear c50
       try clear c52
       try clear c54
       try clear c55
       try clear c57
       try clear c61
       try clear c63
       try clear p64
       try clear c65
       try clear c66
       try clear c68
       try clear c69
       try clear c71
       try clear c72
       try clear hcz11
       try clear hcz19
       try clear hcz22
       try clear hcz25
       try clear hcz29
       try clear hcz31
       try clear hcz35
       try clear hcz39
       try clear hcz41
       try clear hcz45
       try clear hcz47
       try clear hcz51
       try clear hcz53
       try clear hcz56
       try clear hcz58
       try clear hcz67
       try clear hcz70
       try clear hcz73
       try clear p2
       try clear p6
       obtain ⟨kq, x75_58, rfl, HA, HJ58, BK502, BK503, BK504, HB⟩ := hcut
       cases kq with
       | zero => exact absurd HA.out (by simp [trivetref16_Of.j2])
       | succ kj58 =>
        have H := HA.out
        clear HA
        simp only [trivetref16_Of.j2] at H
        by_cases c74 : x75_58 = true
        ·subst c74
         have H1 : (some (0, 0, 0, 0, ([] : List Int), false)) = some (r1, r2, r3, r4, r5, r6) := by rw [if_pos rfl] at H; exact H
         clear H
         have H := H1
         clear H1
         simp only [Option.some.injEq, Prod.mk.injEq] at H
         obtain ⟨rfl, rfl, rfl, rfl, rfl, rfl⟩ := H
         have hnb75 := NB503_502.out
         have hnc75 := NB502_503.out
         have hnb76 := NB503_504.out
         have hnc76 := NB504_503.out
         have hcz77 := blkAll5 BK503.out
         go_wp2
         refine bodyPost_ret (results_ct rfl _ _ gb503 27 #[.int .i64 0, .int .i64 0, .int .i64 0, .int .i64 0, .slice none 0 0] (0, 0) _ rfl (by (with_reducible repeat (first | apply kb1 | apply kb2 | apply kb3 | apply blkPut5_4 | apply blkPut5_3 | apply blkPut5_2 | apply blkPut5_1 | apply blkPut5_0)); exact BK503.out) Try.underlying27 rfl (by kernel_rfl)) rfl ?_
         exact ⟨_, by first | rfl | (simp [errW_none, errW_some] <;> rfl) | (simp [*, errW_none, errW_some] <;> rfl), by first | exact Kd.R_nil _ _ _ _ _ | exact Kd.N_nil _ _ _ _ _ | exact Kd.V_nil _ _ _ _ _ | exact Kd.Q_nil _ _ _ _ _ | exact Kd.S_nil _ _ _ _ _, by repeat (first | (with_reducible first | exact HB.out | apply kc1 | apply kc2 | apply kc3 | refine kc4 ?_ GE502.out | refine kc4 ?_ GE503.out | refine kc4 ?_ GE504.out) | exact HB.out)⟩
        ·replace c74 := Bool.eq_false_iff.mpr c74
         subst c74
         have H1 : (if 12 ≤ 35184372088832 then ((some (List.replicate 12 0 : List Int)).bind fun y511 => (if x505000_31 ≥ 5000 then (trivetref16_Of.j3 kj58 a2 a0_0 a0_1 a0_2 a0_3 a0_4 l0_5 x505000_31 x505001_31 x505002_31 0 y511) else (trivetref16_Of.j3 kj58 false a0_0 a0_1 a0_2 a0_3 a0_4 l0_5 x505000_31 x505001_31 x505002_31 0 y511))) else (none)) = some (r1, r2, r3, r4, r5, r6) := by rw [if_neg (show ¬ (false = true) by decide)] at H; exact H
         clear H
         have H := H1
         clear H1
         by_cases c78 : 12 ≤ 35184372088832
         ·rw [if_pos c78] at H
          have c78b0 := eq_true c78
          have c78b1 : decide (12 ≤ 35184372088832) = true := decide_eq_true c78
          clear c78
          obtain ⟨y511, hy511⟩ : ∃ y_ : List Int, y_ = (List.replicate 12 0) := ⟨_, rfl⟩
          replace H : (if x505000_31 ≥ 5000 then (trivetref16_Of.j3 kj58 a2 a0_0 a0_1 a0_2 a0_3 a0_4 l0_5 x505000_31 x505001_31 x505002_31 0 y511) else (trivetref16_Of.j3 kj58 false a0_0 a0_1 a0_2 a0_3 a0_4 l0_5 x505000_31 x505001_31 x505002_31 0 y511)) = some (r1, r2, r3, r4, r5, r6) := by first | (rw [hy511]; with_reducible exact H) | (have H2_ := (Option.bind_some _ _).symm.trans H; rw [hy511]; with_reducible exact H2_) | (have H2_ := (Option.bind_some _ _).symm.trans H; with_reducible exact H2_) | with_reducible exact H | (rw [hy511]; exact H) | exact H
          have Ny511 := ka hy511
          clear hy511
          have HC79 := ka H
          clear H
          go_upto_region 15 with (first | ((with_reducible refine gate_dst (N := 77) rfl ?_); refine Kd.R_make (Kd.int .i64) _ 2 rfl (N := 77) rfl 22 _ _ rfl 12 rfl rfl Try.underlying22 (.int .i64 0) 8 info2 rfl (by decide) (by omega) 0 (ok := fun _ => True) (okp := fun _ => True) rfl (fun _ hk => hk) trivial (by omega) (by omega) (Below.refl _ _) (Nat.le_refl _) ?_; intro v512 w80 ho81 hb hg_ hnew_; clear hg_ hnew_; (first | rw [← Ny511.out] at ho81 | (simp only [Int.reduceToNat] at ho81; rw [← Ny511.out] at ho81)); have HO513 := ka (Kd.R_lower ho81 (below_size (kw HB.out))); replace BK502 := kbb BK502 hb; replace BK503 := kbb BK503 hb; replace BK504 := kbb BK504 hb; replace HB := ka (below_step (kw HB.out) hb); clear hb ho81; obtain ⟨Ao82, co82, eo82⟩ := Kd.R_slice HO513.out; subst eo82; have hnb83 := NB504_502.out; have hnc83 := NB502_504.out; have hnb84 := NB504_503.out; have hnc84 := NB503_504.out; have hcz85 := blkAll5 BK504.out))
          (try simp only [Act.put, List.setIfInBounds_toArray, List.set_cons_zero, List.set_cons_succ])
          go_cut [84] (fun v84 wc => ∃ (kq : Nat) (x84_78 : Bool), v84 = .bool x84_78 ∧ Aside0 (trivetref16_Of.j3 kq x84_78 a0_0 a0_1 a0_2 a0_3 a0_4 l0_5 x505000_31 x505001_31 x505002_31 0 y511 = some (r1, r2, r3, r4, r5, r6)) ∧ Aside0 (kq ≤ kj58) ∧ Aside0 (Kd.R (Kd.int .i64) 2 wc w.heap.size (fun _ => True) (.slice Ao82 y511.length co82) y511) ∧ Aside0 (wc.heap[gb502]? = some (.cells #[.int .i64 a0_0, .int .i64 a0_1, .int .i64 a0_2, .int .i64 a0_3, .int .i64 a0_4, (.slice A0_5 l0_5.length c0_5)] 24 (0, 0))) ∧ Aside0 (wc.heap[gb503]? = some (.cells #[.int .i64 0, .int .i64 0, .int .i64 0, .int .i64 0, (.slice none 0 0)] 27 (0, 0))) ∧ Aside0 (wc.heap[gb504]? = some (.cells #[.int .i64 x505000_31, .int .i64 x505001_31, .int .i64 x505002_31, .int .i64 0, (.slice Ao82 y511.length co82)] 27 (0, 0))) ∧ Aside0 (Below w.heap.size w wc))
          case first =>
           have H := HC79.out
           clear HC79
           by_cases c86 : x505000_31 ≥ 5000
           ·rw [if_pos c86] at H
            have c86b0 : decide (5000 ≤ x505000_31) = true := decide_eq_true c86
            clear c86
            (first | rw [c86b0] | (simp only [i64_w, i32_w]; rw [c86b0]) | skip)
            have H' := ka H
            clear H
            have hnb87 := NB504_502.out
            have hnc87 := NB502_504.out
            have hnb88 := NB504_503.out
            have hnc88 := NB503_504.out
            have hcz89 := blkAll5 BK504.out
            go_wp2
            go_meet
            case rel => exact ⟨_, (a2), (by first | rfl | (simp; done) | (simp [*]; done)), H', ⟨by have := HJ3.out; have := HJ31.out; have := HJ58.out; first | omega | exact Nat.le_refl _⟩, ⟨kr (Kd.R_mono (Kd.R_far (p := ⟨gb504, 4, none⟩) (Kd.R_types HO513.out BK504.out (by decide)) (fun _ hk => hk.2) (.slice Ao82 y511.length co82)) (fun _ hk => trivial))⟩, ⟨by (with_reducible repeat (first | apply kb1 | apply kb2 | apply kb3)); refine kb4 ?_ NB502_504.out _; (with_reducible repeat (first | apply kb1 | apply kb2 | apply kb3)); exact BK502.out⟩, ⟨by (with_reducible repeat (first | apply kb1 | apply kb2 | apply kb3)); refine kb4 ?_ NB503_504.out _; (with_reducible repeat (first | apply kb1 | apply kb2 | apply kb3)); exact BK503.out⟩, ⟨by (with_reducible repeat (first | apply kb1 | apply kb2 | apply kb3)); refine blk_put (cs := #[.int .i64 x505000_31, .int .i64 x505001_31, .int .i64 x505002_31, .int .i64 0, .slice none 0 0]) ?_ 4 _ rfl; (with_reducible repeat (first | apply kb1 | apply kb2 | apply kb3)); exact BK504.out⟩, ⟨by repeat (first | (with_reducible first | exact HB.out | apply kc1 | apply kc2 | apply kc3 | refine kc4 ?_ GE502.out | refine kc4 ?_ GE503.out | refine kc4 ?_ GE504.out) | exact HB.out)⟩⟩
           ·rw [if_neg c86] at H
            have c86b0 : decide (5000 ≤ x505000_31) = false := decide_eq_false c86
            clear c86
            (first | rw [c86b0] | (simp only [i64_w, i32_w]; rw [c86b0]) | skip)
            have H' := ka H
            clear H
            have hnb90 := NB504_502.out
            have hnc90 := NB502_504.out
            have hnb91 := NB504_503.out
            have hnc91 := NB503_504.out
            have hcz92 := blkAll5 BK504.out
            go_wp2
            go_meet
            case rel => exact ⟨_, (false), (by first | rfl | (simp; done) | (simp [*]; done)), H', ⟨by have := HJ3.out; have := HJ31.out; have := HJ58.out; first | omega | exact Nat.le_refl _⟩, ⟨kr (Kd.R_mono (Kd.R_far (p := ⟨gb504, 4, none⟩) (Kd.R_types HO513.out BK504.out (by decide)) (fun _ hk => hk.2) (.slice Ao82 y511.length co82)) (fun _ hk => trivial))⟩, ⟨by (with_reducible repeat (first | apply kb1 | apply kb2 | apply kb3)); refine kb4 ?_ NB502_504.out _; (with_reducible repeat (first | apply kb1 | apply kb2 | apply kb3)); exact BK502.out⟩, ⟨by (with_reducible repeat (first | apply kb1 | apply kb2 | apply kb3)); refine kb4 ?_ NB503_504.out _; (with_reducible repeat (first | apply kb1 | apply kb2 | apply kb3)); exact BK503.out⟩, ⟨by (with_reducible repeat (first | apply kb1 | apply kb2 | apply kb3)); refine blk_put (cs := #[.int .i64 x505000_31, .int .i64 x505001_31, .int .i64 x505002_31, .int .i64 0, .slice none 0 0]) ?_ 4 _ rfl; (with_reducible repeat (first | apply kb1 | apply kb2 | apply kb3)); exact BK504.out⟩, ⟨by repeat (first | (with_reducible first | exact HB.out | apply kc1 | apply kc2 | apply kc3 | refine kc4 ?_ GE502.out | refine kc4 ?_ GE503.out | refine kc4 ?_ GE504.out) | exact HB.out)⟩⟩
          case rest =>
           clear HC79
           try clear c1
           try clear c2
           try clear p2
           try clear c3
           try clear c4
           try clear c5
           try clear c6
           try clear p6
           try clear c7
           try clear c8
           try clear c8b0
           try clear c9
           try clear c10
           try clear c13
           try clear c15
           try clear c16
           try clear c17
           try clear c18
           try clear c20
           try clear c21
           try clear c23
           try clear c24
           try clear c26
           try clear c27
           try clear c28
           try clear c30
           try clear c33
           try clear c34
           try clear c36
           try clear c36b0
           try clear c37
           try clear c38
           try clear c40
           try clear c42
           try clear c42b0
           try clear c43
           try clear c44
           try clear c46
           try clear c48
           try clear c48b0
           try clear c49
           try clear c50
           try clear c52
           try clear c54
           try clear c55
           try clear c57
           try clear c61
           try clear c63
           try clear p64
           try clear c65
           try clear c66
           try clear c68
           try clear c69
           try clear c71
           try clear c72
           try clear c74
           try clear c75
           try clear c76
           try clear c78
           try clear c78b0
           try clear c78b1
           try clear c83
           try clear c84
           try clear c86
           try clear c86b0
           try clear c87
           try clear c88
           try clear c90
           try clear c91
           try clear hcz11
           try clear hcz19
           try clear hcz22
           try clear hcz25
           try clear hcz29
           try clear hcz31
           try clear hcz35
           try clear hcz39
           try clear hcz41
           try clear hcz45
           try clear hcz47
           try clear hcz51
           try clear hcz53
           try clear hcz56
           try clear hcz58
           try clear hcz67
           try clear hcz70
           try clear hcz73
           try clear hcz77
           try clear hcz85
           try clear hcz89
           try clear hcz92
           try clear p2
           try clear p6
           try clear p64
           obtain ⟨kq, x84_78, rfl, HA, HJ78, HO_505004, BK502, BK503, BK504, HB⟩ := hcut
           cases kq with
           | zero => exact absurd HA.out (by simp [trivetref16_Of.j3])
           | succ kj78 =>
            have H := HA.out
            clear HA
            simp only [trivetref16_Of.j3] at H
            have HC93 := ka H
            clear H
            go_upto_if 84 with (fail)
            go_cut [] (fun wc => ∃ (kq : Nat) (x505003_92 : Int) (x505004_92 : List Int) (u505004 : Value), Aside0 (trivetref16_Of.j4 kq a0_0 a0_1 a0_2 a0_3 a0_4 l0_5 x505000_31 x505001_31 x505002_31 x505003_92 x505004_92 = some (r1, r2, r3, r4, r5, r6)) ∧ Aside0 (kq ≤ kj78) ∧ Aside0 (Kd.R (Kd.int .i64) 2 wc w.heap.size (fun _ => True) u505004 x505004_92) ∧ Aside0 (wc.heap[gb502]? = some (.cells #[.int .i64 a0_0, .int .i64 a0_1, .int .i64 a0_2, .int .i64 a0_3, .int .i64 a0_4, (.slice A0_5 l0_5.length c0_5)] 24 (0, 0))) ∧ Aside0 (wc.heap[gb503]? = some (.cells #[.int .i64 0, .int .i64 0, .int .i64 0, .int .i64 0, (.slice none 0 0)] 27 (0, 0))) ∧ Aside0 (wc.heap[gb504]? = some (.cells #[.int .i64 x505000_31, .int .i64 x505001_31, .int .i64 x505002_31, .int .i64 x505003_92, u505004] 27 (0, 0))) ∧ Aside0 (Below w.heap.size w wc))
            case first =>
             have H := HC93.out
             clear HC93
             by_cases c94 : x84_78 = true
             ·subst c94
              have H1 : (trivetref16_Of.j4 kj78 a0_0 a0_1 a0_2 a0_3 a0_4 l0_5 x505000_31 x505001_31 x505002_31 x505000_31 y511) = some (r1, r2, r3, r4, r5, r6) := by rw [if_pos rfl] at H; exact H
              clear H
              have H := H1
              clear H1
              have H' := ka H
              clear H
              have hnb95 := NB504_502.out
              have hnc95 := NB502_504.out
              have hnb96 := NB504_503.out
              have hnc96 := NB503_504.out
              have hcz97 := blkAll5 BK504.out
              go_wp2
              go_meet
              case rel => exact ⟨_, (x505000_31), (y511), (.slice Ao82 y511.length co82), H', ⟨by have := HJ3.out; have := HJ31.out; have := HJ58.out; have := HJ78.out; first | omega | exact Nat.le_refl _⟩, ⟨kr (Kd.R_mono (Kd.R_far (p := ⟨gb504, 3, none⟩) (Kd.R_types HO_505004.out BK504.out (by decide)) (fun _ hk => hk.2) (.int .i64 x505000_31)) (fun _ hk => trivial))⟩, ⟨by (with_reducible repeat (first | apply kb1 | apply kb2 | apply kb3)); refine kb4 ?_ NB502_504.out _; (with_reducible repeat (first | apply kb1 | apply kb2 | apply kb3)); exact BK502.out⟩, ⟨by (with_reducible repeat (first | apply kb1 | apply kb2 | apply kb3)); refine kb4 ?_ NB503_504.out _; (with_reducible repeat (first | apply kb1 | apply kb2 | apply kb3)); exact BK503.out⟩, ⟨by (with_reducible repeat (first | apply kb1 | apply kb2 | apply kb3)); refine blk_put (cs := #[.int .i64 x505000_31, .int .i64 x505001_31, .int .i64 x505002_31, .int .i64 0, .slice Ao82 y511.length co82]) ?_ 3 _ rfl; (with_reducible repeat (first | apply kb1 | apply kb2 | apply kb3)); exact BK504.out⟩, ⟨by repeat (first | (with_reducible first | exact HB.out | apply kc1 | apply kc2 | apply kc3 | refine kc4 ?_ GE502.out | refine kc4 ?_ GE503.out | refine kc4 ?_ GE504.out) | exact HB.out)⟩⟩
             ·replace c94 := Bool.eq_false_iff.mpr c94
              subst c94
              have H1 : ((trivetref16_spread.f kj78 y511 x505000_31 12 (-1)).bind fun t514 => (trivetref16_Of.j4 kj78 a0_0 a0_1 a0_2 a0_3 a0_4 l0_5 x505000_31 x505001_31 x505002_31 0 t514)) = some (r1, r2, r3, r4, r5, r6) := by rw [if_neg (show ¬ (false = true) by decide)] at H; exact H
              clear H
              have H := H1
              clear H1
              replace H := Option.bind_eq_some_iff.mp H
              obtain ⟨t514, A980, H⟩ := H
              replace H : (trivetref16_Of.j4 kj78 a0_0 a0_1 a0_2 a0_3 a0_4 l0_5 x505000_31 x505001_31 x505002_31 0 t514) = some (r1, r2, r3, r4, r5, r6) := H
              have A98 := ka A980
              clear A980
              have H' := ka H
              clear H
              have hnb99 := NB504_502.out
              have hnc99 := NB502_504.out
              have hnb100 := NB504_503.out
              have hnc100 := NB503_504.out
              have hcz101 := blkAll5 BK504.out
              go_wp2_with (first | ((with_reducible refine gate_callee (f := 17) rfl ?_); refine kg (some 92) rfl rfl Try.func17 (by kernel_rfl) rfl #[.slice Ao82 y511.length co82, .int .i64 x505000_31, .int .i64 12, .int .i64 (-1)] rfl ?_; (with_reducible refine (trivetref16_spread.calls kj78 (fun k_ => some k_ = (.slice Ao82 y511.length co82 : Value).ownBlock) (.slice Ao82 y511.length co82) y511 x505000_31 12 (-1) t514 w _ ?side1 ?side2 A98.out).mono ?_); (case side1 => repeat (first | (with_reducible first | exact HB.out | apply kc1 | apply kc2 | apply kc3 | refine kc4 ?_ GE502.out | refine kc4 ?_ GE503.out | refine kc4 ?_ GE504.out) | exact HB.out)); (case side2 => exact Kd.R_tight rfl HO_505004.out); rintro e w102 ⟨rfl, hy0, hb, hkp⟩; refine ⟨_, rfl, ?_⟩; replace BK502 := ka (blk_kept (kz BK502.out) hkp (fun hs_ => (fun e_ => (Kd.R_ne HO_505004.out BK502.out (by decide)) e_) hs_)); replace BK503 := ka (blk_kept (kz BK503.out) hkp (fun hs_ => (fun e_ => (Kd.R_ne HO_505004.out BK503.out (by decide)) e_) hs_)); replace BK504 := ka (blk_kept (kz BK504.out) hkp (fun hs_ => (fun e_ => (Kd.R_ne HO_505004.out BK504.out (by decide)) e_) hs_)); replace HO_505004 := ka (Kd.R_reok rfl hy0 (fun k_ e_ => HO_505004.out.1 k_ e_)); replace HB := ka (hb); (try clear hb); (try clear hkp); (try clear hy0)))
              go_meet
              case rel => exact ⟨_, (0), (t514), (.slice Ao82 y511.length co82), H', ⟨by have := HJ3.out; have := HJ31.out; have := HJ58.out; have := HJ78.out; first | omega | exact Nat.le_refl _⟩, ⟨kr HO_505004.out⟩, ⟨by (with_reducible repeat (first | apply kb1 | apply kb2 | apply kb3)); exact BK502.out⟩, ⟨by (with_reducible repeat (first | apply kb1 | apply kb2 | apply kb3)); exact BK503.out⟩, ⟨by (with_reducible repeat (first | apply kb1 | apply kb2 | apply kb3)); exact BK504.out⟩, ⟨by repeat (first | (with_reducible first | exact HB.out | apply kc1 | apply kc2 | apply kc3 | refine kc4 ?_ GE502.out | refine kc4 ?_ GE503.out | refine kc4 ?_ GE504.out) | exact HB.out)⟩⟩
            case rest =>
             clear HC93
             try clear c1
             try clear c2
             try clear p2
             try clear c3
             try clear c4
             try clear c5
             try clear c6
             try clear p6
             try clear c7
             try clear c8
             try clear c8b0
             try clear c9
             try clear c10
             try clear c13
             try clear c15
             try clear c16
             try clear c17
             try clear c18
             try clear c20
             try clear c21
             try clear c23
             try clear c24
             try clear c26
             try clear c27
             try clear c28
             try clear c30
             try clear c33
             try clear c34
             try clear c36
             try clear c36b0
             try clear c37
             try clear c38
             try clear c40
             try clear c42
             try clear c42b0
             try clear c43
             try clear c44
             try clear c46
             try clear c48
             try clear c48b0
             try clear c49
             try clear c50
             try clear c52
             try clear c54
             try clear c55
             try clear c57
             try clear c61
             try clear c63
             try clear p64
             try clear c65
             try clear c66
             try clear c68
             try clear c69
             try clear c71
             try clear c72
             try clear c74
             try clear c75
             try clear c76
             try clear c78
             try clear c78b0
             try clear c78b1
             try clear c83
             try clear c84
             try clear c86
             try clear c86b0
             try clear c87
             try clear c88
             try clear c90
             try clear c91
             try clear c94
             try clear c95
             try clear c96
             try clear c99
             try clear c100
             try clear hcz101
             try clear hcz11
             try clear hcz19
             try clear hcz22
             try clear hcz25
             try clear hcz29
             try clear hcz31
             try clear hcz35
             try clear hcz39
             try clear hcz41
             try clear hcz45
             try clear hcz47
             try clear hcz51
             try clear hcz53
             try clear hcz56
             try clear hcz58
             try clear hcz67
             try clear hcz70
             try clear hcz73
             try clear hcz77
             try clear hcz85
             try clear hcz89
             try clear hcz92
             try clear hcz97
             try clear p2
             try clear p6
             try clear p64
             obtain ⟨kq, x505003_92, x505004_92, u505004, HA, HJ92, HO_505004, BK502, BK503, BK504, HB⟩ := hcut
             cases kq with
             | zero => exact absurd HA.out (by simp [trivetref16_Of.j4])
             | succ kj92 =>
              have H := HA.out
              clear HA
              simp only [trivetref16_Of.j4] at H
              replace H := Option.bind_eq_some_iff.mp H
              obtain ⟨t515, A1030, H⟩ := H
              replace H : (if x505002_31 < a0_1 then ((trivetref16_spread.f kj92 t515 x505002_31 2 1).bind fun t516 => (some (x505000_31, x505001_31, x505002_31, x505003_92, t516, true))) else ((trivetref16_spread.f kj92 t515 x505002_31 12 1).bind fun t517 => (some (x505000_31, x505001_31, x505002_31, x505003_92, t517, true)))) = some (r1, r2, r3, r4, r5, r6) := H
              have A103 := ka A1030
              clear A1030
              by_cases c104 : x505002_31 < a0_1
              ·rw [if_pos c104] at H
               have c104b0 : decide (x505002_31 < a0_1) = true := decide_eq_true c104
               clear c104
               replace H := Option.bind_eq_some_iff.mp H
               obtain ⟨t516, A1050, H⟩ := H
               replace H : (some (x505000_31, x505001_31, x505002_31, x505003_92, t516, true)) = some (r1, r2, r3, r4, r5, r6) := H
               have A105 := ka A1050
               clear A1050
               simp only [Option.some.injEq, Prod.mk.injEq] at H
               obtain ⟨rfl, rfl, rfl, rfl, rfl, rfl⟩ := H
               have hnb106 := NB504_502.out
               have hnc106 := NB502_504.out
               have hnb107 := NB504_503.out
               have hnc107 := NB503_504.out
               have hcz108 := blkAll5 BK504.out
               obtain ⟨Ao109, co109, eo109⟩ := Kd.R_slice HO_505004.out
               subst eo109
               go_wp2_with (first | ((with_reducible refine gate_callee (f := 17) rfl ?_); refine kg (some 97) rfl rfl Try.func17 (by kernel_rfl) rfl #[.slice Ao109 x505004_92.length co109, .int .i64 x505001_31, .int .i64 12, .int .i64 1] rfl ?_; (with_reducible refine (trivetref16_spread.calls kj92 (fun k_ => some k_ = (.slice Ao109 x505004_92.length co109 : Value).ownBlock) (.slice Ao109 x505004_92.length co109) x505004_92 x505001_31 12 1 t515 w _ ?side1 ?side2 A103.out).mono ?_); (case side1 => repeat (first | (with_reducible first | exact HB.out | apply kc1 | apply kc2 | apply kc3 | refine kc4 ?_ GE502.out | refine kc4 ?_ GE503.out | refine kc4 ?_ GE504.out) | exact HB.out)); (case side2 => exact Kd.R_tight rfl HO_505004.out); rintro e w110 ⟨rfl, hy0, hb, hkp⟩; refine ⟨_, rfl, ?_⟩; replace BK502 := ka (blk_kept (kz BK502.out) hkp (fun hs_ => (fun e_ => (Kd.R_ne HO_505004.out BK502.out (by decide)) e_) hs_)); replace BK503 := ka (blk_kept (kz BK503.out) hkp (fun hs_ => (fun e_ => (Kd.R_ne HO_505004.out BK503.out (by decide)) e_) hs_)); replace BK504 := ka (blk_kept (kz BK504.out) hkp (fun hs_ => (fun e_ => (Kd.R_ne HO_505004.out BK504.out (by decide)) e_) hs_)); replace HO_505004 := ka (Kd.R_reok rfl hy0 (fun k_ e_ => HO_505004.out.1 k_ e_)); replace HB := ka (hb); (try clear hb); (try clear hkp); (try clear hy0); have hcz111 := blkAll5 BK504.out; have hnb112 := NB502_503.out; have hnc112 := NB503_502.out; have hcz113 := blkAll6 BK502.out) | ((with_reducible refine gate_callee (f := 17) rfl ?_); refine kg (some 107) rfl rfl Try.func17 (by kernel_rfl) rfl #[.slice Ao109 x505004_92.length co109, .int .i64 x505002_31, .int .i64 2, .int .i64 1] rfl ?_; (with_reducible refine (trivetref16_spread.calls kj92 (fun k_ => some k_ = (.slice Ao109 x505004_92.length co109 : Value).ownBlock) (.slice Ao109 x505004_92.length co109) t515 x505002_31 2 1 t516 w _ ?side1 ?side2 A105.out).mono ?_); (case side1 => repeat (first | (with_reducible first | exact HB.out | apply kc1 | apply kc2 | apply kc3 | refine kc4 ?_ GE502.out | refine kc4 ?_ GE503.out | refine kc4 ?_ GE504.out) | exact HB.out)); (case side2 => exact Kd.R_tight rfl HO_505004.out); rintro e w114 ⟨rfl, hy0, hb, hkp⟩; refine ⟨_, rfl, ?_⟩; replace BK502 := ka (blk_kept (kz BK502.out) hkp (fun hs_ => (fun e_ => (Kd.R_ne HO_505004.out BK502.out (by decide)) e_) hs_)); replace BK503 := ka (blk_kept (kz BK503.out) hkp (fun hs_ => (fun e_ => (Kd.R_ne HO_505004.out BK503.out (by decide)) e_) hs_)); replace BK504 := ka (blk_kept (kz BK504.out) hkp (fun hs_ => (fun e_ => (Kd.R_ne HO_505004.out BK504.out (by decide)) e_) hs_)); replace HO_505004 := ka (Kd.R_reok rfl hy0 (fun k_ e_ => HO_505004.out.1 k_ e_)); replace HB := ka (hb); (try clear hb); (try clear hkp); (try clear hy0); have hcz115 := blkAll5 BK504.out; have hcz116 := blkAll5 BK503.out))
               refine bodyPost_ret (results_ct rfl _ _ gb503 27 #[.int .i64 x505000_31, .int .i64 x505001_31, .int .i64 x505002_31, .int .i64 x505003_92, .slice Ao109 x505004_92.length co109] (0, 0) _ rfl (by (with_reducible repeat (first | apply kb1 | apply kb2 | apply kb3 | apply blkPut5_4 | apply blkPut5_3 | apply blkPut5_2 | apply blkPut5_1 | apply blkPut5_0)); exact BK503.out) Try.underlying27 rfl (by kernel_rfl)) rfl ?_
               exact ⟨_, by first | rfl | (simp [errW_none, errW_some] <;> rfl) | (simp [*, errW_none, errW_some] <;> rfl), by (with_reducible repeat (first | apply Kd.R_alloc | apply Kd.R_drewN | apply Kd.R_drew)); exact Kd.R_mono (Kd.R_far (p := ⟨gb503, 4, none⟩) (Kd.R_far (p := ⟨gb503, 3, none⟩) (Kd.R_far (p := ⟨gb503, 2, none⟩) (Kd.R_far (p := ⟨gb503, 1, none⟩) (Kd.R_far (p := ⟨gb503, 0, none⟩) (Kd.R_types HO_505004.out BK503.out (by decide)) (fun _ hk => hk.2) (.int .i64 x505000_31)) (fun _ hk => hk.2) (.int .i64 x505001_31)) (fun _ hk => hk.2) (.int .i64 x505002_31)) (fun _ hk => hk.2) (.int .i64 x505003_92)) (fun _ hk => hk.2) (.slice Ao109 x505004_92.length co109)) (fun _ hk => trivial), by repeat (first | (with_reducible first | exact HB.out | apply kc1 | apply kc2 | apply kc3 | refine kc4 ?_ GE502.out | refine kc4 ?_ GE503.out | refine kc4 ?_ GE504.out) | exact HB.out)⟩
              ·rw [if_neg c104] at H
               have c104b0 : decide (x505002_31 < a0_1) = false := decide_eq_false c104
               clear c104
               replace H := Option.bind_eq_some_iff.mp H
               obtain ⟨t517, A1170, H⟩ := H
               replace H : (some (x505000_31, x505001_31, x505002_31, x505003_92, t517, true)) = some (r1, r2, r3, r4, r5, r6) := H
               have A117 := ka A1170
               clear A1170
               simp only [Option.some.injEq, Prod.mk.injEq] at H
               obtain ⟨rfl, rfl, rfl, rfl, rfl, rfl⟩ := H
               have hnb118 := NB504_502.out
               have hnc118 := NB502_504.out
               have hnb119 := NB504_503.out
               have hnc119 := NB503_504.out
               have hcz120 := blkAll5 BK504.out
               obtain ⟨Ao121, co121, eo121⟩ := Kd.R_slice HO_505004.out
               subst eo121
               go_wp2_with (first | ((with_reducible refine gate_callee (f := 17) rfl ?_); refine kg (some 97) rfl rfl Try.func17 (by kernel_rfl) rfl #[.slice Ao121 x505004_92.length co121, .int .i64 x505001_31, .int .i64 12, .int .i64 1] rfl ?_; (with_reducible refine (trivetref16_spread.calls kj92 (fun k_ => some k_ = (.slice Ao121 x505004_92.length co121 : Value).ownBlock) (.slice Ao121 x505004_92.length co121) x505004_92 x505001_31 12 1 t515 w _ ?side1 ?side2 A103.out).mono ?_); (case side1 => repeat (first | (with_reducible first | exact HB.out | apply kc1 | apply kc2 | apply kc3 | refine kc4 ?_ GE502.out | refine kc4 ?_ GE503.out | refine kc4 ?_ GE504.out) | exact HB.out)); (case side2 => exact Kd.R_tight rfl HO_505004.out); rintro e w122 ⟨rfl, hy0, hb, hkp⟩; refine ⟨_, rfl, ?_⟩; replace BK502 := ka (blk_kept (kz BK502.out) hkp (fun hs_ => (fun e_ => (Kd.R_ne HO_505004.out BK502.out (by decide)) e_) hs_)); replace BK503 := ka (blk_kept (kz BK503.out) hkp (fun hs_ => (fun e_ => (Kd.R_ne HO_505004.out BK503.out (by decide)) e_) hs_)); replace BK504 := ka (blk_kept (kz BK504.out) hkp (fun hs_ => (fun e_ => (Kd.R_ne HO_505004.out BK504.out (by decide)) e_) hs_)); replace HO_505004 := ka (Kd.R_reok rfl hy0 (fun k_ e_ => HO_505004.out.1 k_ e_)); replace HB := ka (hb); (try clear hb); (try clear hkp); (try clear hy0); have hcz123 := blkAll5 BK504.out; have hnb124 := NB502_503.out; have hnc124 := NB503_502.out; have hcz125 := blkAll6 BK502.out) | ((with_reducible refine gate_callee (f := 17) rfl ?_); refine kg (some 112) rfl rfl Try.func17 (by kernel_rfl) rfl #[.slice Ao121 x505004_92.length co121, .int .i64 x505002_31, .int .i64 12, .int .i64 1] rfl ?_; (with_reducible refine (trivetref16_spread.calls kj92 (fun k_ => some k_ = (.slice Ao121 x505004_92.length co121 : Value).ownBlock) (.slice Ao121 x505004_92.length co121) t515 x505002_31 12 1 t517 w _ ?side1 ?side2 A117.out).mono ?_); (case side1 => repeat (first | (with_reducible first | exact HB.out | apply kc1 | apply kc2 | apply kc3 | refine kc4 ?_ GE502.out | refine kc4 ?_ GE503.out | refine kc4 ?_ GE504.out) | exact HB.out)); (case side2 => exact Kd.R_tight rfl HO_505004.out); rintro e w126 ⟨rfl, hy0, hb, hkp⟩; refine ⟨_, rfl, ?_⟩; replace BK502 := ka (blk_kept (kz BK502.out) hkp (fun hs_ => (fun e_ => (Kd.R_ne HO_505004.out BK502.out (by decide)) e_) hs_)); replace BK503 := ka (blk_kept (kz BK503.out) hkp (fun hs_ => (fun e_ => (Kd.R_ne HO_505004.out BK503.out (by decide)) e_) hs_)); replace BK504 := ka (blk_kept (kz BK504.out) hkp (fun hs_ => (fun e_ => (Kd.R_ne HO_505004.out BK504.out (by decide)) e_) hs_)); replace HO_505004 := ka (Kd.R_reok rfl hy0 (fun k_ e_ => HO_505004.out.1 k_ e_)); replace HB := ka (hb); (try clear hb); (try clear hkp); (try clear hy0); have hcz127 := blkAll5 BK504.out; have hcz128 := blkAll5 BK503.out))
               refine bodyPost_ret (results_ct rfl _ _ gb503 27 #[.int .i64 x505000_31, .int .i64 x505001_31, .int .i64 x505002_31, .int .i64 x505003_92, .slice Ao121 x505004_92.length co121] (0, 0) _ rfl (by (with_reducible repeat (first | apply kb1 | apply kb2 | apply kb3 | apply blkPut5_4 | apply blkPut5_3 | apply blkPut5_2 | apply blkPut5_1 | apply blkPut5_0)); exact BK503.out) Try.underlying27 rfl (by kernel_rfl)) rfl ?_
               exact ⟨_, by first | rfl | (simp [errW_none, errW_some] <;> rfl) | (simp [*, errW_none, errW_some] <;> rfl), by (with_reducible repeat (first | apply Kd.R_alloc | apply Kd.R_drewN | apply Kd.R_drew)); exact Kd.R_mono (Kd.R_far (p := ⟨gb503, 4, none⟩) (Kd.R_far (p := ⟨gb503, 3, none⟩) (Kd.R_far (p := ⟨gb503, 2, none⟩) (Kd.R_far (p := ⟨gb503, 1, none⟩) (Kd.R_far (p := ⟨gb503, 0, none⟩) (Kd.R_types HO_505004.out BK503.out (by decide)) (fun _ hk => hk.2) (.int .i64 x505000_31)) (fun _ hk => hk.2) (.int .i64 x505001_31)) (fun _ hk => hk.2) (.int .i64 x505002_31)) (fun _ hk => hk.2) (.int .i64 x505003_92)) (fun _ hk => hk.2) (.slice Ao121 x505004_92.length co121)) (fun _ hk => trivial), by repeat (first | (with_reducible first | exact HB.out | apply kc1 | apply kc2 | apply kc3 | refine kc4 ?_ GE502.out | refine kc4 ?_ GE503.out | refine kc4 ?_ GE504.out) | exact HB.out)⟩
         ·rw [if_neg c78] at H
          exact absurd H (by simp)

end Go.Proofs.Ytjeghhheenenbaa.P
