-- Written by a program of this session out of the translation of the seat: Lean functions and the proofs that the Go functions come to them.
import Derived.Test.YtimobafoidplaaaPx0
import Derived.Test.YtimobafoidplaaaPx1
import Derived.Test.YtimobafoidplaaaPx13
import Derived.Test.YtimobafoidplaaaPx17
import Derived.Test.YtimobafoidplaaaPx18
namespace Go.Proofs.Ytimobafoidplaaa.P
open Go.RowKit Go.Proofs.YtimobafoidplaaaW.PrintWords Go.Proofs.YtimobafoidplaaaW.PrintLast Go.Proofs.YtimobafoidplaaaW.PrintMore
attribute [local go_sem] max2_int min2_int max_two min_two max_three min_three max_four min_four   -- for this text's walks alone
set_option linter.unusedVariables false
set_option linter.unusedSimpArgs false

attribute [local go_sem high] eqA25
/-! ### trivetlaw13_WaterEnds: function 9 -/
mutual
def trivetlaw13_WaterEnds.j0 : Nat → Int → Int → Bool → Option Int → Int → Int → Int → Int → Int → Int → Int → Int → Int → Int → Int → Int → Int → Int → Int → Int → Int → Int → Int → Int → Int → Int → Int → Int → Int → Int → Int → Int → Int → Int → Option (Bool)
 | 0, _, _, _, _, _, _, _, _, _, _, _, _, _, _, _, _, _, _, _, _, _, _, _, _, _, _, _, _, _, _, _, _, _, _ => none
 | k + 1, x1, x2, x7, x9, x389000, x389001, x389002, x389003, x389004, x389005, x389006, x389007, x389008, x389009, x389010, x389011, x389012, x389013, x389014, x407000, x407001, x407002, x407003, x407004, x407005, x407006, x407007, x407008, x407009, x407010, x407011, x407012, x407013, x407014 => if x2 < 1 then (trivetlaw13_WaterEnds.j1 k x1 x2 x7 x9 true x389000 x389001 x389002 x389003 x389004 x389005 x389006 x389007 x389008 x389009 x389010 x389011 x389012 x389013 x389014 x407000 x407001 x407002 x407003 x407004 x407005 x407006 x407007 x407008 x407009 x407010 x407011 x407012 x407013 x407014) else (trivetlaw13_WaterEnds.j1 k x1 x2 x7 x9 (decide (x2 > 10000000000000)) x389000 x389001 x389002 x389003 x389004 x389005 x389006 x389007 x389008 x389009 x389010 x389011 x389012 x389013 x389014 x407000 x407001 x407002 x407003 x407004 x407005 x407006 x407007 x407008 x407009 x407010 x407011 x407012 x407013 x407014)
def trivetlaw13_WaterEnds.j1 : Nat → Int → Int → Bool → Option Int → Bool → Int → Int → Int → Int → Int → Int → Int → Int → Int → Int → Int → Int → Int → Int → Int → Int → Int → Int → Int → Int → Int → Int → Int → Int → Int → Int → Int → Int → Int → Int → Option (Bool)
 | 0, _, _, _, _, _, _, _, _, _, _, _, _, _, _, _, _, _, _, _, _, _, _, _, _, _, _, _, _, _, _, _, _, _, _, _ => none
 | k + 1, x1, x2, x7, x9, x77, x389000, x389001, x389002, x389003, x389004, x389005, x389006, x389007, x389008, x389009, x389010, x389011, x389012, x389013, x389014, x407000, x407001, x407002, x407003, x407004, x407005, x407006, x407007, x407008, x407009, x407010, x407011, x407012, x407013, x407014 => if x77 = true then (if x7 = true then (if x9.isNone = true then (none) else (if (x9.getD 0) = 1 then (some ((x407000 == 0 && (x407001 == 0 && (x407002 == 0 && (x407003 == 0 && (x407004 == 0 && (x407005 == 0 && (x407006 == 0 && (x407007 == 0 && (x407008 == 0))))))))) && (x407009 == 0 && (x407010 == 0 && (x407011 == 0 && (x407012 == 0 && (x407013 == 0 && (x407014 == 0)))))))) else (none))) else (none)) else (if x389009 = 0 then (trivetlaw13_WaterEnds.j2 k x2 x7 x9 true x389000 x389001 x389002 x389003 x389004 x389005 x389006 x389007 x389008 x389009 x389010 x389011 x389012 x389013 x389014 x407000 x407001 x407002 x407003 x407004 x407005 x407006 x407007 x407008 x407009 x407010 x407011 x407012 x407013 x407014) else (trivetlaw13_WaterEnds.j2 k x2 x7 x9 (decide (x389011 ≤ x1)) x389000 x389001 x389002 x389003 x389004 x389005 x389006 x389007 x389008 x389009 x389010 x389011 x389012 x389013 x389014 x407000 x407001 x407002 x407003 x407004 x407005 x407006 x407007 x407008 x407009 x407010 x407011 x407012 x407013 x407014))
def trivetlaw13_WaterEnds.j2 : Nat → Int → Bool → Option Int → Bool → Int → Int → Int → Int → Int → Int → Int → Int → Int → Int → Int → Int → Int → Int → Int → Int → Int → Int → Int → Int → Int → Int → Int → Int → Int → Int → Int → Int → Int → Int → Option (Bool)
 | 0, _, _, _, _, _, _, _, _, _, _, _, _, _, _, _, _, _, _, _, _, _, _, _, _, _, _, _, _, _, _, _, _, _, _ => none
 | k + 1, x2, x7, x9, x97, x389000, x389001, x389002, x389003, x389004, x389005, x389006, x389007, x389008, x389009, x389010, x389011, x389012, x389013, x389014, x407000, x407001, x407002, x407003, x407004, x407005, x407006, x407007, x407008, x407009, x407010, x407011, x407012, x407013, x407014 => if x97 = true then (if x7 = true then (if x9.isNone = true then (none) else (if (x9.getD 0) = 7 then (some ((x407000 == 0 && (x407001 == 0 && (x407002 == 0 && (x407003 == 0 && (x407004 == 0 && (x407005 == 0 && (x407006 == 0 && (x407007 == 0 && (x407008 == 0))))))))) && (x407009 == 0 && (x407010 == 0 && (x407011 == 0 && (x407012 == 0 && (x407013 == 0 && (x407014 == 0)))))))) else (none))) else (none)) else (if x2 > x389009 then (if x7 = true then (if x9.isNone = true then (none) else (if (x9.getD 0) = 3 then (some ((x407000 == 0 && (x407001 == 0 && (x407002 == 0 && (x407003 == 0 && (x407004 == 0 && (x407005 == 0 && (x407006 == 0 && (x407007 == 0 && (x407008 == 0))))))))) && (x407009 == 0 && (x407010 == 0 && (x407011 == 0 && (x407012 == 0 && (x407013 == 0 && (x407014 == 0)))))))) else (none))) else (none)) else (if x7 = true then (if x9.isNone = true then (some ((x407000 == x389000 && (x407001 == x389001 && (x407002 == x389002 && (x407003 == x389003 && (x407004 == x389004 && (x407005 == x389005 && (x407006 == x389006 && (x407007 == x389007 && (x407008 == x389008))))))))) && (x407009 == (wrap64 (x389009 - x2)) && (x407010 == x389010 && (x407011 == x389011 && (x407012 == x389012 && (x407013 == x389013 && (x407014 == x389014)))))))) else (none)) else (none)))
end
def trivetlaw13_WaterEnds.f (k : Nat) (a0_0 : Int) (a0_1 : Int) (a0_2 : Int) (a0_3 : Int) (a0_4 : Int) (a0_5 : Int) (a0_6 : Int) (a0_7 : Int) (a0_8 : Int) (a0_9 : Int) (a0_10 : Int) (a0_11 : Int) (a0_12 : Int) (a0_13 : Int) (a0_14 : Int) (a1 : Int) (a2 : Int) : Option (Bool) := (trivetlaw13_up_s.f).bind fun t389 => ((water_Curtail_s.f a0_0 a0_1 a0_2 a0_3 a0_4 a0_5 a0_6 a0_7 a0_8 a0_9 a0_10 a0_11 a0_12 a0_13 a0_14 a1 a2).bind fun bt390 => ((water_Payoff_s.f a0_0 a0_1 a0_2 a0_3 a0_4 a0_5 a0_6 a0_7 a0_8 a0_9 a0_10 a0_11 a0_12 a0_13 a0_14 a1).bind fun bt407 => ((trivetref13_Asked_s.f a0_0 a0_1 a0_2 a0_3 a0_4 a0_5 a0_6 a0_7 a0_8 a0_9 a0_10 a0_11 a0_12 a0_13 a0_14 a1 1).bind fun t409 => (if t409 = true then (if a0_9 = 0 then (if bt407.2.isNone = true then (none) else (if (bt407.2.getD 0) = 7 then (if bt407.1 = 0 then (trivetlaw13_WaterEnds.j0 k a1 a2 t389 bt390.2.2.2.2.2.2.2.2.2.2.2.2.2.2.2 a0_0 a0_1 a0_2 a0_3 a0_4 a0_5 a0_6 a0_7 a0_8 a0_9 a0_10 a0_11 a0_12 a0_13 a0_14 bt390.1 bt390.2.1 bt390.2.2.1 bt390.2.2.2.1 bt390.2.2.2.2.1 bt390.2.2.2.2.2.1 bt390.2.2.2.2.2.2.1 bt390.2.2.2.2.2.2.2.1 bt390.2.2.2.2.2.2.2.2.1 bt390.2.2.2.2.2.2.2.2.2.1 bt390.2.2.2.2.2.2.2.2.2.2.1 bt390.2.2.2.2.2.2.2.2.2.2.2.1 bt390.2.2.2.2.2.2.2.2.2.2.2.2.1 bt390.2.2.2.2.2.2.2.2.2.2.2.2.2.1 bt390.2.2.2.2.2.2.2.2.2.2.2.2.2.2.1) else (none)) else (none))) else (if bt407.2.isNone = true then ((trivetref13_Payoff_s.f a0_0 a0_1 a0_2 a0_3 a0_4 a0_5 a0_6 a0_7 a0_8 a0_9 a0_10 a0_11 a0_12 a0_13 a0_14 a1).bind fun t414 => (if bt407.1 = t414 then (trivetlaw13_WaterEnds.j0 k a1 a2 t389 bt390.2.2.2.2.2.2.2.2.2.2.2.2.2.2.2 a0_0 a0_1 a0_2 a0_3 a0_4 a0_5 a0_6 a0_7 a0_8 a0_9 a0_10 a0_11 a0_12 a0_13 a0_14 bt390.1 bt390.2.1 bt390.2.2.1 bt390.2.2.2.1 bt390.2.2.2.2.1 bt390.2.2.2.2.2.1 bt390.2.2.2.2.2.2.1 bt390.2.2.2.2.2.2.2.1 bt390.2.2.2.2.2.2.2.2.1 bt390.2.2.2.2.2.2.2.2.2.1 bt390.2.2.2.2.2.2.2.2.2.2.1 bt390.2.2.2.2.2.2.2.2.2.2.2.1 bt390.2.2.2.2.2.2.2.2.2.2.2.2.1 bt390.2.2.2.2.2.2.2.2.2.2.2.2.2.1 bt390.2.2.2.2.2.2.2.2.2.2.2.2.2.2.1) else (none))) else (none))) else (if t389 = true then (if bt390.2.2.2.2.2.2.2.2.2.2.2.2.2.2.2.isNone = true then (none) else (if (bt390.2.2.2.2.2.2.2.2.2.2.2.2.2.2.2.getD 0) = 1 then (if ((bt390.1 == 0 && (bt390.2.1 == 0 && (bt390.2.2.1 == 0 && (bt390.2.2.2.1 == 0 && (bt390.2.2.2.2.1 == 0 && (bt390.2.2.2.2.2.1 == 0 && (bt390.2.2.2.2.2.2.1 == 0 && (bt390.2.2.2.2.2.2.2.1 == 0 && (bt390.2.2.2.2.2.2.2.2.1 == 0))))))))) && (bt390.2.2.2.2.2.2.2.2.2.1 == 0 && (bt390.2.2.2.2.2.2.2.2.2.2.1 == 0 && (bt390.2.2.2.2.2.2.2.2.2.2.2.1 == 0 && (bt390.2.2.2.2.2.2.2.2.2.2.2.2.1 == 0 && (bt390.2.2.2.2.2.2.2.2.2.2.2.2.2.1 == 0 && (bt390.2.2.2.2.2.2.2.2.2.2.2.2.2.2.1 == 0))))))) = true then (if bt407.2.isNone = true then (none) else (if (bt407.2.getD 0) = 1 then (some (bt407.1 == 0)) else (none))) else (none)) else (none))) else (none))))))
theorem trivetlaw13_WaterEnds.mono_l : ∀ k, (∀ y0 y1 y2 y3 y4 y5 y6 y7 y8 y9 y10 y11 y12 y13 y14 y15 y16 y17 y18 y19 y20 y21 y22 y23 y24 y25 y26 y27 y28 y29 y30 y31 y32 y33, LeO (trivetlaw13_WaterEnds.j0 k y0 y1 y2 y3 y4 y5 y6 y7 y8 y9 y10 y11 y12 y13 y14 y15 y16 y17 y18 y19 y20 y21 y22 y23 y24 y25 y26 y27 y28 y29 y30 y31 y32 y33) (trivetlaw13_WaterEnds.j0 (k + 1) y0 y1 y2 y3 y4 y5 y6 y7 y8 y9 y10 y11 y12 y13 y14 y15 y16 y17 y18 y19 y20 y21 y22 y23 y24 y25 y26 y27 y28 y29 y30 y31 y32 y33)) ∧ (∀ y0 y1 y2 y3 y4 y5 y6 y7 y8 y9 y10 y11 y12 y13 y14 y15 y16 y17 y18 y19 y20 y21 y22 y23 y24 y25 y26 y27 y28 y29 y30 y31 y32 y33 y34, LeO (trivetlaw13_WaterEnds.j1 k y0 y1 y2 y3 y4 y5 y6 y7 y8 y9 y10 y11 y12 y13 y14 y15 y16 y17 y18 y19 y20 y21 y22 y23 y24 y25 y26 y27 y28 y29 y30 y31 y32 y33 y34) (trivetlaw13_WaterEnds.j1 (k + 1) y0 y1 y2 y3 y4 y5 y6 y7 y8 y9 y10 y11 y12 y13 y14 y15 y16 y17 y18 y19 y20 y21 y22 y23 y24 y25 y26 y27 y28 y29 y30 y31 y32 y33 y34)) ∧ (∀ y0 y1 y2 y3 y4 y5 y6 y7 y8 y9 y10 y11 y12 y13 y14 y15 y16 y17 y18 y19 y20 y21 y22 y23 y24 y25 y26 y27 y28 y29 y30 y31 y32 y33, LeO (trivetlaw13_WaterEnds.j2 k y0 y1 y2 y3 y4 y5 y6 y7 y8 y9 y10 y11 y12 y13 y14 y15 y16 y17 y18 y19 y20 y21 y22 y23 y24 y25 y26 y27 y28 y29 y30 y31 y32 y33) (trivetlaw13_WaterEnds.j2 (k + 1) y0 y1 y2 y3 y4 y5 y6 y7 y8 y9 y10 y11 y12 y13 y14 y15 y16 y17 y18 y19 y20 y21 y22 y23 y24 y25 y26 y27 y28 y29 y30 y31 y32 y33))
 | 0 => ⟨fun _ _ _ _ _ _ _ _ _ _ _ _ _ _ _ _ _ _ _ _ _ _ _ _ _ _ _ _ _ _ _ _ _ _ r h => by simp [trivetlaw13_WaterEnds.j0] at h, fun _ _ _ _ _ _ _ _ _ _ _ _ _ _ _ _ _ _ _ _ _ _ _ _ _ _ _ _ _ _ _ _ _ _ _ r h => by simp [trivetlaw13_WaterEnds.j1] at h, fun _ _ _ _ _ _ _ _ _ _ _ _ _ _ _ _ _ _ _ _ _ _ _ _ _ _ _ _ _ _ _ _ _ _ r h => by simp [trivetlaw13_WaterEnds.j2] at h⟩
 | k + 1 => by
  obtain ⟨ih0, ih1, ih2⟩ := trivetlaw13_WaterEnds.mono_l k
  refine ⟨?_, ?_, ?_⟩
  ·intro y0 y1 y2 y3 y4 y5 y6 y7 y8 y9 y10 y11 y12 y13 y14 y15 y16 y17 y18 y19 y20 y21 y22 y23 y24 y25 y26 y27 y28 y29 y30 y31 y32 y33
   unfold trivetlaw13_WaterEnds.j0
   repeat' first
   | (with_reducible exact ih0 _ _ _ _ _ _ _ _ _ _ _ _ _ _ _ _ _ _ _ _ _ _ _ _ _ _ _ _ _ _ _ _ _ _)
   | (with_reducible exact ih1 _ _ _ _ _ _ _ _ _ _ _ _ _ _ _ _ _ _ _ _ _ _ _ _ _ _ _ _ _ _ _ _ _ _ _)
   | (with_reducible exact ih2 _ _ _ _ _ _ _ _ _ _ _ _ _ _ _ _ _ _ _ _ _ _ _ _ _ _ _ _ _ _ _ _ _ _)
   | (with_reducible exact LeO.refl _)
   | (with_reducible exact LeO.none _)
   | (with_reducible refine LeO.ite ?_ ?_)
   | (with_reducible refine LeO.bind ?_ (fun _ => ?_))
   | exact ih0 _ _ _ _ _ _ _ _ _ _ _ _ _ _ _ _ _ _ _ _ _ _ _ _ _ _ _ _ _ _ _ _ _ _
   | exact ih1 _ _ _ _ _ _ _ _ _ _ _ _ _ _ _ _ _ _ _ _ _ _ _ _ _ _ _ _ _ _ _ _ _ _ _
   | exact ih2 _ _ _ _ _ _ _ _ _ _ _ _ _ _ _ _ _ _ _ _ _ _ _ _ _ _ _ _ _ _ _ _ _ _
   | exact LeO.none _
   | refine LeO.ite ?_ ?_
   | refine LeO.bind ?_ (fun _ => ?_)
  ·intro y0 y1 y2 y3 y4 y5 y6 y7 y8 y9 y10 y11 y12 y13 y14 y15 y16 y17 y18 y19 y20 y21 y22 y23 y24 y25 y26 y27 y28 y29 y30 y31 y32 y33 y34
   unfold trivetlaw13_WaterEnds.j1
   repeat' first
   | (with_reducible exact ih0 _ _ _ _ _ _ _ _ _ _ _ _ _ _ _ _ _ _ _ _ _ _ _ _ _ _ _ _ _ _ _ _ _ _)
   | (with_reducible exact ih1 _ _ _ _ _ _ _ _ _ _ _ _ _ _ _ _ _ _ _ _ _ _ _ _ _ _ _ _ _ _ _ _ _ _ _)
   | (with_reducible exact ih2 _ _ _ _ _ _ _ _ _ _ _ _ _ _ _ _ _ _ _ _ _ _ _ _ _ _ _ _ _ _ _ _ _ _)
   | (with_reducible exact LeO.refl _)
   | (with_reducible exact LeO.none _)
   | (with_reducible refine LeO.ite ?_ ?_)
   | (with_reducible refine LeO.bind ?_ (fun _ => ?_))
   | exact ih0 _ _ _ _ _ _ _ _ _ _ _ _ _ _ _ _ _ _ _ _ _ _ _ _ _ _ _ _ _ _ _ _ _ _
   | exact ih1 _ _ _ _ _ _ _ _ _ _ _ _ _ _ _ _ _ _ _ _ _ _ _ _ _ _ _ _ _ _ _ _ _ _ _
   | exact ih2 _ _ _ _ _ _ _ _ _ _ _ _ _ _ _ _ _ _ _ _ _ _ _ _ _ _ _ _ _ _ _ _ _ _
   | exact LeO.none _
   | refine LeO.ite ?_ ?_
   | refine LeO.bind ?_ (fun _ => ?_)
  ·intro y0 y1 y2 y3 y4 y5 y6 y7 y8 y9 y10 y11 y12 y13 y14 y15 y16 y17 y18 y19 y20 y21 y22 y23 y24 y25 y26 y27 y28 y29 y30 y31 y32 y33
   unfold trivetlaw13_WaterEnds.j2
   repeat' first
   | (with_reducible exact ih0 _ _ _ _ _ _ _ _ _ _ _ _ _ _ _ _ _ _ _ _ _ _ _ _ _ _ _ _ _ _ _ _ _ _)
   | (with_reducible exact ih1 _ _ _ _ _ _ _ _ _ _ _ _ _ _ _ _ _ _ _ _ _ _ _ _ _ _ _ _ _ _ _ _ _ _ _)
   | (with_reducible exact ih2 _ _ _ _ _ _ _ _ _ _ _ _ _ _ _ _ _ _ _ _ _ _ _ _ _ _ _ _ _ _ _ _ _ _)
   | (with_reducible exact LeO.refl _)
   | (with_reducible exact LeO.none _)
   | (with_reducible refine LeO.ite ?_ ?_)
   | (with_reducible refine LeO.bind ?_ (fun _ => ?_))
   | exact ih0 _ _ _ _ _ _ _ _ _ _ _ _ _ _ _ _ _ _ _ _ _ _ _ _ _ _ _ _ _ _ _ _ _ _
   | exact ih1 _ _ _ _ _ _ _ _ _ _ _ _ _ _ _ _ _ _ _ _ _ _ _ _ _ _ _ _ _ _ _ _ _ _ _
   | exact ih2 _ _ _ _ _ _ _ _ _ _ _ _ _ _ _ _ _ _ _ _ _ _ _ _ _ _ _ _ _ _ _ _ _ _
   | exact LeO.none _
   | refine LeO.ite ?_ ?_
   | refine LeO.bind ?_ (fun _ => ?_)
theorem trivetlaw13_WaterEnds.mono : ∀ a0 a1 a2 a3 a4 a5 a6 a7 a8 a9 a10 a11 a12 a13 a14 a15 a16 k, LeO (trivetlaw13_WaterEnds.f k a0 a1 a2 a3 a4 a5 a6 a7 a8 a9 a10 a11 a12 a13 a14 a15 a16) (trivetlaw13_WaterEnds.f (k + 1) a0 a1 a2 a3 a4 a5 a6 a7 a8 a9 a10 a11 a12 a13 a14 a15 a16) := by
 intro a0 a1 a2 a3 a4 a5 a6 a7 a8 a9 a10 a11 a12 a13 a14 a15 a16 k
 obtain ⟨ih0, ih1, ih2⟩ := trivetlaw13_WaterEnds.mono_l k
 unfold trivetlaw13_WaterEnds.f
 repeat' first
   | (with_reducible exact ih0 _ _ _ _ _ _ _ _ _ _ _ _ _ _ _ _ _ _ _ _ _ _ _ _ _ _ _ _ _ _ _ _ _ _)
   | (with_reducible exact ih1 _ _ _ _ _ _ _ _ _ _ _ _ _ _ _ _ _ _ _ _ _ _ _ _ _ _ _ _ _ _ _ _ _ _ _)
   | (with_reducible exact ih2 _ _ _ _ _ _ _ _ _ _ _ _ _ _ _ _ _ _ _ _ _ _ _ _ _ _ _ _ _ _ _ _ _ _)
   | (with_reducible exact LeO.refl _)
   | (with_reducible exact LeO.none _)
   | (with_reducible refine LeO.ite ?_ ?_)
   | (with_reducible refine LeO.bind ?_ (fun _ => ?_))
   | exact ih0 _ _ _ _ _ _ _ _ _ _ _ _ _ _ _ _ _ _ _ _ _ _ _ _ _ _ _ _ _ _ _ _ _ _
   | exact ih1 _ _ _ _ _ _ _ _ _ _ _ _ _ _ _ _ _ _ _ _ _ _ _ _ _ _ _ _ _ _ _ _ _ _ _
   | exact ih2 _ _ _ _ _ _ _ _ _ _ _ _ _ _ _ _ _ _ _ _ _ _ _ _ _ _ _ _ _ _ _ _ _ _
   | exact LeO.none _
   | refine LeO.ite ?_ ?_
   | refine LeO.bind ?_ (fun _ => ?_)
set_option maxHeartbeats 8000000 in
set_option maxRecDepth 100000 in
theorem trivetlaw13_WaterEnds.calls (k : Nat) (a0_0 : Int) (a0_1 : Int) (a0_2 : Int) (a0_3 : Int) (a0_4 : Int) (a0_5 : Int) (a0_6 : Int) (a0_7 : Int) (a0_8 : Int) (a0_9 : Int) (a0_10 : Int) (a0_11 : Int) (a0_12 : Int) (a0_13 : Int) (a0_14 : Int) (a1 : Int) (a2 : Int) (r : Bool) (w : World) (h : trivetlaw13_WaterEnds.f k a0_0 a0_1 a0_2 a0_3 a0_4 a0_5 a0_6 a0_7 a0_8 a0_9 a0_10 a0_11 a0_12 a0_13 a0_14 a1 a2 = some r) :
  Calls Try.prog 9 #[.agg #[.int .i64 a0_0, .int .i64 a0_1, .int .i64 a0_2, .int .i64 a0_3, .int .i64 a0_4, .int .i64 a0_5, .int .i64 a0_6, .int .i64 a0_7, .int .i64 a0_8, .int .i64 a0_9, .int .i64 a0_10, .int .i64 a0_11, .int .i64 a0_12, .int .i64 a0_13, .int .i64 a0_14], .int .i64 a1, .int .i64 a2] w fun e w' => e = .returned (.bool r) ∧ Below w.heap.size w w' := by
 have hu25 := Try.underlying25
 have hu30 := Try.underlying30
 have hu34 := Try.underlying34
 have HB := ka (Below.refl w.heap.size w)
 have H : ((trivetlaw13_up_s.f).bind fun t389 => ((water_Curtail_s.f a0_0 a0_1 a0_2 a0_3 a0_4 a0_5 a0_6 a0_7 a0_8 a0_9 a0_10 a0_11 a0_12 a0_13 a0_14 a1 a2).bind fun bt390 => ((water_Payoff_s.f a0_0 a0_1 a0_2 a0_3 a0_4 a0_5 a0_6 a0_7 a0_8 a0_9 a0_10 a0_11 a0_12 a0_13 a0_14 a1).bind fun bt407 => ((trivetref13_Asked_s.f a0_0 a0_1 a0_2 a0_3 a0_4 a0_5 a0_6 a0_7 a0_8 a0_9 a0_10 a0_11 a0_12 a0_13 a0_14 a1 1).bind fun t409 => (if t409 = true then (if a0_9 = 0 then (if bt407.2.isNone = true then (none) else (if (bt407.2.getD 0) = 7 then (if bt407.1 = 0 then (trivetlaw13_WaterEnds.j0 k a1 a2 t389 bt390.2.2.2.2.2.2.2.2.2.2.2.2.2.2.2 a0_0 a0_1 a0_2 a0_3 a0_4 a0_5 a0_6 a0_7 a0_8 a0_9 a0_10 a0_11 a0_12 a0_13 a0_14 bt390.1 bt390.2.1 bt390.2.2.1 bt390.2.2.2.1 bt390.2.2.2.2.1 bt390.2.2.2.2.2.1 bt390.2.2.2.2.2.2.1 bt390.2.2.2.2.2.2.2.1 bt390.2.2.2.2.2.2.2.2.1 bt390.2.2.2.2.2.2.2.2.2.1 bt390.2.2.2.2.2.2.2.2.2.2.1 bt390.2.2.2.2.2.2.2.2.2.2.2.1 bt390.2.2.2.2.2.2.2.2.2.2.2.2.1 bt390.2.2.2.2.2.2.2.2.2.2.2.2.2.1 bt390.2.2.2.2.2.2.2.2.2.2.2.2.2.2.1) else (none)) else (none))) else (if bt407.2.isNone = true then ((trivetref13_Payoff_s.f a0_0 a0_1 a0_2 a0_3 a0_4 a0_5 a0_6 a0_7 a0_8 a0_9 a0_10 a0_11 a0_12 a0_13 a0_14 a1).bind fun t414 => (if bt407.1 = t414 then (trivetlaw13_WaterEnds.j0 k a1 a2 t389 bt390.2.2.2.2.2.2.2.2.2.2.2.2.2.2.2 a0_0 a0_1 a0_2 a0_3 a0_4 a0_5 a0_6 a0_7 a0_8 a0_9 a0_10 a0_11 a0_12 a0_13 a0_14 bt390.1 bt390.2.1 bt390.2.2.1 bt390.2.2.2.1 bt390.2.2.2.2.1 bt390.2.2.2.2.2.1 bt390.2.2.2.2.2.2.1 bt390.2.2.2.2.2.2.2.1 bt390.2.2.2.2.2.2.2.2.1 bt390.2.2.2.2.2.2.2.2.2.1 bt390.2.2.2.2.2.2.2.2.2.2.1 bt390.2.2.2.2.2.2.2.2.2.2.2.1 bt390.2.2.2.2.2.2.2.2.2.2.2.2.1 bt390.2.2.2.2.2.2.2.2.2.2.2.2.2.1 bt390.2.2.2.2.2.2.2.2.2.2.2.2.2.2.1) else (none))) else (none))) else (if t389 = true then (if bt390.2.2.2.2.2.2.2.2.2.2.2.2.2.2.2.isNone = true then (none) else (if (bt390.2.2.2.2.2.2.2.2.2.2.2.2.2.2.2.getD 0) = 1 then (if ((bt390.1 == 0 && (bt390.2.1 == 0 && (bt390.2.2.1 == 0 && (bt390.2.2.2.1 == 0 && (bt390.2.2.2.2.1 == 0 && (bt390.2.2.2.2.2.1 == 0 && (bt390.2.2.2.2.2.2.1 == 0 && (bt390.2.2.2.2.2.2.2.1 == 0 && (bt390.2.2.2.2.2.2.2.2.1 == 0))))))))) && (bt390.2.2.2.2.2.2.2.2.2.1 == 0 && (bt390.2.2.2.2.2.2.2.2.2.2.1 == 0 && (bt390.2.2.2.2.2.2.2.2.2.2.2.1 == 0 && (bt390.2.2.2.2.2.2.2.2.2.2.2.2.1 == 0 && (bt390.2.2.2.2.2.2.2.2.2.2.2.2.2.1 == 0 && (bt390.2.2.2.2.2.2.2.2.2.2.2.2.2.2.1 == 0))))))) = true then (if bt407.2.isNone = true then (none) else (if (bt407.2.getD 0) = 1 then (some (bt407.1 == 0)) else (none))) else (none)) else (none))) else (none))))))) = some r := h
 clear h
 replace H := Option.bind_eq_some_iff.mp H
 obtain ⟨t389, A40, H⟩ := H
 replace H : ((water_Curtail_s.f a0_0 a0_1 a0_2 a0_3 a0_4 a0_5 a0_6 a0_7 a0_8 a0_9 a0_10 a0_11 a0_12 a0_13 a0_14 a1 a2).bind fun bt390 => ((water_Payoff_s.f a0_0 a0_1 a0_2 a0_3 a0_4 a0_5 a0_6 a0_7 a0_8 a0_9 a0_10 a0_11 a0_12 a0_13 a0_14 a1).bind fun bt407 => ((trivetref13_Asked_s.f a0_0 a0_1 a0_2 a0_3 a0_4 a0_5 a0_6 a0_7 a0_8 a0_9 a0_10 a0_11 a0_12 a0_13 a0_14 a1 1).bind fun t409 => (if t409 = true then (if a0_9 = 0 then (if bt407.2.isNone = true then (none) else (if (bt407.2.getD 0) = 7 then (if bt407.1 = 0 then (trivetlaw13_WaterEnds.j0 k a1 a2 t389 bt390.2.2.2.2.2.2.2.2.2.2.2.2.2.2.2 a0_0 a0_1 a0_2 a0_3 a0_4 a0_5 a0_6 a0_7 a0_8 a0_9 a0_10 a0_11 a0_12 a0_13 a0_14 bt390.1 bt390.2.1 bt390.2.2.1 bt390.2.2.2.1 bt390.2.2.2.2.1 bt390.2.2.2.2.2.1 bt390.2.2.2.2.2.2.1 bt390.2.2.2.2.2.2.2.1 bt390.2.2.2.2.2.2.2.2.1 bt390.2.2.2.2.2.2.2.2.2.1 bt390.2.2.2.2.2.2.2.2.2.2.1 bt390.2.2.2.2.2.2.2.2.2.2.2.1 bt390.2.2.2.2.2.2.2.2.2.2.2.2.1 bt390.2.2.2.2.2.2.2.2.2.2.2.2.2.1 bt390.2.2.2.2.2.2.2.2.2.2.2.2.2.2.1) else (none)) else (none))) else (if bt407.2.isNone = true then ((trivetref13_Payoff_s.f a0_0 a0_1 a0_2 a0_3 a0_4 a0_5 a0_6 a0_7 a0_8 a0_9 a0_10 a0_11 a0_12 a0_13 a0_14 a1).bind fun t414 => (if bt407.1 = t414 then (trivetlaw13_WaterEnds.j0 k a1 a2 t389 bt390.2.2.2.2.2.2.2.2.2.2.2.2.2.2.2 a0_0 a0_1 a0_2 a0_3 a0_4 a0_5 a0_6 a0_7 a0_8 a0_9 a0_10 a0_11 a0_12 a0_13 a0_14 bt390.1 bt390.2.1 bt390.2.2.1 bt390.2.2.2.1 bt390.2.2.2.2.1 bt390.2.2.2.2.2.1 bt390.2.2.2.2.2.2.1 bt390.2.2.2.2.2.2.2.1 bt390.2.2.2.2.2.2.2.2.1 bt390.2.2.2.2.2.2.2.2.2.1 bt390.2.2.2.2.2.2.2.2.2.2.1 bt390.2.2.2.2.2.2.2.2.2.2.2.1 bt390.2.2.2.2.2.2.2.2.2.2.2.2.1 bt390.2.2.2.2.2.2.2.2.2.2.2.2.2.1 bt390.2.2.2.2.2.2.2.2.2.2.2.2.2.2.1) else (none))) else (none))) else (if t389 = true then (if bt390.2.2.2.2.2.2.2.2.2.2.2.2.2.2.2.isNone = true then (none) else (if (bt390.2.2.2.2.2.2.2.2.2.2.2.2.2.2.2.getD 0) = 1 then (if ((bt390.1 == 0 && (bt390.2.1 == 0 && (bt390.2.2.1 == 0 && (bt390.2.2.2.1 == 0 && (bt390.2.2.2.2.1 == 0 && (bt390.2.2.2.2.2.1 == 0 && (bt390.2.2.2.2.2.2.1 == 0 && (bt390.2.2.2.2.2.2.2.1 == 0 && (bt390.2.2.2.2.2.2.2.2.1 == 0))))))))) && (bt390.2.2.2.2.2.2.2.2.2.1 == 0 && (bt390.2.2.2.2.2.2.2.2.2.2.1 == 0 && (bt390.2.2.2.2.2.2.2.2.2.2.2.1 == 0 && (bt390.2.2.2.2.2.2.2.2.2.2.2.2.1 == 0 && (bt390.2.2.2.2.2.2.2.2.2.2.2.2.2.1 == 0 && (bt390.2.2.2.2.2.2.2.2.2.2.2.2.2.2.1 == 0))))))) = true then (if bt407.2.isNone = true then (none) else (if (bt407.2.getD 0) = 1 then (some (bt407.1 == 0)) else (none))) else (none)) else (none))) else (none)))))) = some r := H
 have A4 := ka A40
 clear A40
 replace H := Option.bind_eq_some_iff.mp H
 obtain ⟨⟨t390, t391, t392, t393, t394, t395, t396, t397, t398, t399, t400, t401, t402, t403, t404, t405⟩, A50, H⟩ := H
 replace H : ((water_Payoff_s.f a0_0 a0_1 a0_2 a0_3 a0_4 a0_5 a0_6 a0_7 a0_8 a0_9 a0_10 a0_11 a0_12 a0_13 a0_14 a1).bind fun bt407 => ((trivetref13_Asked_s.f a0_0 a0_1 a0_2 a0_3 a0_4 a0_5 a0_6 a0_7 a0_8 a0_9 a0_10 a0_11 a0_12 a0_13 a0_14 a1 1).bind fun t409 => (if t409 = true then (if a0_9 = 0 then (if bt407.2.isNone = true then (none) else (if (bt407.2.getD 0) = 7 then (if bt407.1 = 0 then (trivetlaw13_WaterEnds.j0 k a1 a2 t389 t405 a0_0 a0_1 a0_2 a0_3 a0_4 a0_5 a0_6 a0_7 a0_8 a0_9 a0_10 a0_11 a0_12 a0_13 a0_14 t390 t391 t392 t393 t394 t395 t396 t397 t398 t399 t400 t401 t402 t403 t404) else (none)) else (none))) else (if bt407.2.isNone = true then ((trivetref13_Payoff_s.f a0_0 a0_1 a0_2 a0_3 a0_4 a0_5 a0_6 a0_7 a0_8 a0_9 a0_10 a0_11 a0_12 a0_13 a0_14 a1).bind fun t414 => (if bt407.1 = t414 then (trivetlaw13_WaterEnds.j0 k a1 a2 t389 t405 a0_0 a0_1 a0_2 a0_3 a0_4 a0_5 a0_6 a0_7 a0_8 a0_9 a0_10 a0_11 a0_12 a0_13 a0_14 t390 t391 t392 t393 t394 t395 t396 t397 t398 t399 t400 t401 t402 t403 t404) else (none))) else (none))) else (if t389 = true then (if t405.isNone = true then (none) else (if (t405.getD 0) = 1 then (if ((t390 == 0 && (t391 == 0 && (t392 == 0 && (t393 == 0 && (t394 == 0 && (t395 == 0 && (t396 == 0 && (t397 == 0 && (t398 == 0))))))))) && (t399 == 0 && (t400 == 0 && (t401 == 0 && (t402 == 0 && (t403 == 0 && (t404 == 0))))))) = true then (if bt407.2.isNone = true then (none) else (if (bt407.2.getD 0) = 1 then (some (bt407.1 == 0)) else (none))) else (none)) else (none))) else (none))))) = some r := H
 have A5 := ka A50
 clear A50
 replace H := Option.bind_eq_some_iff.mp H
 obtain ⟨⟨t407, t408⟩, A60, H⟩ := H
 replace H : ((trivetref13_Asked_s.f a0_0 a0_1 a0_2 a0_3 a0_4 a0_5 a0_6 a0_7 a0_8 a0_9 a0_10 a0_11 a0_12 a0_13 a0_14 a1 1).bind fun t409 => (if t409 = true then (if a0_9 = 0 then (if t408.isNone = true then (none) else (if (t408.getD 0) = 7 then (if t407 = 0 then (trivetlaw13_WaterEnds.j0 k a1 a2 t389 t405 a0_0 a0_1 a0_2 a0_3 a0_4 a0_5 a0_6 a0_7 a0_8 a0_9 a0_10 a0_11 a0_12 a0_13 a0_14 t390 t391 t392 t393 t394 t395 t396 t397 t398 t399 t400 t401 t402 t403 t404) else (none)) else (none))) else (if t408.isNone = true then ((trivetref13_Payoff_s.f a0_0 a0_1 a0_2 a0_3 a0_4 a0_5 a0_6 a0_7 a0_8 a0_9 a0_10 a0_11 a0_12 a0_13 a0_14 a1).bind fun t414 => (if t407 = t414 then (trivetlaw13_WaterEnds.j0 k a1 a2 t389 t405 a0_0 a0_1 a0_2 a0_3 a0_4 a0_5 a0_6 a0_7 a0_8 a0_9 a0_10 a0_11 a0_12 a0_13 a0_14 t390 t391 t392 t393 t394 t395 t396 t397 t398 t399 t400 t401 t402 t403 t404) else (none))) else (none))) else (if t389 = true then (if t405.isNone = true then (none) else (if (t405.getD 0) = 1 then (if ((t390 == 0 && (t391 == 0 && (t392 == 0 && (t393 == 0 && (t394 == 0 && (t395 == 0 && (t396 == 0 && (t397 == 0 && (t398 == 0))))))))) && (t399 == 0 && (t400 == 0 && (t401 == 0 && (t402 == 0 && (t403 == 0 && (t404 == 0))))))) = true then (if t408.isNone = true then (none) else (if (t408.getD 0) = 1 then (some (t407 == 0)) else (none))) else (none)) else (none))) else (none)))) = some r := H
 have A6 := ka A60
 clear A60
 replace H := Option.bind_eq_some_iff.mp H
 obtain ⟨t409, A70, H⟩ := H
 replace H : (if t409 = true then (if a0_9 = 0 then (if t408.isNone = true then (none) else (if (t408.getD 0) = 7 then (if t407 = 0 then (trivetlaw13_WaterEnds.j0 k a1 a2 t389 t405 a0_0 a0_1 a0_2 a0_3 a0_4 a0_5 a0_6 a0_7 a0_8 a0_9 a0_10 a0_11 a0_12 a0_13 a0_14 t390 t391 t392 t393 t394 t395 t396 t397 t398 t399 t400 t401 t402 t403 t404) else (none)) else (none))) else (if t408.isNone = true then ((trivetref13_Payoff_s.f a0_0 a0_1 a0_2 a0_3 a0_4 a0_5 a0_6 a0_7 a0_8 a0_9 a0_10 a0_11 a0_12 a0_13 a0_14 a1).bind fun t414 => (if t407 = t414 then (trivetlaw13_WaterEnds.j0 k a1 a2 t389 t405 a0_0 a0_1 a0_2 a0_3 a0_4 a0_5 a0_6 a0_7 a0_8 a0_9 a0_10 a0_11 a0_12 a0_13 a0_14 t390 t391 t392 t393 t394 t395 t396 t397 t398 t399 t400 t401 t402 t403 t404) else (none))) else (none))) else (if t389 = true then (if t405.isNone = true then (none) else (if (t405.getD 0) = 1 then (if ((t390 == 0 && (t391 == 0 && (t392 == 0 && (t393 == 0 && (t394 == 0 && (t395 == 0 && (t396 == 0 && (t397 == 0 && (t398 == 0))))))))) && (t399 == 0 && (t400 == 0 && (t401 == 0 && (t402 == 0 && (t403 == 0 && (t404 == 0))))))) = true then (if t408.isNone = true then (none) else (if (t408.getD 0) = 1 then (some (t407 == 0)) else (none))) else (none)) else (none))) else (none))) = some r := H
 have A7 := ka A70
 clear A70
 by_cases c8 : t409 = true
 ·subst c8
  have H1 : (if a0_9 = 0 then (if t408.isNone = true then (none) else (if (t408.getD 0) = 7 then (if t407 = 0 then (trivetlaw13_WaterEnds.j0 k a1 a2 t389 t405 a0_0 a0_1 a0_2 a0_3 a0_4 a0_5 a0_6 a0_7 a0_8 a0_9 a0_10 a0_11 a0_12 a0_13 a0_14 t390 t391 t392 t393 t394 t395 t396 t397 t398 t399 t400 t401 t402 t403 t404) else (none)) else (none))) else (if t408.isNone = true then ((trivetref13_Payoff_s.f a0_0 a0_1 a0_2 a0_3 a0_4 a0_5 a0_6 a0_7 a0_8 a0_9 a0_10 a0_11 a0_12 a0_13 a0_14 a1).bind fun t414 => (if t407 = t414 then (trivetlaw13_WaterEnds.j0 k a1 a2 t389 t405 a0_0 a0_1 a0_2 a0_3 a0_4 a0_5 a0_6 a0_7 a0_8 a0_9 a0_10 a0_11 a0_12 a0_13 a0_14 t390 t391 t392 t393 t394 t395 t396 t397 t398 t399 t400 t401 t402 t403 t404) else (none))) else (none))) = some r := by rw [if_pos rfl] at H; exact H
  clear H
  have H := H1
  clear H1
  have HC9 := ka H
  clear H
  go_enter Try.func9, Try.ntmps9
  go_upto_if 55 with (first | ((with_reducible refine gate_dst (N := 3) rfl ?_); refine kx (N := 3) (cs := #[.int .i64 a0_0, .int .i64 a0_1, .int .i64 a0_2, .int .i64 a0_3, .int .i64 a0_4, .int .i64 a0_5, .int .i64 a0_6, .int .i64 a0_7, .int .i64 a0_8, .int .i64 a0_9, .int .i64 a0_10, .int .i64 a0_11, .int .i64 a0_12, .int .i64 a0_13, .int .i64 a0_14]) (t := 25) ?_; intro gb388 hg w10 hbox hb; have n0_ := ka (below_step (kw HB.out) hb); have n1_ := ka (hbox); have n2_ := ka ((by rw [hg]; exact (below_size (kw HB.out)) : w.heap.size ≤ gb388)); have n3_ := n2_; clear HB; have HB := n0_; have BK388 := n1_; have GW388 := n2_; have GE388 := n3_; clear n0_ n1_ n2_ n3_; clear hb hbox hg) | ((with_reducible refine gate_callee (f := 10) rfl ?_); refine kg (some 14) rfl rfl Try.func10 (by kernel_rfl) rfl #[] rfl ?_; (with_reducible refine (trivetlaw13_up_s.calls  t389 _ A4.out).mono ?_); rintro e w11 ⟨rfl, hb⟩; refine ⟨_, rfl, ?_⟩; have n0_ := ka (blk_below (g := gb388) (kz BK388.out) hb); have n1_ := ka (below_step (kw HB.out) hb); clear BK388; clear HB; have BK388 := n0_; have HB := n1_; clear n0_ n1_; (try clear hb); (try clear hb2); (try clear hk); (try clear hi); have hcz12 := blkAll15 BK388.out) | ((with_reducible refine gate_callee (f := 18) rfl ?_); refine kg (some 19) rfl rfl Try.func18 (by kernel_rfl) rfl #[.agg #[.int .i64 a0_0, .int .i64 a0_1, .int .i64 a0_2, .int .i64 a0_3, .int .i64 a0_4, .int .i64 a0_5, .int .i64 a0_6, .int .i64 a0_7, .int .i64 a0_8, .int .i64 a0_9, .int .i64 a0_10, .int .i64 a0_11, .int .i64 a0_12, .int .i64 a0_13, .int .i64 a0_14], .int .i64 a1, .int .i64 a2] rfl ?_; (with_reducible refine (water_Curtail_s.calls a0_0 a0_1 a0_2 a0_3 a0_4 a0_5 a0_6 a0_7 a0_8 a0_9 a0_10 a0_11 a0_12 a0_13 a0_14 a1 a2 t390 t391 t392 t393 t394 t395 t396 t397 t398 t399 t400 t401 t402 t403 t404 t405 _ A5.out).mono ?_); rintro e w13 ⟨rfl, hb⟩; refine ⟨_, rfl, ?_⟩; have n0_ := ka (blk_below (g := gb388) (kz BK388.out) hb); have n1_ := ka (below_step (kw HB.out) hb); clear BK388; clear HB; have BK388 := n0_; have HB := n1_; clear n0_ n1_; (try clear hb); (try clear hb2); (try clear hk); (try clear hi); (try simp only [errW_none, errW_some])) | ((with_reducible refine gate_dst (N := 8) rfl ?_); refine kx (N := 8) (cs := #[.int .i64 0, .int .i64 0, .int .i64 0, .int .i64 0, .int .i64 0, .int .i64 0, .int .i64 0, .int .i64 0, .int .i64 0, .int .i64 0, .int .i64 0, .int .i64 0, .int .i64 0, .int .i64 0, .int .i64 0]) (t := 25) ?_; intro gb406 hg w14 hbox hb; have n0_ := ka (blk_below (g := gb388) (kz BK388.out) hb); have n1_ := ka (below_step (kw HB.out) hb); have n2_ := ka (hbox); have n3_ := ka ((by rw [hg]; exact (below_size (kw HB.out)) : w.heap.size ≤ gb406)); have n4_ := n3_; have n5_ := ka ((by rw [hg]; exact Nat.ne_of_lt (blk_lt (g := gb388) (kz BK388.out)) : gb388 ≠ gb406)); have n6_ := ka n5_.out.symm; clear BK388; clear HB; have BK388 := n0_; have HB := n1_; have BK406 := n2_; have GW406 := n3_; have GE406 := n4_; have NB388_406 := n5_; have NB406_388 := n6_; clear n0_ n1_ n2_ n3_ n4_ n5_ n6_; clear hb hbox hg; have hnb15 := NB406_388.out; have hnc15 := NB388_406.out; have hcz16 := blkAll15 BK406.out; have hcz17 := blkAll15 BK388.out) | ((with_reducible refine gate_callee (f := 17) rfl ?_); refine kg (some 25) rfl rfl Try.func17 (by kernel_rfl) rfl #[.agg #[.int .i64 a0_0, .int .i64 a0_1, .int .i64 a0_2, .int .i64 a0_3, .int .i64 a0_4, .int .i64 a0_5, .int .i64 a0_6, .int .i64 a0_7, .int .i64 a0_8, .int .i64 a0_9, .int .i64 a0_10, .int .i64 a0_11, .int .i64 a0_12, .int .i64 a0_13, .int .i64 a0_14], .int .i64 a1] rfl ?_; (with_reducible refine (water_Payoff_s.calls a0_0 a0_1 a0_2 a0_3 a0_4 a0_5 a0_6 a0_7 a0_8 a0_9 a0_10 a0_11 a0_12 a0_13 a0_14 a1 t407 t408 _ A6.out).mono ?_); rintro e w18 ⟨rfl, hb⟩; refine ⟨_, rfl, ?_⟩; have n0_ := ka (blk_below (g := gb388) (o := .cells #[.int .i64 a0_0, .int .i64 a0_1, .int .i64 a0_2, .int .i64 a0_3, .int .i64 a0_4, .int .i64 a0_5, .int .i64 a0_6, .int .i64 a0_7, .int .i64 a0_8, .int .i64 a0_9, .int .i64 a0_10, .int .i64 a0_11, .int .i64 a0_12, .int .i64 a0_13, .int .i64 a0_14] 25 (0, 0)) (by (with_reducible repeat (first | apply kb1 | apply kb2 | apply kb3 | refine kb4 ?_ NB388_406.out _)); exact BK388.out) hb); have n1_ := ka (blk_below (g := gb406) (o := .cells #[.int .i64 t390, .int .i64 t391, .int .i64 t392, .int .i64 t393, .int .i64 t394, .int .i64 t395, .int .i64 t396, .int .i64 t397, .int .i64 t398, .int .i64 t399, .int .i64 t400, .int .i64 t401, .int .i64 t402, .int .i64 t403, .int .i64 t404] 25 (0, 0)) (by (with_reducible repeat (first | apply kb1 | apply kb2 | apply kb3 | apply blkPut15_14 | apply blkPut15_13 | apply blkPut15_12 | apply blkPut15_11 | apply blkPut15_10 | apply blkPut15_9 | apply blkPut15_8 | apply blkPut15_7 | apply blkPut15_6 | apply blkPut15_5 | apply blkPut15_4 | apply blkPut15_3 | apply blkPut15_2 | apply blkPut15_1 | apply blkPut15_0)); exact BK406.out) hb); have n2_ := ka (below_step (kw HB.out) hb); clear BK388; clear BK406; clear HB; have BK388 := n0_; have BK406 := n1_; have HB := n2_; clear n0_ n1_ n2_; (try clear hb); (try clear hb2); (try clear hk); (try clear hi); (try simp only [errW_none, errW_some]); have hcz19 := blkAll15 BK388.out) | ((with_reducible refine gate_callee (f := 12) rfl ?_); refine kg (some 30) rfl rfl Try.func12 (by kernel_rfl) rfl #[.agg #[.int .i64 a0_0, .int .i64 a0_1, .int .i64 a0_2, .int .i64 a0_3, .int .i64 a0_4, .int .i64 a0_5, .int .i64 a0_6, .int .i64 a0_7, .int .i64 a0_8, .int .i64 a0_9, .int .i64 a0_10, .int .i64 a0_11, .int .i64 a0_12, .int .i64 a0_13, .int .i64 a0_14], .int .i64 a1, .int .i64 1] rfl ?_; (with_reducible refine (trivetref13_Asked_s.calls a0_0 a0_1 a0_2 a0_3 a0_4 a0_5 a0_6 a0_7 a0_8 a0_9 a0_10 a0_11 a0_12 a0_13 a0_14 a1 1 true _ A7.out).mono ?_); rintro e w20 ⟨rfl, hb⟩; refine ⟨_, rfl, ?_⟩; have n0_ := ka (blk_below (g := gb388) (kz BK388.out) hb); have n1_ := ka (blk_below (g := gb406) (kz BK406.out) hb); have n2_ := ka (below_step (kw HB.out) hb); clear BK388; clear BK406; clear HB; have BK388 := n0_; have BK406 := n1_; have HB := n2_; clear n0_ n1_ n2_; (try clear hb); (try clear hb2); (try clear hk); (try clear hi); have hcz21 := blkAll15 BK388.out) | ((with_reducible refine gate_load (T := 25) rfl ?_); first | refine load_event (g := gb388) rfl rfl rfl Try.underlying25 rfl (by (with_reducible repeat (first | apply kb1 | apply kb2 | apply kb3)); with_reducible exact BK388.out) (by kernel_rfl) ?_ | refine load_event (g := gb406) rfl rfl rfl Try.underlying25 rfl (by (with_reducible repeat (first | apply kb1 | apply kb2 | apply kb3)); with_reducible exact BK406.out) (by kernel_rfl) ?_) | ((with_reducible refine gate_store (T := 25) rfl ?_); first | (refine store_event (g := gb388) rfl rfl rfl rfl rfl (by (with_reducible repeat (first | apply kb1 | apply kb2 | apply kb3)); with_reducible exact BK388.out) (by kernel_rfl) (by rfl) (by rfl) ?_; intro w_388 eX eO eB; (try (replace BK406 := ka ((eO _ NB406_388.out).trans (by (with_reducible repeat (first | apply kb1 | apply kb2 | apply kb3)); with_reducible exact BK406.out)))); replace BK388 := ka eX; replace HB := ka (eB _ _ (kw HB.out) GE388.out); clear eX eO eB; (try have hz388 := blkAll15 BK388.out); (try have hz406 := blkAll15 BK406.out); (try have hy406 := NB406_388.out); (try have hx406 := NB388_406.out)) | (refine store_event (g := gb406) rfl rfl rfl rfl rfl (by (with_reducible repeat (first | apply kb1 | apply kb2 | apply kb3)); with_reducible exact BK406.out) (by kernel_rfl) (by rfl) (by rfl) ?_; intro w_406 eX eO eB; (try (replace BK388 := ka ((eO _ NB388_406.out).trans (by (with_reducible repeat (first | apply kb1 | apply kb2 | apply kb3)); with_reducible exact BK388.out)))); replace BK406 := ka eX; replace HB := ka (eB _ _ (kw HB.out) GE406.out); clear eX eO eB; (try have hz388 := blkAll15 BK388.out); (try have hz406 := blkAll15 BK406.out); (try have hy388 := NB388_406.out); (try have hx388 := NB406_388.out))))
  (try simp only [Act.put, List.setIfInBounds_toArray, List.set_cons_zero, List.set_cons_succ])
  go_cut [] (fun wc => ∃ (kq : Nat), Aside0 (trivetlaw13_WaterEnds.j0 kq a1 a2 t389 t405 a0_0 a0_1 a0_2 a0_3 a0_4 a0_5 a0_6 a0_7 a0_8 a0_9 a0_10 a0_11 a0_12 a0_13 a0_14 t390 t391 t392 t393 t394 t395 t396 t397 t398 t399 t400 t401 t402 t403 t404 = some r) ∧ Aside0 (kq ≤ k) ∧ Aside0 (wc.heap[gb388]? = some (.cells #[.int .i64 a0_0, .int .i64 a0_1, .int .i64 a0_2, .int .i64 a0_3, .int .i64 a0_4, .int .i64 a0_5, .int .i64 a0_6, .int .i64 a0_7, .int .i64 a0_8, .int .i64 a0_9, .int .i64 a0_10, .int .i64 a0_11, .int .i64 a0_12, .int .i64 a0_13, .int .i64 a0_14] 25 (0, 0))) ∧ Aside0 (wc.heap[gb406]? = some (.cells #[.int .i64 t390, .int .i64 t391, .int .i64 t392, .int .i64 t393, .int .i64 t394, .int .i64 t395, .int .i64 t396, .int .i64 t397, .int .i64 t398, .int .i64 t399, .int .i64 t400, .int .i64 t401, .int .i64 t402, .int .i64 t403, .int .i64 t404] 25 (0, 0))) ∧ Aside0 (Below w.heap.size w wc))
  case first =>
   have H := HC9.out
   clear HC9
   by_cases c22 : a0_9 = 0
   ·rw [if_pos c22] at H
    have c22b0 : (a0_9 == 0) = true := beq_iff_eq.mpr c22
    have c22b1 : (a0_9 != 0) = false := bne_eq_false_iff_eq.mpr c22
    clear c22
    (first | rw [c22b0] | (simp only [i64_w, i32_w]; rw [c22b0]) | skip)
    rcases t408 with _ | q412
    ·have H1 : (none) = some r := by rw [if_pos (show (none : Option Int).isNone = true by rfl)] at H; exact H
     clear H
     have H := H1
     clear H1
     try simp only [errW_none, errW_some]
     exact absurd H (by simp)
    ·have H1 : (if q412 = 7 then (if t407 = 0 then (trivetlaw13_WaterEnds.j0 k a1 a2 t389 t405 a0_0 a0_1 a0_2 a0_3 a0_4 a0_5 a0_6 a0_7 a0_8 a0_9 a0_10 a0_11 a0_12 a0_13 a0_14 t390 t391 t392 t393 t394 t395 t396 t397 t398 t399 t400 t401 t402 t403 t404) else (none)) else (none)) = some r := by rw [if_neg (show ¬ (some q412).isNone = true by simp)] at H; exact H
     clear H
     have H := H1
     clear H1
     try simp only [errW_none, errW_some]
     by_cases c23 : q412 = 7
     ·rw [if_pos c23] at H
      have c23b0 : (q412 == 7) = true := beq_iff_eq.mpr c23
      have c23b1 : (q412 != 7) = false := bne_eq_false_iff_eq.mpr c23
      clear c23
      by_cases c24 : t407 = 0
      ·rw [if_pos c24] at H
       have c24b0 : (t407 == 0) = true := beq_iff_eq.mpr c24
       have c24b1 : (t407 != 0) = false := bne_eq_false_iff_eq.mpr c24
       clear c24
       have H' := ka H
       clear H
       go_wp2
       go_meet
       case rel => exact ⟨_, H', ⟨by first | omega | exact Nat.le_refl _⟩, ⟨by (with_reducible repeat (first | apply kb1 | apply kb2 | apply kb3)); exact BK388.out⟩, ⟨by (with_reducible repeat (first | apply kb1 | apply kb2 | apply kb3)); exact BK406.out⟩, ⟨by repeat (first | (with_reducible first | exact HB.out | apply kc1 | apply kc2 | apply kc3 | refine kc4 ?_ GE388.out | refine kc4 ?_ GE406.out) | exact HB.out)⟩⟩
      ·rw [if_neg c24] at H
       exact absurd H (by simp)
     ·rw [if_neg c23] at H
      exact absurd H (by simp)
   ·rw [if_neg c22] at H
    have c22b0 : (a0_9 == 0) = false := beq_eq_false_iff_ne.mpr c22
    have c22b1 : (a0_9 != 0) = true := bne_iff_ne.mpr c22
    (first | rw [c22b0] | (simp only [i64_w, i32_w]; rw [c22b0]) | skip)
    rcases t408 with _ | q413
    ·have H1 : ((trivetref13_Payoff_s.f a0_0 a0_1 a0_2 a0_3 a0_4 a0_5 a0_6 a0_7 a0_8 a0_9 a0_10 a0_11 a0_12 a0_13 a0_14 a1).bind fun t414 => (if t407 = t414 then (trivetlaw13_WaterEnds.j0 k a1 a2 t389 t405 a0_0 a0_1 a0_2 a0_3 a0_4 a0_5 a0_6 a0_7 a0_8 a0_9 a0_10 a0_11 a0_12 a0_13 a0_14 t390 t391 t392 t393 t394 t395 t396 t397 t398 t399 t400 t401 t402 t403 t404) else (none))) = some r := by rw [if_pos (show (none : Option Int).isNone = true by rfl)] at H; exact H
     clear H
     have H := H1
     clear H1
     try simp only [errW_none, errW_some]
     replace H := Option.bind_eq_some_iff.mp H
     obtain ⟨t414, A250, H⟩ := H
     replace H : (if t407 = t414 then (trivetlaw13_WaterEnds.j0 k a1 a2 t389 t405 a0_0 a0_1 a0_2 a0_3 a0_4 a0_5 a0_6 a0_7 a0_8 a0_9 a0_10 a0_11 a0_12 a0_13 a0_14 t390 t391 t392 t393 t394 t395 t396 t397 t398 t399 t400 t401 t402 t403 t404) else (none)) = some r := H
     have A25 := ka A250
     clear A250
     by_cases c26 : t407 = t414
     ·rw [if_pos c26] at H
      have c26b0 : (t407 == t414) = true := beq_iff_eq.mpr c26
      have c26b1 : (t407 != t414) = false := bne_eq_false_iff_eq.mpr c26
      clear c26
      have H' := ka H
      clear H
      have hnb27 := NB388_406.out
      have hnc27 := NB406_388.out
      have hcz28 := blkAll15 BK388.out
      go_wp2_with (first | (go_at_call 19; (with_reducible refine (trivetref13_Payoff_s.calls a0_0 a0_1 a0_2 a0_3 a0_4 a0_5 a0_6 a0_7 a0_8 a0_9 a0_10 a0_11 a0_12 a0_13 a0_14 a1 t414 _ A25.out).mono ?_); rintro e w29 ⟨rfl, hb⟩; have n0_ := ka (blk_below (g := gb388) (kz BK388.out) hb); have n1_ := ka (blk_below (g := gb406) (kz BK406.out) hb); have n2_ := ka (below_step (kw HB.out) hb); clear BK388; clear BK406; clear HB; have BK388 := n0_; have BK406 := n1_; have HB := n2_; clear n0_ n1_ n2_; (try clear hb); (try clear hb2); (try clear hk); (try clear hi)) | ((with_reducible refine gate_load (T := 25) rfl ?_); first | refine load_event (g := gb388) rfl rfl rfl Try.underlying25 rfl (by (with_reducible repeat (first | apply kb1 | apply kb2 | apply kb3)); with_reducible exact BK388.out) (by kernel_rfl) ?_ | refine load_event (g := gb406) rfl rfl rfl Try.underlying25 rfl (by (with_reducible repeat (first | apply kb1 | apply kb2 | apply kb3)); with_reducible exact BK406.out) (by kernel_rfl) ?_) | ((with_reducible refine gate_store (T := 25) rfl ?_); first | (refine store_event (g := gb388) rfl rfl rfl rfl rfl (by (with_reducible repeat (first | apply kb1 | apply kb2 | apply kb3)); with_reducible exact BK388.out) (by kernel_rfl) (by rfl) (by rfl) ?_; intro w_388 eX eO eB; (try (replace BK406 := ka ((eO _ NB406_388.out).trans (by (with_reducible repeat (first | apply kb1 | apply kb2 | apply kb3)); with_reducible exact BK406.out)))); replace BK388 := ka eX; replace HB := ka (eB _ _ (kw HB.out) GE388.out); clear eX eO eB; (try have hz388 := blkAll15 BK388.out); (try have hz406 := blkAll15 BK406.out); (try have hy406 := NB406_388.out); (try have hx406 := NB388_406.out)) | (refine store_event (g := gb406) rfl rfl rfl rfl rfl (by (with_reducible repeat (first | apply kb1 | apply kb2 | apply kb3)); with_reducible exact BK406.out) (by kernel_rfl) (by rfl) (by rfl) ?_; intro w_406 eX eO eB; (try (replace BK388 := ka ((eO _ NB388_406.out).trans (by (with_reducible repeat (first | apply kb1 | apply kb2 | apply kb3)); with_reducible exact BK388.out)))); replace BK406 := ka eX; replace HB := ka (eB _ _ (kw HB.out) GE406.out); clear eX eO eB; (try have hz388 := blkAll15 BK388.out); (try have hz406 := blkAll15 BK406.out); (try have hy388 := NB388_406.out); (try have hx388 := NB406_388.out))))
      go_meet
      case rel => exact ⟨_, H', ⟨by first | omega | exact Nat.le_refl _⟩, ⟨by (with_reducible repeat (first | apply kb1 | apply kb2 | apply kb3)); exact BK388.out⟩, ⟨by (with_reducible repeat (first | apply kb1 | apply kb2 | apply kb3)); exact BK406.out⟩, ⟨by repeat (first | (with_reducible first | exact HB.out | apply kc1 | apply kc2 | apply kc3 | refine kc4 ?_ GE388.out | refine kc4 ?_ GE406.out) | exact HB.out)⟩⟩
     ·rw [if_neg c26] at H
      exact absurd H (by simp)
    ·have H1 : (none) = some r := by rw [if_neg (show ¬ (some q413).isNone = true by simp)] at H; exact H
     clear H
     have H := H1
     clear H1
     try simp only [errW_none, errW_some]
     exact absurd H (by simp)
  case rest =>
   clear HC9
   try clear c1
   try clear c2
   try clear p2
   try clear q4
   try clear c8
   try clear c9
   try clear c10
   try clear c12
   try clear c15
   try clear c17
   try clear c18
   try clear c22
   try clear c22b0
   try clear c22b1
   try clear c23
   try clear c23b0
   try clear c23b1
   try clear c24
   try clear c24b0
   try clear c24b1
   try clear c26
   try clear c26b0
   try clear c26b1
   try clear c27
   try clear hcz12
   try clear hcz16
   try clear hcz17
   try clear hcz19
   try clear hcz21
   try clear hcz28
   try clear q412
   try clear q413
   obtain ⟨kq, HA, HJ8, BK388, BK406, HB⟩ := hcut
   cases kq with
   | zero => exact absurd HA.out (by simp [trivetlaw13_WaterEnds.j0])
   | succ kj8 =>
    have H := HA.out
    clear HA
    simp only [trivetlaw13_WaterEnds.j0] at H
    have HC30 := ka H
    clear H
    go_upto_region 12 with (fail)
    go_cut [77] (fun v77 wc => ∃ (kq : Nat) (x77_29 : Bool), v77 = .bool x77_29 ∧ Aside0 (trivetlaw13_WaterEnds.j1 kq a1 a2 t389 t405 x77_29 a0_0 a0_1 a0_2 a0_3 a0_4 a0_5 a0_6 a0_7 a0_8 a0_9 a0_10 a0_11 a0_12 a0_13 a0_14 t390 t391 t392 t393 t394 t395 t396 t397 t398 t399 t400 t401 t402 t403 t404 = some r) ∧ Aside0 (kq ≤ kj8) ∧ Aside0 (wc.heap[gb388]? = some (.cells #[.int .i64 a0_0, .int .i64 a0_1, .int .i64 a0_2, .int .i64 a0_3, .int .i64 a0_4, .int .i64 a0_5, .int .i64 a0_6, .int .i64 a0_7, .int .i64 a0_8, .int .i64 a0_9, .int .i64 a0_10, .int .i64 a0_11, .int .i64 a0_12, .int .i64 a0_13, .int .i64 a0_14] 25 (0, 0))) ∧ Aside0 (wc.heap[gb406]? = some (.cells #[.int .i64 t390, .int .i64 t391, .int .i64 t392, .int .i64 t393, .int .i64 t394, .int .i64 t395, .int .i64 t396, .int .i64 t397, .int .i64 t398, .int .i64 t399, .int .i64 t400, .int .i64 t401, .int .i64 t402, .int .i64 t403, .int .i64 t404] 25 (0, 0))) ∧ Aside0 (Below w.heap.size w wc))
    case first =>
     have H := HC30.out
     clear HC30
     by_cases c31 : a2 < 1
     ·rw [if_pos c31] at H
      have c31b0 : decide (a2 < 1) = true := decide_eq_true c31
      clear c31
      (first | rw [c31b0] | (simp only [i64_w, i32_w]; rw [c31b0]) | skip)
      have H' := ka H
      clear H
      go_wp2
      go_meet
      case rel => exact ⟨_, (true), (by first | rfl | (simp; done) | (simp [*]; done)), H', ⟨by have := HJ8.out; first | omega | exact Nat.le_refl _⟩, ⟨by (with_reducible repeat (first | apply kb1 | apply kb2 | apply kb3)); exact BK388.out⟩, ⟨by (with_reducible repeat (first | apply kb1 | apply kb2 | apply kb3)); exact BK406.out⟩, ⟨by repeat (first | (with_reducible first | exact HB.out | apply kc1 | apply kc2 | apply kc3 | refine kc4 ?_ GE388.out | refine kc4 ?_ GE406.out) | exact HB.out)⟩⟩
     ·rw [if_neg c31] at H
      have c31b0 : decide (a2 < 1) = false := decide_eq_false c31
      clear c31
      (first | rw [c31b0] | (simp only [i64_w, i32_w]; rw [c31b0]) | skip)
      have H' := ka H
      clear H
      go_wp2
      go_meet
      case rel => exact ⟨_, (decide (a2 > 10000000000000)), (by first | rfl | (simp; done) | (simp [*]; done)), H', ⟨by have := HJ8.out; first | omega | exact Nat.le_refl _⟩, ⟨by (with_reducible repeat (first | apply kb1 | apply kb2 | apply kb3)); exact BK388.out⟩, ⟨by (with_reducible repeat (first | apply kb1 | apply kb2 | apply kb3)); exact BK406.out⟩, ⟨by repeat (first | (with_reducible first | exact HB.out | apply kc1 | apply kc2 | apply kc3 | refine kc4 ?_ GE388.out | refine kc4 ?_ GE406.out) | exact HB.out)⟩⟩
    case rest =>
     clear HC30
     try clear c1
     try clear c2
     try clear p2
     try clear c3
     try clear q4
     try clear c8
     try clear c9
     try clear c10
     try clear c12
     try clear c15
     try clear c17
     try clear c18
     try clear c22
     try clear c22b0
     try clear c22b1
     try clear c23
     try clear c23b0
     try clear c23b1
     try clear c24
     try clear c24b0
     try clear c24b1
     try clear c26
     try clear c26b0
     try clear c26b1
     try clear c27
     try clear c31
     try clear c31b0
     try clear hcz12
     try clear hcz16
     try clear hcz17
     try clear hcz19
     try clear hcz21
     try clear hcz28
     try clear p2
     try clear q4
     try clear q412
     try clear q413
     obtain ⟨kq, x77_29, rfl, HA, HJ29, BK388, BK406, HB⟩ := hcut
     cases kq with
     | zero => exact absurd HA.out (by simp [trivetlaw13_WaterEnds.j1])
     | succ kj29 =>
      have H := HA.out
      clear HA
      simp only [trivetlaw13_WaterEnds.j1] at H
      by_cases c32 : x77_29 = true
      ·subst c32
       have H1 : (if t389 = true then (if t405.isNone = true then (none) else (if (t405.getD 0) = 1 then (some ((t390 == 0 && (t391 == 0 && (t392 == 0 && (t393 == 0 && (t394 == 0 && (t395 == 0 && (t396 == 0 && (t397 == 0 && (t398 == 0))))))))) && (t399 == 0 && (t400 == 0 && (t401 == 0 && (t402 == 0 && (t403 == 0 && (t404 == 0)))))))) else (none))) else (none)) = some r := by rw [if_pos rfl] at H; exact H
       clear H
       have H := H1
       clear H1
       by_cases c33 : t389 = true
       ·subst c33
        have H1 : (if t405.isNone = true then (none) else (if (t405.getD 0) = 1 then (some ((t390 == 0 && (t391 == 0 && (t392 == 0 && (t393 == 0 && (t394 == 0 && (t395 == 0 && (t396 == 0 && (t397 == 0 && (t398 == 0))))))))) && (t399 == 0 && (t400 == 0 && (t401 == 0 && (t402 == 0 && (t403 == 0 && (t404 == 0)))))))) else (none))) = some r := by rw [if_pos rfl] at H; exact H
        clear H
        have H := H1
        clear H1
        rcases t405 with _ | q415
        ·have H1 : (none) = some r := by rw [if_pos (show (none : Option Int).isNone = true by rfl)] at H; exact H
         clear H
         have H := H1
         clear H1
         try simp only [errW_none, errW_some]
         exact absurd H (by simp)
        ·have H1 : (if q415 = 1 then (some ((t390 == 0 && (t391 == 0 && (t392 == 0 && (t393 == 0 && (t394 == 0 && (t395 == 0 && (t396 == 0 && (t397 == 0 && (t398 == 0))))))))) && (t399 == 0 && (t400 == 0 && (t401 == 0 && (t402 == 0 && (t403 == 0 && (t404 == 0)))))))) else (none)) = some r := by rw [if_neg (show ¬ (some q415).isNone = true by simp)] at H; exact H
         clear H
         have H := H1
         clear H1
         try simp only [errW_none, errW_some]
         by_cases c34 : q415 = 1
         ·rw [if_pos c34] at H
          have c34b0 : (q415 == 1) = true := beq_iff_eq.mpr c34
          have c34b1 : (q415 != 1) = false := bne_eq_false_iff_eq.mpr c34
          clear c34
          obtain rfl := Option.some.inj H
          have hnb35 := NB406_388.out
          have hnc35 := NB388_406.out
          have hcz36 := blkAll15 BK406.out
          go_wp2
          go_ret
          exact ⟨by first | rfl | (simp [errW_none, errW_some] <;> rfl) | (simp [*, errW_none, errW_some] <;> rfl), by repeat (first | (with_reducible first | exact HB.out | apply kc1 | apply kc2 | apply kc3 | refine kc4 ?_ GE388.out | refine kc4 ?_ GE406.out) | exact HB.out)⟩
         ·rw [if_neg c34] at H
          exact absurd H (by simp)
       ·replace c33 := Bool.eq_false_iff.mpr c33
        subst c33
        have H1 : (none) = some r := by rw [if_neg (show ¬ (false = true) by decide)] at H; exact H
        clear H
        have H := H1
        clear H1
        exact absurd H (by simp)
      ·replace c32 := Bool.eq_false_iff.mpr c32
       subst c32
       have H1 : (if a0_9 = 0 then (trivetlaw13_WaterEnds.j2 kj29 a2 t389 t405 true a0_0 a0_1 a0_2 a0_3 a0_4 a0_5 a0_6 a0_7 a0_8 a0_9 a0_10 a0_11 a0_12 a0_13 a0_14 t390 t391 t392 t393 t394 t395 t396 t397 t398 t399 t400 t401 t402 t403 t404) else (trivetlaw13_WaterEnds.j2 kj29 a2 t389 t405 (decide (a0_11 ≤ a1)) a0_0 a0_1 a0_2 a0_3 a0_4 a0_5 a0_6 a0_7 a0_8 a0_9 a0_10 a0_11 a0_12 a0_13 a0_14 t390 t391 t392 t393 t394 t395 t396 t397 t398 t399 t400 t401 t402 t403 t404)) = some r := by rw [if_neg (show ¬ (false = true) by decide)] at H; exact H
       clear H
       have H := H1
       clear H1
       have HC37 := ka H
       clear H
       go_upto_region 14 with (fail)
       go_cut [97] (fun v97 wc => ∃ (kq : Nat) (x97_36 : Bool), v97 = .bool x97_36 ∧ Aside0 (trivetlaw13_WaterEnds.j2 kq a2 t389 t405 x97_36 a0_0 a0_1 a0_2 a0_3 a0_4 a0_5 a0_6 a0_7 a0_8 a0_9 a0_10 a0_11 a0_12 a0_13 a0_14 t390 t391 t392 t393 t394 t395 t396 t397 t398 t399 t400 t401 t402 t403 t404 = some r) ∧ Aside0 (kq ≤ kj29) ∧ Aside0 (wc.heap[gb388]? = some (.cells #[.int .i64 a0_0, .int .i64 a0_1, .int .i64 a0_2, .int .i64 a0_3, .int .i64 a0_4, .int .i64 a0_5, .int .i64 a0_6, .int .i64 a0_7, .int .i64 a0_8, .int .i64 a0_9, .int .i64 a0_10, .int .i64 a0_11, .int .i64 a0_12, .int .i64 a0_13, .int .i64 a0_14] 25 (0, 0))) ∧ Aside0 (wc.heap[gb406]? = some (.cells #[.int .i64 t390, .int .i64 t391, .int .i64 t392, .int .i64 t393, .int .i64 t394, .int .i64 t395, .int .i64 t396, .int .i64 t397, .int .i64 t398, .int .i64 t399, .int .i64 t400, .int .i64 t401, .int .i64 t402, .int .i64 t403, .int .i64 t404] 25 (0, 0))) ∧ Aside0 (Below w.heap.size w wc))
       case first =>
        have H := HC37.out
        clear HC37
        by_cases c38 : a0_9 = 0
        ·rw [if_pos c38] at H
         have c38b0 : (a0_9 == 0) = true := beq_iff_eq.mpr c38
         have c38b1 : (a0_9 != 0) = false := bne_eq_false_iff_eq.mpr c38
         clear c38
         (first | rw [c38b0] | (simp only [i64_w, i32_w]; rw [c38b0]) | skip)
         have H' := ka H
         clear H
         have hnb39 := NB388_406.out
         have hnc39 := NB406_388.out
         have hcz40 := blkAll15 BK388.out
         go_wp2
         go_meet
         case rel => exact ⟨_, (true), (by first | rfl | (simp; done) | (simp [*]; done)), H', ⟨by have := HJ8.out; have := HJ29.out; first | omega | exact Nat.le_refl _⟩, ⟨by (with_reducible repeat (first | apply kb1 | apply kb2 | apply kb3)); exact BK388.out⟩, ⟨by (with_reducible repeat (first | apply kb1 | apply kb2 | apply kb3)); exact BK406.out⟩, ⟨by repeat (first | (with_reducible first | exact HB.out | apply kc1 | apply kc2 | apply kc3 | refine kc4 ?_ GE388.out | refine kc4 ?_ GE406.out) | exact HB.out)⟩⟩
        ·rw [if_neg c38] at H
         have c38b0 : (a0_9 == 0) = false := beq_eq_false_iff_ne.mpr c38
         have c38b1 : (a0_9 != 0) = true := bne_iff_ne.mpr c38
         (first | rw [c38b0] | (simp only [i64_w, i32_w]; rw [c38b0]) | skip)
         have H' := ka H
         clear H
         have hnb41 := NB388_406.out
         have hnc41 := NB406_388.out
         have hcz42 := blkAll15 BK388.out
         go_wp2
         go_meet
         case rel => exact ⟨_, (decide (a0_11 ≤ a1)), (by first | rfl | (simp; done) | (simp [*]; done)), H', ⟨by have := HJ8.out; have := HJ29.out; first | omega | exact Nat.le_refl _⟩, ⟨by (with_reducible repeat (first | apply kb1 | apply kb2 | apply kb3)); exact BK388.out⟩, ⟨by (with_reducible repeat (first | apply kb1 | apply kb2 | apply kb3)); exact BK406.out⟩, ⟨by repeat (first | (with_reducible first | exact HB.out | apply kc1 | apply kc2 | apply kc3 | refine kc4 ?_ GE388.out | refine kc4 ?_ GE406.out) | exact HB.out)⟩⟩
       case rest =>
        clear HC37
        try clear c1
        try clear c2
        try clear p2
        try clear c3
        try clear c4
        try clear q4
        try clear c8
        try clear c9
        try clear c10
        try clear c12
        try clear c15
        try clear c17
        try clear c18
        try clear c22
        try clear c22b0
        try clear c22b1
        try clear c23
        try clear c23b0
        try clear c23b1
        try clear c24
        try clear c24b0
        try clear c24b1
        try clear c26
        try clear c26b0
        try clear c26b1
        try clear c27
        try clear c31
        try clear c31b0
        try clear c32
        try clear c33
        try clear c34
        try clear c34b0
        try clear c34b1
        try clear c35
        try clear c38
        try clear c38b0
        try clear c38b1
        try clear c39
        try clear c41
        try clear q41
        try clear hcz12
        try clear hcz16
        try clear hcz17
        try clear hcz19
        try clear hcz21
        try clear hcz28
        try clear hcz36
        try clear hcz40
        try clear hcz42
        try clear p2
        try clear q4
        try clear q412
        try clear q413
        try clear q415
        obtain ⟨kq, x97_36, rfl, HA, HJ36, BK388, BK406, HB⟩ := hcut
        cases kq with
        | zero => exact absurd HA.out (by simp [trivetlaw13_WaterEnds.j2])
        | succ kj36 =>
         have H := HA.out
         clear HA
         simp only [trivetlaw13_WaterEnds.j2] at H
         by_cases c43 : x97_36 = true
         ·subst c43
          have H1 : (if t389 = true then (if t405.isNone = true then (none) else (if (t405.getD 0) = 7 then (some ((t390 == 0 && (t391 == 0 && (t392 == 0 && (t393 == 0 && (t394 == 0 && (t395 == 0 && (t396 == 0 && (t397 == 0 && (t398 == 0))))))))) && (t399 == 0 && (t400 == 0 && (t401 == 0 && (t402 == 0 && (t403 == 0 && (t404 == 0)))))))) else (none))) else (none)) = some r := by rw [if_pos rfl] at H; exact H
          clear H
          have H := H1
          clear H1
          by_cases c44 : t389 = true
          ·subst c44
           have H1 : (if t405.isNone = true then (none) else (if (t405.getD 0) = 7 then (some ((t390 == 0 && (t391 == 0 && (t392 == 0 && (t393 == 0 && (t394 == 0 && (t395 == 0 && (t396 == 0 && (t397 == 0 && (t398 == 0))))))))) && (t399 == 0 && (t400 == 0 && (t401 == 0 && (t402 == 0 && (t403 == 0 && (t404 == 0)))))))) else (none))) = some r := by rw [if_pos rfl] at H; exact H
           clear H
           have H := H1
           clear H1
           rcases t405 with _ | q416
           ·have H1 : (none) = some r := by rw [if_pos (show (none : Option Int).isNone = true by rfl)] at H; exact H
            clear H
            have H := H1
            clear H1
            try simp only [errW_none, errW_some]
            exact absurd H (by simp)
           ·have H1 : (if q416 = 7 then (some ((t390 == 0 && (t391 == 0 && (t392 == 0 && (t393 == 0 && (t394 == 0 && (t395 == 0 && (t396 == 0 && (t397 == 0 && (t398 == 0))))))))) && (t399 == 0 && (t400 == 0 && (t401 == 0 && (t402 == 0 && (t403 == 0 && (t404 == 0)))))))) else (none)) = some r := by rw [if_neg (show ¬ (some q416).isNone = true by simp)] at H; exact H
            clear H
            have H := H1
            clear H1
            try simp only [errW_none, errW_some]
            by_cases c45 : q416 = 7
            ·rw [if_pos c45] at H
             have c45b0 : (q416 == 7) = true := beq_iff_eq.mpr c45
             have c45b1 : (q416 != 7) = false := bne_eq_false_iff_eq.mpr c45
             clear c45
             obtain rfl := Option.some.inj H
             have hnb46 := NB406_388.out
             have hnc46 := NB388_406.out
             have hcz47 := blkAll15 BK406.out
             go_wp2
             go_ret
             exact ⟨by first | rfl | (simp [errW_none, errW_some] <;> rfl) | (simp [*, errW_none, errW_some] <;> rfl), by repeat (first | (with_reducible first | exact HB.out | apply kc1 | apply kc2 | apply kc3 | refine kc4 ?_ GE388.out | refine kc4 ?_ GE406.out) | exact HB.out)⟩
            ·rw [if_neg c45] at H
             exact absurd H (by simp)
          ·replace c44 := Bool.eq_false_iff.mpr c44
           subst c44
           have H1 : (none) = some r := by rw [if_neg (show ¬ (false = true) by decide)] at H; exact H
           clear H
           have H := H1
           clear H1
           exact absurd H (by simp)
         ·replace c43 := Bool.eq_false_iff.mpr c43
          subst c43
          have H1 : (if a2 > a0_9 then (if t389 = true then (if t405.isNone = true then (none) else (if (t405.getD 0) = 3 then (some ((t390 == 0 && (t391 == 0 && (t392 == 0 && (t393 == 0 && (t394 == 0 && (t395 == 0 && (t396 == 0 && (t397 == 0 && (t398 == 0))))))))) && (t399 == 0 && (t400 == 0 && (t401 == 0 && (t402 == 0 && (t403 == 0 && (t404 == 0)))))))) else (none))) else (none)) else (if t389 = true then (if t405.isNone = true then (some ((t390 == a0_0 && (t391 == a0_1 && (t392 == a0_2 && (t393 == a0_3 && (t394 == a0_4 && (t395 == a0_5 && (t396 == a0_6 && (t397 == a0_7 && (t398 == a0_8))))))))) && (t399 == (wrap64 (a0_9 - a2)) && (t400 == a0_10 && (t401 == a0_11 && (t402 == a0_12 && (t403 == a0_13 && (t404 == a0_14)))))))) else (none)) else (none))) = some r := by rw [if_neg (show ¬ (false = true) by decide)] at H; exact H
          clear H
          have H := H1
          clear H1
          by_cases c48 : a2 > a0_9
          ·rw [if_pos c48] at H
           have c48b0 : decide (a0_9 < a2) = true := decide_eq_true c48
           clear c48
           by_cases c49 : t389 = true
           ·subst c49
            have H1 : (if t405.isNone = true then (none) else (if (t405.getD 0) = 3 then (some ((t390 == 0 && (t391 == 0 && (t392 == 0 && (t393 == 0 && (t394 == 0 && (t395 == 0 && (t396 == 0 && (t397 == 0 && (t398 == 0))))))))) && (t399 == 0 && (t400 == 0 && (t401 == 0 && (t402 == 0 && (t403 == 0 && (t404 == 0)))))))) else (none))) = some r := by rw [if_pos rfl] at H; exact H
            clear H
            have H := H1
            clear H1
            rcases t405 with _ | q417
            ·have H1 : (none) = some r := by rw [if_pos (show (none : Option Int).isNone = true by rfl)] at H; exact H
             clear H
             have H := H1
             clear H1
             try simp only [errW_none, errW_some]
             exact absurd H (by simp)
            ·have H1 : (if q417 = 3 then (some ((t390 == 0 && (t391 == 0 && (t392 == 0 && (t393 == 0 && (t394 == 0 && (t395 == 0 && (t396 == 0 && (t397 == 0 && (t398 == 0))))))))) && (t399 == 0 && (t400 == 0 && (t401 == 0 && (t402 == 0 && (t403 == 0 && (t404 == 0)))))))) else (none)) = some r := by rw [if_neg (show ¬ (some q417).isNone = true by simp)] at H; exact H
             clear H
             have H := H1
             clear H1
             try simp only [errW_none, errW_some]
             by_cases c50 : q417 = 3
             ·rw [if_pos c50] at H
              have c50b0 : (q417 == 3) = true := beq_iff_eq.mpr c50
              have c50b1 : (q417 != 3) = false := bne_eq_false_iff_eq.mpr c50
              clear c50
              obtain rfl := Option.some.inj H
              have hnb51 := NB388_406.out
              have hnc51 := NB406_388.out
              have hcz52 := blkAll15 BK388.out
              have hcz53 := blkAll15 BK406.out
              go_wp2
              go_ret
              exact ⟨by first | rfl | (simp [errW_none, errW_some] <;> rfl) | (simp [*, errW_none, errW_some] <;> rfl), by repeat (first | (with_reducible first | exact HB.out | apply kc1 | apply kc2 | apply kc3 | refine kc4 ?_ GE388.out | refine kc4 ?_ GE406.out) | exact HB.out)⟩
             ·rw [if_neg c50] at H
              exact absurd H (by simp)
           ·replace c49 := Bool.eq_false_iff.mpr c49
            subst c49
            have H1 : (none) = some r := by rw [if_neg (show ¬ (false = true) by decide)] at H; exact H
            clear H
            have H := H1
            clear H1
            exact absurd H (by simp)
          ·rw [if_neg c48] at H
           have c48b0 : decide (a0_9 < a2) = false := decide_eq_false c48
           clear c48
           by_cases c54 : t389 = true
           ·subst c54
            have H1 : (if t405.isNone = true then (some ((t390 == a0_0 && (t391 == a0_1 && (t392 == a0_2 && (t393 == a0_3 && (t394 == a0_4 && (t395 == a0_5 && (t396 == a0_6 && (t397 == a0_7 && (t398 == a0_8))))))))) && (t399 == (wrap64 (a0_9 - a2)) && (t400 == a0_10 && (t401 == a0_11 && (t402 == a0_12 && (t403 == a0_13 && (t404 == a0_14)))))))) else (none)) = some r := by rw [if_pos rfl] at H; exact H
            clear H
            have H := H1
            clear H1
            rcases t405 with _ | q419
            ·have H1 : (some ((t390 == a0_0 && (t391 == a0_1 && (t392 == a0_2 && (t393 == a0_3 && (t394 == a0_4 && (t395 == a0_5 && (t396 == a0_6 && (t397 == a0_7 && (t398 == a0_8))))))))) && (t399 == (wrap64 (a0_9 - a2)) && (t400 == a0_10 && (t401 == a0_11 && (t402 == a0_12 && (t403 == a0_13 && (t404 == a0_14)))))))) = some r := by rw [if_pos (show (none : Option Int).isNone = true by rfl)] at H; exact H
             clear H
             have H := H1
             clear H1
             try simp only [errW_none, errW_some]
             obtain rfl := Option.some.inj H
             have hnb55 := NB388_406.out
             have hnc55 := NB406_388.out
             have hcz56 := blkAll15 BK388.out
             go_wp2_with (first | ((with_reducible refine gate_dst (N := 13) rfl ?_); refine kx (N := 13) (cs := #[.int .i64 0, .int .i64 0, .int .i64 0, .int .i64 0, .int .i64 0, .int .i64 0, .int .i64 0, .int .i64 0, .int .i64 0, .int .i64 0, .int .i64 0, .int .i64 0, .int .i64 0, .int .i64 0, .int .i64 0]) (t := 25) ?_; intro gb418 hg w57 hbox hb; have n0_ := ka (blk_below (g := gb388) (kz BK388.out) hb); have n1_ := ka (blk_below (g := gb406) (kz BK406.out) hb); have n2_ := ka (below_step (kw HB.out) hb); have n3_ := ka (hbox); have n4_ := ka ((by rw [hg]; exact (below_size (kw HB.out)) : w.heap.size ≤ gb418)); have n5_ := n4_; have n6_ := ka ((by rw [hg]; exact Nat.ne_of_lt (blk_lt (g := gb388) (kz BK388.out)) : gb388 ≠ gb418)); have n7_ := ka n6_.out.symm; have n8_ := ka ((by rw [hg]; exact Nat.ne_of_lt (blk_lt (g := gb406) (kz BK406.out)) : gb406 ≠ gb418)); have n9_ := ka n8_.out.symm; clear BK388; clear BK406; clear HB; have BK388 := n0_; have BK406 := n1_; have HB := n2_; have BK418 := n3_; have GW418 := n4_; have GE418 := n5_; have NB388_418 := n6_; have NB418_388 := n7_; have NB406_418 := n8_; have NB418_406 := n9_; clear n0_ n1_ n2_ n3_ n4_ n5_ n6_ n7_ n8_ n9_; clear hb hbox hg; have hnb58 := NB418_388.out; have hnc58 := NB388_418.out; have hnb59 := NB418_406.out; have hnc59 := NB406_418.out; have hcz60 := blkAll15 BK418.out; have hcz61 := blkAll15 BK388.out; have hcz62 := blkAll15 BK406.out) | ((with_reducible refine gate_load (T := 25) rfl ?_); first | refine load_event (g := gb388) rfl rfl rfl Try.underlying25 rfl (by (with_reducible repeat (first | apply kb1 | apply kb2 | apply kb3)); with_reducible exact BK388.out) (by kernel_rfl) ?_ | refine load_event (g := gb406) rfl rfl rfl Try.underlying25 rfl (by (with_reducible repeat (first | apply kb1 | apply kb2 | apply kb3)); with_reducible exact BK406.out) (by kernel_rfl) ?_ | refine load_event (g := gb418) rfl rfl rfl Try.underlying25 rfl (by (with_reducible repeat (first | apply kb1 | apply kb2 | apply kb3)); with_reducible exact BK418.out) (by kernel_rfl) ?_) | ((with_reducible refine gate_store (T := 25) rfl ?_); first | (refine store_event (g := gb388) rfl rfl rfl rfl rfl (by (with_reducible repeat (first | apply kb1 | apply kb2 | apply kb3)); with_reducible exact BK388.out) (by kernel_rfl) (by rfl) (by rfl) ?_; intro w_388 eX eO eB; (try (replace BK406 := ka ((eO _ NB406_388.out).trans (by (with_reducible repeat (first | apply kb1 | apply kb2 | apply kb3)); with_reducible exact BK406.out)))); (try (replace BK418 := ka ((eO _ NB418_388.out).trans (by (with_reducible repeat (first | apply kb1 | apply kb2 | apply kb3)); with_reducible exact BK418.out)))); replace BK388 := ka eX; replace HB := ka (eB _ _ (kw HB.out) GE388.out); clear eX eO eB; (try have hz388 := blkAll15 BK388.out); (try have hz406 := blkAll15 BK406.out); (try have hz418 := blkAll15 BK418.out); (try have hy406 := NB406_388.out); (try have hx406 := NB388_406.out); (try have hy418 := NB418_388.out); (try have hx418 := NB388_418.out)) | (refine store_event (g := gb406) rfl rfl rfl rfl rfl (by (with_reducible repeat (first | apply kb1 | apply kb2 | apply kb3)); with_reducible exact BK406.out) (by kernel_rfl) (by rfl) (by rfl) ?_; intro w_406 eX eO eB; (try (replace BK388 := ka ((eO _ NB388_406.out).trans (by (with_reducible repeat (first | apply kb1 | apply kb2 | apply kb3)); with_reducible exact BK388.out)))); (try (replace BK418 := ka ((eO _ NB418_406.out).trans (by (with_reducible repeat (first | apply kb1 | apply kb2 | apply kb3)); with_reducible exact BK418.out)))); replace BK406 := ka eX; replace HB := ka (eB _ _ (kw HB.out) GE406.out); clear eX eO eB; (try have hz388 := blkAll15 BK388.out); (try have hz406 := blkAll15 BK406.out); (try have hz418 := blkAll15 BK418.out); (try have hy388 := NB388_406.out); (try have hx388 := NB406_388.out); (try have hy418 := NB418_406.out); (try have hx418 := NB406_418.out)) | (refine store_event (g := gb418) rfl rfl rfl rfl rfl (by (with_reducible repeat (first | apply kb1 | apply kb2 | apply kb3)); with_reducible exact BK418.out) (by kernel_rfl) (by rfl) (by rfl) ?_; intro w_418 eX eO eB; (try (replace BK388 := ka ((eO _ NB388_418.out).trans (by (with_reducible repeat (first | apply kb1 | apply kb2 | apply kb3)); with_reducible exact BK388.out)))); (try (replace BK406 := ka ((eO _ NB406_418.out).trans (by (with_reducible repeat (first | apply kb1 | apply kb2 | apply kb3)); with_reducible exact BK406.out)))); replace BK418 := ka eX; replace HB := ka (eB _ _ (kw HB.out) GE418.out); clear eX eO eB; (try have hz388 := blkAll15 BK388.out); (try have hz406 := blkAll15 BK406.out); (try have hz418 := blkAll15 BK418.out); (try have hy388 := NB388_418.out); (try have hx388 := NB418_388.out); (try have hy406 := NB406_418.out); (try have hx406 := NB418_406.out))))
             go_ret
             exact ⟨by first | rfl | (simp [errW_none, errW_some] <;> rfl) | (simp [*, errW_none, errW_some] <;> rfl), by repeat (first | (with_reducible first | exact HB.out | apply kc1 | apply kc2 | apply kc3 | refine kc4 ?_ GE388.out | refine kc4 ?_ GE406.out | refine kc4 ?_ GE418.out) | exact HB.out)⟩
            ·have H1 : (none) = some r := by rw [if_neg (show ¬ (some q419).isNone = true by simp)] at H; exact H
             clear H
             have H := H1
             clear H1
             try simp only [errW_none, errW_some]
             exact absurd H (by simp)
           ·replace c54 := Bool.eq_false_iff.mpr c54
            subst c54
            have H1 : (none) = some r := by rw [if_neg (show ¬ (false = true) by decide)] at H; exact H
            clear H
            have H := H1
            clear H1
            exact absurd H (by simp)
 ·replace c8 := Bool.eq_false_iff.mpr c8
  subst c8
  have H1 : (if t389 = true then (if t405.isNone = true then (none) else (if (t405.getD 0) = 1 then (if ((t390 == 0 && (t391 == 0 && (t392 == 0 && (t393 == 0 && (t394 == 0 && (t395 == 0 && (t396 == 0 && (t397 == 0 && (t398 == 0))))))))) && (t399 == 0 && (t400 == 0 && (t401 == 0 && (t402 == 0 && (t403 == 0 && (t404 == 0))))))) = true then (if t408.isNone = true then (none) else (if (t408.getD 0) = 1 then (some (t407 == 0)) else (none))) else (none)) else (none))) else (none)) = some r := by rw [if_neg (show ¬ (false = true) by decide)] at H; exact H
  clear H
  have H := H1
  clear H1
  by_cases c63 : t389 = true
  ·subst c63
   have H1 : (if t405.isNone = true then (none) else (if (t405.getD 0) = 1 then (if ((t390 == 0 && (t391 == 0 && (t392 == 0 && (t393 == 0 && (t394 == 0 && (t395 == 0 && (t396 == 0 && (t397 == 0 && (t398 == 0))))))))) && (t399 == 0 && (t400 == 0 && (t401 == 0 && (t402 == 0 && (t403 == 0 && (t404 == 0))))))) = true then (if t408.isNone = true then (none) else (if (t408.getD 0) = 1 then (some (t407 == 0)) else (none))) else (none)) else (none))) = some r := by rw [if_pos rfl] at H; exact H
   clear H
   have H := H1
   clear H1
   rcases t405 with _ | q410
   ·have H1 : (none) = some r := by rw [if_pos (show (none : Option Int).isNone = true by rfl)] at H; exact H
    clear H
    have H := H1
    clear H1
    try simp only [errW_none, errW_some]
    exact absurd H (by simp)
   ·have H1 : (if q410 = 1 then (if ((t390 == 0 && (t391 == 0 && (t392 == 0 && (t393 == 0 && (t394 == 0 && (t395 == 0 && (t396 == 0 && (t397 == 0 && (t398 == 0))))))))) && (t399 == 0 && (t400 == 0 && (t401 == 0 && (t402 == 0 && (t403 == 0 && (t404 == 0))))))) = true then (if t408.isNone = true then (none) else (if (t408.getD 0) = 1 then (some (t407 == 0)) else (none))) else (none)) else (none)) = some r := by rw [if_neg (show ¬ (some q410).isNone = true by simp)] at H; exact H
    clear H
    have H := H1
    clear H1
    try simp only [errW_none, errW_some]
    by_cases c64 : q410 = 1
    ·rw [if_pos c64] at H
     have c64b0 : (q410 == 1) = true := beq_iff_eq.mpr c64
     have c64b1 : (q410 != 1) = false := bne_eq_false_iff_eq.mpr c64
     clear c64
     by_cases c65 : ((t390 == 0 && (t391 == 0 && (t392 == 0 && (t393 == 0 && (t394 == 0 && (t395 == 0 && (t396 == 0 && (t397 == 0 && (t398 == 0))))))))) && (t399 == 0 && (t400 == 0 && (t401 == 0 && (t402 == 0 && (t403 == 0 && (t404 == 0))))))) = true
     ·rw [if_pos c65] at H
      have c65b0 : ((t390 == 0 && (t391 == 0 && (t392 == 0 && (t393 == 0 && (t394 == 0 && (t395 == 0 && (t396 == 0 && (t397 == 0 && (t398 == 0))))))))) && (t399 == 0 && (t400 == 0 && (t401 == 0 && (t402 == 0 && (t403 == 0 && (t404 == 0))))))) = true := c65
      clear c65
      rcases t408 with _ | q411
      ·have H1 : (none) = some r := by rw [if_pos (show (none : Option Int).isNone = true by rfl)] at H; exact H
       clear H
       have H := H1
       clear H1
       try simp only [errW_none, errW_some]
       exact absurd H (by simp)
      ·have H1 : (if q411 = 1 then (some (t407 == 0)) else (none)) = some r := by rw [if_neg (show ¬ (some q411).isNone = true by simp)] at H; exact H
       clear H
       have H := H1
       clear H1
       try simp only [errW_none, errW_some]
       by_cases c66 : q411 = 1
       ·rw [if_pos c66] at H
        have c66b0 : (q411 == 1) = true := beq_iff_eq.mpr c66
        have c66b1 : (q411 != 1) = false := bne_eq_false_iff_eq.mpr c66
        clear c66
        obtain rfl := Option.some.inj H
        go_enter Try.func9, Try.ntmps9
        go_wp2_with (first | ((with_reducible refine gate_dst (N := 3) rfl ?_); refine kx (N := 3) (cs := #[.int .i64 a0_0, .int .i64 a0_1, .int .i64 a0_2, .int .i64 a0_3, .int .i64 a0_4, .int .i64 a0_5, .int .i64 a0_6, .int .i64 a0_7, .int .i64 a0_8, .int .i64 a0_9, .int .i64 a0_10, .int .i64 a0_11, .int .i64 a0_12, .int .i64 a0_13, .int .i64 a0_14]) (t := 25) ?_; intro gb388 hg w67 hbox hb; have n0_ := ka (below_step (kw HB.out) hb); have n1_ := ka (hbox); have n2_ := ka ((by rw [hg]; exact (below_size (kw HB.out)) : w.heap.size ≤ gb388)); have n3_ := n2_; clear HB; have HB := n0_; have BK388 := n1_; have GW388 := n2_; have GE388 := n3_; clear n0_ n1_ n2_ n3_; clear hb hbox hg) | ((with_reducible refine gate_callee (f := 10) rfl ?_); refine kg (some 14) rfl rfl Try.func10 (by kernel_rfl) rfl #[] rfl ?_; (with_reducible refine (trivetlaw13_up_s.calls  true _ A4.out).mono ?_); rintro e w68 ⟨rfl, hb⟩; refine ⟨_, rfl, ?_⟩; have n0_ := ka (blk_below (g := gb388) (kz BK388.out) hb); have n1_ := ka (below_step (kw HB.out) hb); clear BK388; clear HB; have BK388 := n0_; have HB := n1_; clear n0_ n1_; (try clear hb); (try clear hb2); (try clear hk); (try clear hi); have hcz69 := blkAll15 BK388.out) | ((with_reducible refine gate_callee (f := 18) rfl ?_); refine kg (some 19) rfl rfl Try.func18 (by kernel_rfl) rfl #[.agg #[.int .i64 a0_0, .int .i64 a0_1, .int .i64 a0_2, .int .i64 a0_3, .int .i64 a0_4, .int .i64 a0_5, .int .i64 a0_6, .int .i64 a0_7, .int .i64 a0_8, .int .i64 a0_9, .int .i64 a0_10, .int .i64 a0_11, .int .i64 a0_12, .int .i64 a0_13, .int .i64 a0_14], .int .i64 a1, .int .i64 a2] rfl ?_; (with_reducible refine (water_Curtail_s.calls a0_0 a0_1 a0_2 a0_3 a0_4 a0_5 a0_6 a0_7 a0_8 a0_9 a0_10 a0_11 a0_12 a0_13 a0_14 a1 a2 t390 t391 t392 t393 t394 t395 t396 t397 t398 t399 t400 t401 t402 t403 t404 (some q410) _ A5.out).mono ?_); rintro e w70 ⟨rfl, hb⟩; refine ⟨_, rfl, ?_⟩; have n0_ := ka (blk_below (g := gb388) (kz BK388.out) hb); have n1_ := ka (below_step (kw HB.out) hb); clear BK388; clear HB; have BK388 := n0_; have HB := n1_; clear n0_ n1_; (try clear hb); (try clear hb2); (try clear hk); (try clear hi); (try simp only [errW_none, errW_some])) | ((with_reducible refine gate_dst (N := 8) rfl ?_); refine kx (N := 8) (cs := #[.int .i64 0, .int .i64 0, .int .i64 0, .int .i64 0, .int .i64 0, .int .i64 0, .int .i64 0, .int .i64 0, .int .i64 0, .int .i64 0, .int .i64 0, .int .i64 0, .int .i64 0, .int .i64 0, .int .i64 0]) (t := 25) ?_; intro gb406 hg w71 hbox hb; have n0_ := ka (blk_below (g := gb388) (kz BK388.out) hb); have n1_ := ka (below_step (kw HB.out) hb); have n2_ := ka (hbox); have n3_ := ka ((by rw [hg]; exact (below_size (kw HB.out)) : w.heap.size ≤ gb406)); have n4_ := n3_; have n5_ := ka ((by rw [hg]; exact Nat.ne_of_lt (blk_lt (g := gb388) (kz BK388.out)) : gb388 ≠ gb406)); have n6_ := ka n5_.out.symm; clear BK388; clear HB; have BK388 := n0_; have HB := n1_; have BK406 := n2_; have GW406 := n3_; have GE406 := n4_; have NB388_406 := n5_; have NB406_388 := n6_; clear n0_ n1_ n2_ n3_ n4_ n5_ n6_; clear hb hbox hg; have hnb72 := NB406_388.out; have hnc72 := NB388_406.out; have hcz73 := blkAll15 BK406.out; have hcz74 := blkAll15 BK388.out) | ((with_reducible refine gate_callee (f := 17) rfl ?_); refine kg (some 25) rfl rfl Try.func17 (by kernel_rfl) rfl #[.agg #[.int .i64 a0_0, .int .i64 a0_1, .int .i64 a0_2, .int .i64 a0_3, .int .i64 a0_4, .int .i64 a0_5, .int .i64 a0_6, .int .i64 a0_7, .int .i64 a0_8, .int .i64 a0_9, .int .i64 a0_10, .int .i64 a0_11, .int .i64 a0_12, .int .i64 a0_13, .int .i64 a0_14], .int .i64 a1] rfl ?_; (with_reducible refine (water_Payoff_s.calls a0_0 a0_1 a0_2 a0_3 a0_4 a0_5 a0_6 a0_7 a0_8 a0_9 a0_10 a0_11 a0_12 a0_13 a0_14 a1 t407 (some q411) _ A6.out).mono ?_); rintro e w75 ⟨rfl, hb⟩; refine ⟨_, rfl, ?_⟩; have n0_ := ka (blk_below (g := gb388) (o := .cells #[.int .i64 a0_0, .int .i64 a0_1, .int .i64 a0_2, .int .i64 a0_3, .int .i64 a0_4, .int .i64 a0_5, .int .i64 a0_6, .int .i64 a0_7, .int .i64 a0_8, .int .i64 a0_9, .int .i64 a0_10, .int .i64 a0_11, .int .i64 a0_12, .int .i64 a0_13, .int .i64 a0_14] 25 (0, 0)) (by (with_reducible repeat (first | apply kb1 | apply kb2 | apply kb3 | refine kb4 ?_ NB388_406.out _)); exact BK388.out) hb); have n1_ := ka (blk_below (g := gb406) (o := .cells #[.int .i64 t390, .int .i64 t391, .int .i64 t392, .int .i64 t393, .int .i64 t394, .int .i64 t395, .int .i64 t396, .int .i64 t397, .int .i64 t398, .int .i64 t399, .int .i64 t400, .int .i64 t401, .int .i64 t402, .int .i64 t403, .int .i64 t404] 25 (0, 0)) (by (with_reducible repeat (first | apply kb1 | apply kb2 | apply kb3 | apply blkPut15_14 | apply blkPut15_13 | apply blkPut15_12 | apply blkPut15_11 | apply blkPut15_10 | apply blkPut15_9 | apply blkPut15_8 | apply blkPut15_7 | apply blkPut15_6 | apply blkPut15_5 | apply blkPut15_4 | apply blkPut15_3 | apply blkPut15_2 | apply blkPut15_1 | apply blkPut15_0)); exact BK406.out) hb); have n2_ := ka (below_step (kw HB.out) hb); clear BK388; clear BK406; clear HB; have BK388 := n0_; have BK406 := n1_; have HB := n2_; clear n0_ n1_ n2_; (try clear hb); (try clear hb2); (try clear hk); (try clear hi); (try simp only [errW_none, errW_some]); have hcz76 := blkAll15 BK388.out) | ((with_reducible refine gate_callee (f := 12) rfl ?_); refine kg (some 30) rfl rfl Try.func12 (by kernel_rfl) rfl #[.agg #[.int .i64 a0_0, .int .i64 a0_1, .int .i64 a0_2, .int .i64 a0_3, .int .i64 a0_4, .int .i64 a0_5, .int .i64 a0_6, .int .i64 a0_7, .int .i64 a0_8, .int .i64 a0_9, .int .i64 a0_10, .int .i64 a0_11, .int .i64 a0_12, .int .i64 a0_13, .int .i64 a0_14], .int .i64 a1, .int .i64 1] rfl ?_; (with_reducible refine (trivetref13_Asked_s.calls a0_0 a0_1 a0_2 a0_3 a0_4 a0_5 a0_6 a0_7 a0_8 a0_9 a0_10 a0_11 a0_12 a0_13 a0_14 a1 1 false _ A7.out).mono ?_); rintro e w77 ⟨rfl, hb⟩; refine ⟨_, rfl, ?_⟩; have n0_ := ka (blk_below (g := gb388) (kz BK388.out) hb); have n1_ := ka (blk_below (g := gb406) (kz BK406.out) hb); have n2_ := ka (below_step (kw HB.out) hb); clear BK388; clear BK406; clear HB; have BK388 := n0_; have BK406 := n1_; have HB := n2_; clear n0_ n1_ n2_; (try clear hb); (try clear hb2); (try clear hk); (try clear hi); have hcz78 := blkAll15 BK406.out) | ((with_reducible refine gate_load (T := 25) rfl ?_); first | refine load_event (g := gb388) rfl rfl rfl Try.underlying25 rfl (by (with_reducible repeat (first | apply kb1 | apply kb2 | apply kb3)); with_reducible exact BK388.out) (by kernel_rfl) ?_ | refine load_event (g := gb406) rfl rfl rfl Try.underlying25 rfl (by (with_reducible repeat (first | apply kb1 | apply kb2 | apply kb3)); with_reducible exact BK406.out) (by kernel_rfl) ?_ | refine load_event (g := gb418) rfl rfl rfl Try.underlying25 rfl (by (with_reducible repeat (first | apply kb1 | apply kb2 | apply kb3)); with_reducible exact BK418.out) (by kernel_rfl) ?_) | ((with_reducible refine gate_store (T := 25) rfl ?_); first | (refine store_event (g := gb388) rfl rfl rfl rfl rfl (by (with_reducible repeat (first | apply kb1 | apply kb2 | apply kb3)); with_reducible exact BK388.out) (by kernel_rfl) (by rfl) (by rfl) ?_; intro w_388 eX eO eB; (try (replace BK406 := ka ((eO _ NB406_388.out).trans (by (with_reducible repeat (first | apply kb1 | apply kb2 | apply kb3)); with_reducible exact BK406.out)))); (try (replace BK418 := ka ((eO _ NB418_388.out).trans (by (with_reducible repeat (first | apply kb1 | apply kb2 | apply kb3)); with_reducible exact BK418.out)))); replace BK388 := ka eX; replace HB := ka (eB _ _ (kw HB.out) GE388.out); clear eX eO eB; (try have hz388 := blkAll15 BK388.out); (try have hz406 := blkAll15 BK406.out); (try have hz418 := blkAll15 BK418.out); (try have hy406 := NB406_388.out); (try have hx406 := NB388_406.out); (try have hy418 := NB418_388.out); (try have hx418 := NB388_418.out)) | (refine store_event (g := gb406) rfl rfl rfl rfl rfl (by (with_reducible repeat (first | apply kb1 | apply kb2 | apply kb3)); with_reducible exact BK406.out) (by kernel_rfl) (by rfl) (by rfl) ?_; intro w_406 eX eO eB; (try (replace BK388 := ka ((eO _ NB388_406.out).trans (by (with_reducible repeat (first | apply kb1 | apply kb2 | apply kb3)); with_reducible exact BK388.out)))); (try (replace BK418 := ka ((eO _ NB418_406.out).trans (by (with_reducible repeat (first | apply kb1 | apply kb2 | apply kb3)); with_reducible exact BK418.out)))); replace BK406 := ka eX; replace HB := ka (eB _ _ (kw HB.out) GE406.out); clear eX eO eB; (try have hz388 := blkAll15 BK388.out); (try have hz406 := blkAll15 BK406.out); (try have hz418 := blkAll15 BK418.out); (try have hy388 := NB388_406.out); (try have hx388 := NB406_388.out); (try have hy418 := NB418_406.out); (try have hx418 := NB406_418.out)) | (refine store_event (g := gb418) rfl rfl rfl rfl rfl (by (with_reducible repeat (first | apply kb1 | apply kb2 | apply kb3)); with_reducible exact BK418.out) (by kernel_rfl) (by rfl) (by rfl) ?_; intro w_418 eX eO eB; (try (replace BK388 := ka ((eO _ NB388_418.out).trans (by (with_reducible repeat (first | apply kb1 | apply kb2 | apply kb3)); with_reducible exact BK388.out)))); (try (replace BK406 := ka ((eO _ NB406_418.out).trans (by (with_reducible repeat (first | apply kb1 | apply kb2 | apply kb3)); with_reducible exact BK406.out)))); replace BK418 := ka eX; replace HB := ka (eB _ _ (kw HB.out) GE418.out); clear eX eO eB; (try have hz388 := blkAll15 BK388.out); (try have hz406 := blkAll15 BK406.out); (try have hz418 := blkAll15 BK418.out); (try have hy388 := NB388_418.out); (try have hx388 := NB418_388.out); (try have hy406 := NB406_418.out); (try have hx406 := NB418_406.out))))
        go_ret
        exact ⟨by first | rfl | (simp [errW_none, errW_some] <;> rfl) | (simp [*, errW_none, errW_some] <;> rfl), by repeat (first | (with_reducible first | exact HB.out | apply kc1 | apply kc2 | apply kc3 | refine kc4 ?_ GE388.out | refine kc4 ?_ GE406.out) | exact HB.out)⟩
       ·rw [if_neg c66] at H
        exact absurd H (by simp)
     ·rw [if_neg c65] at H
      exact absurd H (by simp)
    ·rw [if_neg c64] at H
     exact absurd H (by simp)
  ·replace c63 := Bool.eq_false_iff.mpr c63
   subst c63
   have H1 : (none) = some r := by rw [if_neg (show ¬ (false = true) by decide)] at H; exact H
   clear H
   have H := H1
   clear H1
   exact absurd H (by simp)

/-- THE ONE PURE STATEMENT of trivetlaw13_WaterEnds: yours. -/
def trivetlaw13_WaterEnds.Pure : Prop := ∀ (a0_0 : Int) (a0_1 : Int) (a0_2 : Int) (a0_3 : Int) (a0_4 : Int) (a0_5 : Int) (a0_6 : Int) (a0_7 : Int) (a0_8 : Int) (a0_9 : Int) (a0_10 : Int) (a0_11 : Int) (a0_12 : Int) (a0_13 : Int) (a0_14 : Int) (a1 : Int) (a2 : Int), (Lit.int .i64 a0_0).wf = true → (Lit.int .i64 a0_1).wf = true → (Lit.int .i64 a0_2).wf = true → (Lit.int .i64 a0_3).wf = true → (Lit.int .i64 a0_4).wf = true → (Lit.int .i64 a0_5).wf = true → (Lit.int .i64 a0_6).wf = true → (Lit.int .i64 a0_7).wf = true → (Lit.int .i64 a0_8).wf = true → (Lit.int .i64 a0_9).wf = true → (Lit.int .i64 a0_10).wf = true → (Lit.int .i64 a0_11).wf = true → (Lit.int .i64 a0_12).wf = true → (Lit.int .i64 a0_13).wf = true → (Lit.int .i64 a0_14).wf = true → (Lit.int .i64 a1).wf = true → (Lit.int .i64 a2).wf = true → ∃ k, trivetlaw13_WaterEnds.f k a0_0 a0_1 a0_2 a0_3 a0_4 a0_5 a0_6 a0_7 a0_8 a0_9 a0_10 a0_11 a0_12 a0_13 a0_14 a1 a2 = some true
theorem trivetlaw13_WaterEnds.walk (P : trivetlaw13_WaterEnds.Pure) (a0_0 : Int) (a0_1 : Int) (a0_2 : Int) (a0_3 : Int) (a0_4 : Int) (a0_5 : Int) (a0_6 : Int) (a0_7 : Int) (a0_8 : Int) (a0_9 : Int) (a0_10 : Int) (a0_11 : Int) (a0_12 : Int) (a0_13 : Int) (a0_14 : Int) (a1 : Int) (a2 : Int) (w : World) (w0_0 : (Lit.int .i64 a0_0).wf = true) (w0_1 : (Lit.int .i64 a0_1).wf = true) (w0_2 : (Lit.int .i64 a0_2).wf = true) (w0_3 : (Lit.int .i64 a0_3).wf = true) (w0_4 : (Lit.int .i64 a0_4).wf = true) (w0_5 : (Lit.int .i64 a0_5).wf = true) (w0_6 : (Lit.int .i64 a0_6).wf = true) (w0_7 : (Lit.int .i64 a0_7).wf = true) (w0_8 : (Lit.int .i64 a0_8).wf = true) (w0_9 : (Lit.int .i64 a0_9).wf = true) (w0_10 : (Lit.int .i64 a0_10).wf = true) (w0_11 : (Lit.int .i64 a0_11).wf = true) (w0_12 : (Lit.int .i64 a0_12).wf = true) (w0_13 : (Lit.int .i64 a0_13).wf = true) (w0_14 : (Lit.int .i64 a0_14).wf = true) (w1 : (Lit.int .i64 a1).wf = true) (w2 : (Lit.int .i64 a2).wf = true) :
  Calls Try.prog 9 #[.agg #[.int .i64 a0_0, .int .i64 a0_1, .int .i64 a0_2, .int .i64 a0_3, .int .i64 a0_4, .int .i64 a0_5, .int .i64 a0_6, .int .i64 a0_7, .int .i64 a0_8, .int .i64 a0_9, .int .i64 a0_10, .int .i64 a0_11, .int .i64 a0_12, .int .i64 a0_13, .int .i64 a0_14], .int .i64 a1, .int .i64 a2] w fun e w' => e = .returned (.bool true) ∧ Below w.heap.size w w' := by
 obtain ⟨k, h⟩ := P a0_0 a0_1 a0_2 a0_3 a0_4 a0_5 a0_6 a0_7 a0_8 a0_9 a0_10 a0_11 a0_12 a0_13 a0_14 a1 a2 w0_0 w0_1 w0_2 w0_3 w0_4 w0_5 w0_6 w0_7 w0_8 w0_9 w0_10 w0_11 w0_12 w0_13 w0_14 w1 w2
 refine (trivetlaw13_WaterEnds.calls k a0_0 a0_1 a0_2 a0_3 a0_4 a0_5 a0_6 a0_7 a0_8 a0_9 a0_10 a0_11 a0_12 a0_13 a0_14 a1 a2 true w h).mono ?_
 rintro e w' ⟨rfl, hd⟩
 exact ⟨rfl, hd⟩

end Go.Proofs.Ytimobafoidplaaa.P
