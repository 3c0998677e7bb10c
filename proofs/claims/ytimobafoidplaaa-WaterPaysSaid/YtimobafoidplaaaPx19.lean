-- Written by a program of this session out of the translation of the seat: Lean functions and the proofs that the Go functions come to them.
import Derived.Test.YtimobafoidplaaaPx0
import Derived.Test.YtimobafoidplaaaPx18
namespace Go.Proofs.Ytimobafoidplaaa.P
open Go.RowKit Go.Proofs.YtimobafoidplaaaW.PrintWords Go.Proofs.YtimobafoidplaaaW.PrintLast Go.Proofs.YtimobafoidplaaaW.PrintMore
attribute [local go_sem] max2_int min2_int max_two min_two max_three min_three max_four min_four   -- for this text's walks alone
set_option linter.unusedVariables false
set_option linter.unusedSimpArgs false

/-! ### trivetref13_Pay: function 13 -/
mutual
def trivetref13_Pay.j2 : Nat → Int → Int → Int → Int → Int → Int → Int → Int → Int → Int → Int → Int → Int → Int → Int → Int → Int → Int → Int → Int → Int → Int → Option (Int × Int × Int × Int × Int × Int × Int × Int × Int × Int × Int × Int × Int × Int × Int × Int × Int × Int × Int × Int × Int)
 | 0, _, _, _, _, _, _, _, _, _, _, _, _, _, _, _, _, _, _, _, _, _, _ => none
 | k + 1, x1, x379000, x379001, x379002, x379003, x379004, x379005, x379006, x379007, x379008, x379009, x379010, x379011, x379012, x379013, x379014, x382000, x382001, x382002, x382003, x382004, x382005 => (trivetref13_current.f x379000 x379001 x379002 x379003 x379004 x379005 x379006 x379007 x379008 x379009 x379010 x379011 x379012 x379013 x379014 x1).bind fun t392 => (if t392 = true then (if x379014 > x379013 then (trivetref13_Pay.j3 k x379000 x379001 x379002 x379003 x379004 x379005 x379006 x379007 x379008 x379009 x379010 x379011 x379012 x379013 x379014 x382000 x382001 x382002 x382003 x379013 x382005) else (trivetref13_Pay.j3 k x379000 x379001 x379002 x379003 x379004 x379005 x379006 x379007 x379008 x379009 x379010 x379011 x379012 x379013 x379014 x382000 x382001 x382002 x382003 x379014 x382005)) else (trivetref13_Pay.j4 k x379000 x379001 x379002 x379003 x379004 x379005 x379006 x379007 x379008 x379009 x379010 x379011 x379012 x379013 x379014 x382000 x382001 x382002 x382003 x382004 x382005))
def trivetref13_Pay.j4 : Nat → Int → Int → Int → Int → Int → Int → Int → Int → Int → Int → Int → Int → Int → Int → Int → Int → Int → Int → Int → Int → Int → Option (Int × Int × Int × Int × Int × Int × Int × Int × Int × Int × Int × Int × Int × Int × Int × Int × Int × Int × Int × Int × Int)
 | 0, _, _, _, _, _, _, _, _, _, _, _, _, _, _, _, _, _, _, _, _, _ => none
 | k + 1, x379000, x379001, x379002, x379003, x379004, x379005, x379006, x379007, x379008, x379009, x379010, x379011, x379012, x379013, x379014, x382000, x382001, x382002, x382003, x382004, x382005 => some (x379000, x379001, x379002, x379003, x379004, x379005, x379006, x379007, x379008, x379009, x379010, x379011, x379012, x379013, x379014, x382000, x382001, x382002, x382003, x382004, x379013)
def trivetref13_Pay.j3 : Nat → Int → Int → Int → Int → Int → Int → Int → Int → Int → Int → Int → Int → Int → Int → Int → Int → Int → Int → Int → Int → Int → Option (Int × Int × Int × Int × Int × Int × Int × Int × Int × Int × Int × Int × Int × Int × Int × Int × Int × Int × Int × Int × Int)
 | 0, _, _, _, _, _, _, _, _, _, _, _, _, _, _, _, _, _, _, _, _, _ => none
 | k + 1, x379000, x379001, x379002, x379003, x379004, x379005, x379006, x379007, x379008, x379009, x379010, x379011, x379012, x379013, x379014, x382000, x382001, x382002, x382003, x382004, x382005 => trivetref13_Pay.j4 k x379000 x379001 x379002 x379003 x379004 x379005 x379006 x379007 x379008 x379009 x379010 x379011 x379012 (wrap64 (x379013 - x382004)) (wrap64 (x379014 - x382004)) x382000 x382001 x382002 x382003 x382004 x382005
def trivetref13_Pay.l0 : Nat → Int → Int → Int → Int → Int → Int → Int → Int → Int → Int → Int → Int → Int → Int → Int → Int → Int → Int → Int → Int → Int → Int → Option (Int × Int × Int × Int × Int × Int × Int × Int × Int × Int × Int × Int × Int × Int × Int × Int × Int × Int × Int × Int × Int)
 | 0, _, _, _, _, _, _, _, _, _, _, _, _, _, _, _, _, _, _, _, _, _, _ => none
 | k + 1, x1, x379000, x379001, x379002, x379003, x379004, x379005, x379006, x379007, x379008, x379009, x379010, x379011, x379012, x379013, x379014, x382000, x382001, x382002, x382003, x382004, x382005 => if x379012 < 480 then ((trivetref13_current.f x379000 x379001 x379002 x379003 x379004 x379005 x379006 x379007 x379008 x379009 x379010 x379011 x379012 x379013 x379014 x1).bind fun t382 => (trivetref13_Pay.j1 k x1 (!t382) x379000 x379001 x379002 x379003 x379004 x379005 x379006 x379007 x379008 x379009 x379010 x379011 x379012 x379013 x379014 x382000 x382001 x382002 x382003 x382004 x382005)) else (trivetref13_Pay.j1 k x1 false x379000 x379001 x379002 x379003 x379004 x379005 x379006 x379007 x379008 x379009 x379010 x379011 x379012 x379013 x379014 x382000 x382001 x382002 x382003 x382004 x382005)
def trivetref13_Pay.j1 : Nat → Int → Bool → Int → Int → Int → Int → Int → Int → Int → Int → Int → Int → Int → Int → Int → Int → Int → Int → Int → Int → Int → Int → Int → Option (Int × Int × Int × Int × Int × Int × Int × Int × Int × Int × Int × Int × Int × Int × Int × Int × Int × Int × Int × Int × Int)
 | 0, _, _, _, _, _, _, _, _, _, _, _, _, _, _, _, _, _, _, _, _, _, _, _ => none
 | k + 1, x1, x27, x379000, x379001, x379002, x379003, x379004, x379005, x379006, x379007, x379008, x379009, x379010, x379011, x379012, x379013, x379014, x382000, x382001, x382002, x382003, x382004, x382005 => if x27 = true then ((trivetref13_Next_s.f x379000 x379001 x379002 x379003 x379004 x379005 x379006 x379007 x379008 x379009 x379010 x379011 x379012 x379013 x379014).bind fun bt383 => ((trivetref13_later_s.f x379011).bind fun bt390 => (if bt390.2 = true then (if x379013 < (wrap64 ((wrap64 (bt383.2.1 + bt383.2.2.1)) + bt383.2.2.2.1)) then (trivetref13_Pay.j2 k x1 x379000 x379001 x379002 x379003 x379004 x379005 x379006 x379007 x379008 x379009 x379010 x379011 x379012 x379013 x379014 x382000 x382001 x382002 x382003 x382004 x382005) else (trivetref13_Pay.l0 k x1 x379000 x379001 x379002 x379003 x379004 x379005 x379006 x379007 x379008 bt383.2.2.2.2.2 x379010 bt390.1 (wrap64 (x379012 + 1)) (wrap64 (x379013 - (wrap64 ((wrap64 (bt383.2.1 + bt383.2.2.1)) + bt383.2.2.2.1)))) x379014 (wrap64 (x382000 + 1)) (wrap64 (x382001 + bt383.2.1)) (wrap64 (x382002 + bt383.2.2.1)) (wrap64 (x382003 + bt383.2.2.2.1)) x382004 x382005)) else (trivetref13_Pay.j2 k x1 x379000 x379001 x379002 x379003 x379004 x379005 x379006 x379007 x379008 x379009 x379010 x379011 x379012 x379013 x379014 x382000 x382001 x382002 x382003 x382004 x382005)))) else (trivetref13_Pay.j2 k x1 x379000 x379001 x379002 x379003 x379004 x379005 x379006 x379007 x379008 x379009 x379010 x379011 x379012 x379013 x379014 x382000 x382001 x382002 x382003 x382004 x382005)
end
def trivetref13_Pay.f (k : Nat) (a0_0 : Int) (a0_1 : Int) (a0_2 : Int) (a0_3 : Int) (a0_4 : Int) (a0_5 : Int) (a0_6 : Int) (a0_7 : Int) (a0_8 : Int) (a0_9 : Int) (a0_10 : Int) (a0_11 : Int) (a0_12 : Int) (a0_13 : Int) (a0_14 : Int) (a1 : Int) (a2 : Int) : Option (Int × Int × Int × Int × Int × Int × Int × Int × Int × Int × Int × Int × Int × Int × Int × Int × Int × Int × Int × Int × Int) := trivetref13_Pay.l0 k a1 a0_0 a0_1 a0_2 a0_3 a0_4 a0_5 a0_6 a0_7 a0_8 a0_9 a0_10 a0_11 a0_12 (wrap64 (a0_13 + a2)) a0_14 0 0 0 0 0 0
theorem trivetref13_Pay.mono_l : ∀ k, (∀ y0 y1 y2 y3 y4 y5 y6 y7 y8 y9 y10 y11 y12 y13 y14 y15 y16 y17 y18 y19 y20 y21, LeO (trivetref13_Pay.j2 k y0 y1 y2 y3 y4 y5 y6 y7 y8 y9 y10 y11 y12 y13 y14 y15 y16 y17 y18 y19 y20 y21) (trivetref13_Pay.j2 (k + 1) y0 y1 y2 y3 y4 y5 y6 y7 y8 y9 y10 y11 y12 y13 y14 y15 y16 y17 y18 y19 y20 y21)) ∧ (∀ y0 y1 y2 y3 y4 y5 y6 y7 y8 y9 y10 y11 y12 y13 y14 y15 y16 y17 y18 y19 y20, LeO (trivetref13_Pay.j4 k y0 y1 y2 y3 y4 y5 y6 y7 y8 y9 y10 y11 y12 y13 y14 y15 y16 y17 y18 y19 y20) (trivetref13_Pay.j4 (k + 1) y0 y1 y2 y3 y4 y5 y6 y7 y8 y9 y10 y11 y12 y13 y14 y15 y16 y17 y18 y19 y20)) ∧ (∀ y0 y1 y2 y3 y4 y5 y6 y7 y8 y9 y10 y11 y12 y13 y14 y15 y16 y17 y18 y19 y20, LeO (trivetref13_Pay.j3 k y0 y1 y2 y3 y4 y5 y6 y7 y8 y9 y10 y11 y12 y13 y14 y15 y16 y17 y18 y19 y20) (trivetref13_Pay.j3 (k + 1) y0 y1 y2 y3 y4 y5 y6 y7 y8 y9 y10 y11 y12 y13 y14 y15 y16 y17 y18 y19 y20)) ∧ (∀ y0 y1 y2 y3 y4 y5 y6 y7 y8 y9 y10 y11 y12 y13 y14 y15 y16 y17 y18 y19 y20 y21, LeO (trivetref13_Pay.l0 k y0 y1 y2 y3 y4 y5 y6 y7 y8 y9 y10 y11 y12 y13 y14 y15 y16 y17 y18 y19 y20 y21) (trivetref13_Pay.l0 (k + 1) y0 y1 y2 y3 y4 y5 y6 y7 y8 y9 y10 y11 y12 y13 y14 y15 y16 y17 y18 y19 y20 y21)) ∧ (∀ y0 y1 y2 y3 y4 y5 y6 y7 y8 y9 y10 y11 y12 y13 y14 y15 y16 y17 y18 y19 y20 y21 y22, LeO (trivetref13_Pay.j1 k y0 y1 y2 y3 y4 y5 y6 y7 y8 y9 y10 y11 y12 y13 y14 y15 y16 y17 y18 y19 y20 y21 y22) (trivetref13_Pay.j1 (k + 1) y0 y1 y2 y3 y4 y5 y6 y7 y8 y9 y10 y11 y12 y13 y14 y15 y16 y17 y18 y19 y20 y21 y22))
 | 0 => ⟨fun _ _ _ _ _ _ _ _ _ _ _ _ _ _ _ _ _ _ _ _ _ _ r h => by simp [trivetref13_Pay.j2] at h, fun _ _ _ _ _ _ _ _ _ _ _ _ _ _ _ _ _ _ _ _ _ r h => by simp [trivetref13_Pay.j4] at h, fun _ _ _ _ _ _ _ _ _ _ _ _ _ _ _ _ _ _ _ _ _ r h => by simp [trivetref13_Pay.j3] at h, fun _ _ _ _ _ _ _ _ _ _ _ _ _ _ _ _ _ _ _ _ _ _ r h => by simp [trivetref13_Pay.l0] at h, fun _ _ _ _ _ _ _ _ _ _ _ _ _ _ _ _ _ _ _ _ _ _ _ r h => by simp [trivetref13_Pay.j1] at h⟩
 | k + 1 => by
  obtain ⟨ih0, ih1, ih2, ih3, ih4⟩ := trivetref13_Pay.mono_l k
  refine ⟨?_, ?_, ?_, ?_, ?_⟩
  ·intro y0 y1 y2 y3 y4 y5 y6 y7 y8 y9 y10 y11 y12 y13 y14 y15 y16 y17 y18 y19 y20 y21
   unfold trivetref13_Pay.j2
   repeat' first
   | (with_reducible exact ih0 _ _ _ _ _ _ _ _ _ _ _ _ _ _ _ _ _ _ _ _ _ _)
   | (with_reducible exact ih1 _ _ _ _ _ _ _ _ _ _ _ _ _ _ _ _ _ _ _ _ _)
   | (with_reducible exact ih2 _ _ _ _ _ _ _ _ _ _ _ _ _ _ _ _ _ _ _ _ _)
   | (with_reducible exact ih3 _ _ _ _ _ _ _ _ _ _ _ _ _ _ _ _ _ _ _ _ _ _)
   | (with_reducible exact ih4 _ _ _ _ _ _ _ _ _ _ _ _ _ _ _ _ _ _ _ _ _ _ _)
   | (with_reducible exact LeO.refl _)
   | (with_reducible exact LeO.none _)
   | (with_reducible refine LeO.ite ?_ ?_)
   | (with_reducible refine LeO.bind ?_ (fun _ => ?_))
   | exact ih0 _ _ _ _ _ _ _ _ _ _ _ _ _ _ _ _ _ _ _ _ _ _
   | exact ih1 _ _ _ _ _ _ _ _ _ _ _ _ _ _ _ _ _ _ _ _ _
   | exact ih2 _ _ _ _ _ _ _ _ _ _ _ _ _ _ _ _ _ _ _ _ _
   | exact ih3 _ _ _ _ _ _ _ _ _ _ _ _ _ _ _ _ _ _ _ _ _ _
   | exact ih4 _ _ _ _ _ _ _ _ _ _ _ _ _ _ _ _ _ _ _ _ _ _ _
   | exact LeO.none _
   | refine LeO.ite ?_ ?_
   | refine LeO.bind ?_ (fun _ => ?_)
  ·intro y0 y1 y2 y3 y4 y5 y6 y7 y8 y9 y10 y11 y12 y13 y14 y15 y16 y17 y18 y19 y20
   unfold trivetref13_Pay.j4
   repeat' first
   | (with_reducible exact ih0 _ _ _ _ _ _ _ _ _ _ _ _ _ _ _ _ _ _ _ _ _ _)
   | (with_reducible exact ih1 _ _ _ _ _ _ _ _ _ _ _ _ _ _ _ _ _ _ _ _ _)
   | (with_reducible exact ih2 _ _ _ _ _ _ _ _ _ _ _ _ _ _ _ _ _ _ _ _ _)
   | (with_reducible exact ih3 _ _ _ _ _ _ _ _ _ _ _ _ _ _ _ _ _ _ _ _ _ _)
   | (with_reducible exact ih4 _ _ _ _ _ _ _ _ _ _ _ _ _ _ _ _ _ _ _ _ _ _ _)
   | (with_reducible exact LeO.refl _)
   | (with_reducible exact LeO.none _)
   | (with_reducible refine LeO.ite ?_ ?_)
   | (with_reducible refine LeO.bind ?_ (fun _ => ?_))
   | exact ih0 _ _ _ _ _ _ _ _ _ _ _ _ _ _ _ _ _ _ _ _ _ _
   | exact ih1 _ _ _ _ _ _ _ _ _ _ _ _ _ _ _ _ _ _ _ _ _
   | exact ih2 _ _ _ _ _ _ _ _ _ _ _ _ _ _ _ _ _ _ _ _ _
   | exact ih3 _ _ _ _ _ _ _ _ _ _ _ _ _ _ _ _ _ _ _ _ _ _
   | exact ih4 _ _ _ _ _ _ _ _ _ _ _ _ _ _ _ _ _ _ _ _ _ _ _
   | exact LeO.none _
   | refine LeO.ite ?_ ?_
   | refine LeO.bind ?_ (fun _ => ?_)
  ·intro y0 y1 y2 y3 y4 y5 y6 y7 y8 y9 y10 y11 y12 y13 y14 y15 y16 y17 y18 y19 y20
   unfold trivetref13_Pay.j3
   repeat' first
   | (with_reducible exact ih0 _ _ _ _ _ _ _ _ _ _ _ _ _ _ _ _ _ _ _ _ _ _)
   | (with_reducible exact ih1 _ _ _ _ _ _ _ _ _ _ _ _ _ _ _ _ _ _ _ _ _)
   | (with_reducible exact ih2 _ _ _ _ _ _ _ _ _ _ _ _ _ _ _ _ _ _ _ _ _)
   | (with_reducible exact ih3 _ _ _ _ _ _ _ _ _ _ _ _ _ _ _ _ _ _ _ _ _ _)
   | (with_reducible exact ih4 _ _ _ _ _ _ _ _ _ _ _ _ _ _ _ _ _ _ _ _ _ _ _)
   | (with_reducible exact LeO.refl _)
   | (with_reducible exact LeO.none _)
   | (with_reducible refine LeO.ite ?_ ?_)
   | (with_reducible refine LeO.bind ?_ (fun _ => ?_))
   | exact ih0 _ _ _ _ _ _ _ _ _ _ _ _ _ _ _ _ _ _ _ _ _ _
   | exact ih1 _ _ _ _ _ _ _ _ _ _ _ _ _ _ _ _ _ _ _ _ _
   | exact ih2 _ _ _ _ _ _ _ _ _ _ _ _ _ _ _ _ _ _ _ _ _
   | exact ih3 _ _ _ _ _ _ _ _ _ _ _ _ _ _ _ _ _ _ _ _ _ _
   | exact ih4 _ _ _ _ _ _ _ _ _ _ _ _ _ _ _ _ _ _ _ _ _ _ _
   | exact LeO.none _
   | refine LeO.ite ?_ ?_
   | refine LeO.bind ?_ (fun _ => ?_)
  ·intro y0 y1 y2 y3 y4 y5 y6 y7 y8 y9 y10 y11 y12 y13 y14 y15 y16 y17 y18 y19 y20 y21
   unfold trivetref13_Pay.l0
   repeat' first
   | (with_reducible exact ih0 _ _ _ _ _ _ _ _ _ _ _ _ _ _ _ _ _ _ _ _ _ _)
   | (with_reducible exact ih1 _ _ _ _ _ _ _ _ _ _ _ _ _ _ _ _ _ _ _ _ _)
   | (with_reducible exact ih2 _ _ _ _ _ _ _ _ _ _ _ _ _ _ _ _ _ _ _ _ _)
   | (with_reducible exact ih3 _ _ _ _ _ _ _ _ _ _ _ _ _ _ _ _ _ _ _ _ _ _)
   | (with_reducible exact ih4 _ _ _ _ _ _ _ _ _ _ _ _ _ _ _ _ _ _ _ _ _ _ _)
   | (with_reducible exact LeO.refl _)
   | (with_reducible exact LeO.none _)
   | (with_reducible refine LeO.ite ?_ ?_)
   | (with_reducible refine LeO.bind ?_ (fun _ => ?_))
   | exact ih0 _ _ _ _ _ _ _ _ _ _ _ _ _ _ _ _ _ _ _ _ _ _
   | exact ih1 _ _ _ _ _ _ _ _ _ _ _ _ _ _ _ _ _ _ _ _ _
   | exact ih2 _ _ _ _ _ _ _ _ _ _ _ _ _ _ _ _ _ _ _ _ _
   | exact ih3 _ _ _ _ _ _ _ _ _ _ _ _ _ _ _ _ _ _ _ _ _ _
   | exact ih4 _ _ _ _ _ _ _ _ _ _ _ _ _ _ _ _ _ _ _ _ _ _ _
   | exact LeO.none _
   | refine LeO.ite ?_ ?_
   | refine LeO.bind ?_ (fun _ => ?_)
  ·intro y0 y1 y2 y3 y4 y5 y6 y7 y8 y9 y10 y11 y12 y13 y14 y15 y16 y17 y18 y19 y20 y21 y22
   unfold trivetref13_Pay.j1
   repeat' first
   | (with_reducible exact ih0 _ _ _ _ _ _ _ _ _ _ _ _ _ _ _ _ _ _ _ _ _ _)
   | (with_reducible exact ih1 _ _ _ _ _ _ _ _ _ _ _ _ _ _ _ _ _ _ _ _ _)
   | (with_reducible exact ih2 _ _ _ _ _ _ _ _ _ _ _ _ _ _ _ _ _ _ _ _ _)
   | (with_reducible exact ih3 _ _ _ _ _ _ _ _ _ _ _ _ _ _ _ _ _ _ _ _ _ _)
   | (with_reducible exact ih4 _ _ _ _ _ _ _ _ _ _ _ _ _ _ _ _ _ _ _ _ _ _ _)
   | (with_reducible exact LeO.refl _)
   | (with_reducible exact LeO.none _)
   | (with_reducible refine LeO.ite ?_ ?_)
   | (with_reducible refine LeO.bind ?_ (fun _ => ?_))
   | exact ih0 _ _ _ _ _ _ _ _ _ _ _ _ _ _ _ _ _ _ _ _ _ _
   | exact ih1 _ _ _ _ _ _ _ _ _ _ _ _ _ _ _ _ _ _ _ _ _
   | exact ih2 _ _ _ _ _ _ _ _ _ _ _ _ _ _ _ _ _ _ _ _ _
   | exact ih3 _ _ _ _ _ _ _ _ _ _ _ _ _ _ _ _ _ _ _ _ _ _
   | exact ih4 _ _ _ _ _ _ _ _ _ _ _ _ _ _ _ _ _ _ _ _ _ _ _
   | exact LeO.none _
   | refine LeO.ite ?_ ?_
   | refine LeO.bind ?_ (fun _ => ?_)
theorem trivetref13_Pay.mono : ∀ a0 a1 a2 a3 a4 a5 a6 a7 a8 a9 a10 a11 a12 a13 a14 a15 a16 k, LeO (trivetref13_Pay.f k a0 a1 a2 a3 a4 a5 a6 a7 a8 a9 a10 a11 a12 a13 a14 a15 a16) (trivetref13_Pay.f (k + 1) a0 a1 a2 a3 a4 a5 a6 a7 a8 a9 a10 a11 a12 a13 a14 a15 a16) := by
 intro a0 a1 a2 a3 a4 a5 a6 a7 a8 a9 a10 a11 a12 a13 a14 a15 a16 k
 obtain ⟨ih0, ih1, ih2, ih3, ih4⟩ := trivetref13_Pay.mono_l k
 unfold trivetref13_Pay.f
 repeat' first
   | (with_reducible exact ih0 _ _ _ _ _ _ _ _ _ _ _ _ _ _ _ _ _ _ _ _ _ _)
   | (with_reducible exact ih1 _ _ _ _ _ _ _ _ _ _ _ _ _ _ _ _ _ _ _ _ _)
   | (with_reducible exact ih2 _ _ _ _ _ _ _ _ _ _ _ _ _ _ _ _ _ _ _ _ _)
   | (with_reducible exact ih3 _ _ _ _ _ _ _ _ _ _ _ _ _ _ _ _ _ _ _ _ _ _)
   | (with_reducible exact ih4 _ _ _ _ _ _ _ _ _ _ _ _ _ _ _ _ _ _ _ _ _ _ _)
   | (with_reducible exact LeO.refl _)
   | (with_reducible exact LeO.none _)
   | (with_reducible refine LeO.ite ?_ ?_)
   | (with_reducible refine LeO.bind ?_ (fun _ => ?_))
   | exact ih0 _ _ _ _ _ _ _ _ _ _ _ _ _ _ _ _ _ _ _ _ _ _
   | exact ih1 _ _ _ _ _ _ _ _ _ _ _ _ _ _ _ _ _ _ _ _ _
   | exact ih2 _ _ _ _ _ _ _ _ _ _ _ _ _ _ _ _ _ _ _ _ _
   | exact ih3 _ _ _ _ _ _ _ _ _ _ _ _ _ _ _ _ _ _ _ _ _ _
   | exact ih4 _ _ _ _ _ _ _ _ _ _ _ _ _ _ _ _ _ _ _ _ _ _ _
   | exact LeO.none _
   | refine LeO.ite ?_ ?_
   | refine LeO.bind ?_ (fun _ => ?_)
set_option maxHeartbeats 8000000 in
set_option maxRecDepth 100000 in
theorem trivetref13_Pay.calls (k : Nat) (a0_0 : Int) (a0_1 : Int) (a0_2 : Int) (a0_3 : Int) (a0_4 : Int) (a0_5 : Int) (a0_6 : Int) (a0_7 : Int) (a0_8 : Int) (a0_9 : Int) (a0_10 : Int) (a0_11 : Int) (a0_12 : Int) (a0_13 : Int) (a0_14 : Int) (a1 : Int) (a2 : Int) (r1 : Int) (r2 : Int) (r3 : Int) (r4 : Int) (r5 : Int) (r6 : Int) (r7 : Int) (r8 : Int) (r9 : Int) (r10 : Int) (r11 : Int) (r12 : Int) (r13 : Int) (r14 : Int) (r15 : Int) (r16 : Int) (r17 : Int) (r18 : Int) (r19 : Int) (r20 : Int) (r21 : Int) (w : World) (h : trivetref13_Pay.f k a0_0 a0_1 a0_2 a0_3 a0_4 a0_5 a0_6 a0_7 a0_8 a0_9 a0_10 a0_11 a0_12 a0_13 a0_14 a1 a2 = some (r1, r2, r3, r4, r5, r6, r7, r8, r9, r10, r11, r12, r13, r14, r15, r16, r17, r18, r19, r20, r21)) :
  Calls Try.prog 13 #[.agg #[.int .i64 a0_0, .int .i64 a0_1, .int .i64 a0_2, .int .i64 a0_3, .int .i64 a0_4, .int .i64 a0_5, .int .i64 a0_6, .int .i64 a0_7, .int .i64 a0_8, .int .i64 a0_9, .int .i64 a0_10, .int .i64 a0_11, .int .i64 a0_12, .int .i64 a0_13, .int .i64 a0_14], .int .i64 a1, .int .i64 a2] w fun e w' => e = .returned (.tuple #[.agg #[.int .i64 r1, .int .i64 r2, .int .i64 r3, .int .i64 r4, .int .i64 r5, .int .i64 r6, .int .i64 r7, .int .i64 r8, .int .i64 r9, .int .i64 r10, .int .i64 r11, .int .i64 r12, .int .i64 r13, .int .i64 r14, .int .i64 r15], .agg #[.int .i64 r16, .int .i64 r17, .int .i64 r18, .int .i64 r19, .int .i64 r20, .int .i64 r21]]) ∧ Below w.heap.size w w' := by
 have hu25 := Try.underlying25
 have hu28 := Try.underlying28
 have HB := ka (Below.refl w.heap.size w)
 have H : (trivetref13_Pay.l0 k a1 a0_0 a0_1 a0_2 a0_3 a0_4 a0_5 a0_6 a0_7 a0_8 a0_9 a0_10 a0_11 a0_12 (wrap64 (a0_13 + a2)) a0_14 0 0 0 0 0 0) = some (r1, r2, r3, r4, r5, r6, r7, r8, r9, r10, r11, r12, r13, r14, r15, r16, r17, r18, r19, r20, r21) := h
 clear h
 have HC4 := ka H
 clear H
 go_enter Try.func13, Try.ntmps13
 go_upto_block 0 with (first | ((with_reducible refine gate_dst (N := 3) rfl ?_); refine kx (N := 3) (cs := #[.int .i64 a0_0, .int .i64 a0_1, .int .i64 a0_2, .int .i64 a0_3, .int .i64 a0_4, .int .i64 a0_5, .int .i64 a0_6, .int .i64 a0_7, .int .i64 a0_8, .int .i64 a0_9, .int .i64 a0_10, .int .i64 a0_11, .int .i64 a0_12, .int .i64 a0_13, .int .i64 a0_14]) (t := 25) ?_; intro gb378 hg w5 hbox hb; have n0_ := ka (below_step (kw HB.out) hb); have n1_ := ka (hbox); have n2_ := ka ((by rw [hg]; exact (below_size (kw HB.out)) : w.heap.size ≤ gb378)); have n3_ := n2_; clear HB; have HB := n0_; have BK378 := n1_; have GW378 := n2_; have GE378 := n3_; clear n0_ n1_ n2_ n3_; clear hb hbox hg) | ((with_reducible refine gate_dst (N := 6) rfl ?_); refine kx (N := 6) (cs := #[.int .i64 0, .int .i64 0, .int .i64 0, .int .i64 0, .int .i64 0, .int .i64 0, .int .i64 0, .int .i64 0, .int .i64 0, .int .i64 0, .int .i64 0, .int .i64 0, .int .i64 0, .int .i64 0, .int .i64 0]) (t := 25) ?_; intro gb379 hg w6 hbox hb; have n0_ := ka (blk_below (g := gb378) (kz BK378.out) hb); have n1_ := ka (below_step (kw HB.out) hb); have n2_ := ka (hbox); have n3_ := ka ((by rw [hg]; exact (below_size (kw HB.out)) : w.heap.size ≤ gb379)); have n4_ := n3_; have n5_ := ka ((by rw [hg]; exact Nat.ne_of_lt (blk_lt (g := gb378) (kz BK378.out)) : gb378 ≠ gb379)); have n6_ := ka n5_.out.symm; clear BK378; clear HB; have BK378 := n0_; have HB := n1_; have BK379 := n2_; have GW379 := n3_; have GE379 := n4_; have NB378_379 := n5_; have NB379_378 := n6_; clear n0_ n1_ n2_ n3_ n4_ n5_ n6_; clear hb hbox hg) | ((with_reducible refine gate_dst (N := 7) rfl ?_); refine kx (N := 7) (cs := #[.int .i64 0, .int .i64 0, .int .i64 0, .int .i64 0, .int .i64 0, .int .i64 0]) (t := 28) ?_; intro gb380 hg w7 hbox hb; have n0_ := ka (blk_below (g := gb378) (kz BK378.out) hb); have n1_ := ka (blk_below (g := gb379) (kz BK379.out) hb); have n2_ := ka (below_step (kw HB.out) hb); have n3_ := ka (hbox); have n4_ := ka ((by rw [hg]; exact (below_size (kw HB.out)) : w.heap.size ≤ gb380)); have n5_ := n4_; have n6_ := ka ((by rw [hg]; exact Nat.ne_of_lt (blk_lt (g := gb378) (kz BK378.out)) : gb378 ≠ gb380)); have n7_ := ka n6_.out.symm; have n8_ := ka ((by rw [hg]; exact Nat.ne_of_lt (blk_lt (g := gb379) (kz BK379.out)) : gb379 ≠ gb380)); have n9_ := ka n8_.out.symm; clear BK378; clear BK379; clear HB; have BK378 := n0_; have BK379 := n1_; have HB := n2_; have BK380 := n3_; have GW380 := n4_; have GE380 := n5_; have NB378_380 := n6_; have NB380_378 := n7_; have NB379_380 := n8_; have NB380_379 := n9_; clear n0_ n1_ n2_ n3_ n4_ n5_ n6_ n7_ n8_ n9_; clear hb hbox hg; have hnb8 := NB378_379.out; have hnc8 := NB379_378.out; have hnb9 := NB378_380.out; have hnc9 := NB380_378.out; have hcz10 := blkAll15 BK378.out) | ((with_reducible refine gate_dst (N := 8) rfl ?_); refine kx (N := 8) (cs := #[.int .i64 0, .int .i64 0, .int .i64 0, .int .i64 0, .int .i64 0, .int .i64 0]) (t := 28) ?_; intro gb381 hg w11 hbox hb; have n0_ := ka (blk_below (g := gb378) (o := .cells #[.int .i64 a0_0, .int .i64 a0_1, .int .i64 a0_2, .int .i64 a0_3, .int .i64 a0_4, .int .i64 a0_5, .int .i64 a0_6, .int .i64 a0_7, .int .i64 a0_8, .int .i64 a0_9, .int .i64 a0_10, .int .i64 a0_11, .int .i64 a0_12, .int .i64 (wrap64 (a0_13 + a2)), .int .i64 a0_14] 25 (0, 0)) (by (with_reducible repeat (first | apply kb1 | apply kb2 | apply kb3)); refine blk_put (cs := #[.int .i64 a0_0, .int .i64 a0_1, .int .i64 a0_2, .int .i64 a0_3, .int .i64 a0_4, .int .i64 a0_5, .int .i64 a0_6, .int .i64 a0_7, .int .i64 a0_8, .int .i64 a0_9, .int .i64 a0_10, .int .i64 a0_11, .int .i64 a0_12, .int .i64 a0_13, .int .i64 a0_14]) ?_ 13 _ rfl; (with_reducible repeat (first | apply kb1 | apply kb2 | apply kb3)); exact BK378.out) hb); have n1_ := ka (blk_below (g := gb379) (o := .cells #[.int .i64 0, .int .i64 0, .int .i64 0, .int .i64 0, .int .i64 0, .int .i64 0, .int .i64 0, .int .i64 0, .int .i64 0, .int .i64 0, .int .i64 0, .int .i64 0, .int .i64 0, .int .i64 0, .int .i64 0] 25 (0, 0)) (by (with_reducible repeat (first | apply kb1 | apply kb2 | apply kb3)); refine kb4 ?_ NB379_378.out _; (with_reducible repeat (first | apply kb1 | apply kb2 | apply kb3)); exact BK379.out) hb); have n2_ := ka (blk_below (g := gb380) (o := .cells #[.int .i64 0, .int .i64 0, .int .i64 0, .int .i64 0, .int .i64 0, .int .i64 0] 28 (0, 0)) (by (with_reducible repeat (first | apply kb1 | apply kb2 | apply kb3)); refine kb4 ?_ NB380_378.out _; (with_reducible repeat (first | apply kb1 | apply kb2 | apply kb3)); exact BK380.out) hb); have n3_ := ka (below_step (kw HB.out) hb); have n4_ := ka (hbox); have n5_ := ka ((by rw [hg]; exact (below_size (kw HB.out)) : w.heap.size ≤ gb381)); have n6_ := n5_; have n7_ := ka ((by rw [hg]; exact Nat.ne_of_lt (blk_lt (g := gb378) (o := .cells #[.int .i64 a0_0, .int .i64 a0_1, .int .i64 a0_2, .int .i64 a0_3, .int .i64 a0_4, .int .i64 a0_5, .int .i64 a0_6, .int .i64 a0_7, .int .i64 a0_8, .int .i64 a0_9, .int .i64 a0_10, .int .i64 a0_11, .int .i64 a0_12, .int .i64 (wrap64 (a0_13 + a2)), .int .i64 a0_14] 25 (0, 0)) (by (with_reducible repeat (first | apply kb1 | apply kb2 | apply kb3)); refine blk_put (cs := #[.int .i64 a0_0, .int .i64 a0_1, .int .i64 a0_2, .int .i64 a0_3, .int .i64 a0_4, .int .i64 a0_5, .int .i64 a0_6, .int .i64 a0_7, .int .i64 a0_8, .int .i64 a0_9, .int .i64 a0_10, .int .i64 a0_11, .int .i64 a0_12, .int .i64 a0_13, .int .i64 a0_14]) ?_ 13 _ rfl; (with_reducible repeat (first | apply kb1 | apply kb2 | apply kb3)); exact BK378.out)) : gb378 ≠ gb381)); have n8_ := ka ((by rw [hg]; exact Nat.ne_of_gt (blk_lt (g := gb378) (o := .cells #[.int .i64 a0_0, .int .i64 a0_1, .int .i64 a0_2, .int .i64 a0_3, .int .i64 a0_4, .int .i64 a0_5, .int .i64 a0_6, .int .i64 a0_7, .int .i64 a0_8, .int .i64 a0_9, .int .i64 a0_10, .int .i64 a0_11, .int .i64 a0_12, .int .i64 (wrap64 (a0_13 + a2)), .int .i64 a0_14] 25 (0, 0)) (by (with_reducible repeat (first | apply kb1 | apply kb2 | apply kb3)); refine blk_put (cs := #[.int .i64 a0_0, .int .i64 a0_1, .int .i64 a0_2, .int .i64 a0_3, .int .i64 a0_4, .int .i64 a0_5, .int .i64 a0_6, .int .i64 a0_7, .int .i64 a0_8, .int .i64 a0_9, .int .i64 a0_10, .int .i64 a0_11, .int .i64 a0_12, .int .i64 a0_13, .int .i64 a0_14]) ?_ 13 _ rfl; (with_reducible repeat (first | apply kb1 | apply kb2 | apply kb3)); exact BK378.out)) : gb381 ≠ gb378)); have n9_ := ka ((by rw [hg]; exact Nat.ne_of_lt (blk_lt (g := gb379) (o := .cells #[.int .i64 0, .int .i64 0, .int .i64 0, .int .i64 0, .int .i64 0, .int .i64 0, .int .i64 0, .int .i64 0, .int .i64 0, .int .i64 0, .int .i64 0, .int .i64 0, .int .i64 0, .int .i64 0, .int .i64 0] 25 (0, 0)) (by (with_reducible repeat (first | apply kb1 | apply kb2 | apply kb3)); refine kb4 ?_ NB379_378.out _; (with_reducible repeat (first | apply kb1 | apply kb2 | apply kb3)); exact BK379.out)) : gb379 ≠ gb381)); have n10_ := ka ((by rw [hg]; exact Nat.ne_of_gt (blk_lt (g := gb379) (o := .cells #[.int .i64 0, .int .i64 0, .int .i64 0, .int .i64 0, .int .i64 0, .int .i64 0, .int .i64 0, .int .i64 0, .int .i64 0, .int .i64 0, .int .i64 0, .int .i64 0, .int .i64 0, .int .i64 0, .int .i64 0] 25 (0, 0)) (by (with_reducible repeat (first | apply kb1 | apply kb2 | apply kb3)); refine kb4 ?_ NB379_378.out _; (with_reducible repeat (first | apply kb1 | apply kb2 | apply kb3)); exact BK379.out)) : gb381 ≠ gb379)); have n11_ := ka ((by rw [hg]; exact Nat.ne_of_lt (blk_lt (g := gb380) (o := .cells #[.int .i64 0, .int .i64 0, .int .i64 0, .int .i64 0, .int .i64 0, .int .i64 0] 28 (0, 0)) (by (with_reducible repeat (first | apply kb1 | apply kb2 | apply kb3)); refine kb4 ?_ NB380_378.out _; (with_reducible repeat (first | apply kb1 | apply kb2 | apply kb3)); exact BK380.out)) : gb380 ≠ gb381)); have n12_ := ka ((by rw [hg]; exact Nat.ne_of_gt (blk_lt (g := gb380) (o := .cells #[.int .i64 0, .int .i64 0, .int .i64 0, .int .i64 0, .int .i64 0, .int .i64 0] 28 (0, 0)) (by (with_reducible repeat (first | apply kb1 | apply kb2 | apply kb3)); refine kb4 ?_ NB380_378.out _; (with_reducible repeat (first | apply kb1 | apply kb2 | apply kb3)); exact BK380.out)) : gb381 ≠ gb380)); clear BK378; clear BK379; clear BK380; clear HB; have BK378 := n0_; have BK379 := n1_; have BK380 := n2_; have HB := n3_; have BK381 := n4_; have GW381 := n5_; have GE381 := n6_; have NB378_381 := n7_; have NB381_378 := n8_; have NB379_381 := n9_; have NB381_379 := n10_; have NB380_381 := n11_; have NB381_380 := n12_; clear n0_ n1_ n2_ n3_ n4_ n5_ n6_ n7_ n8_ n9_ n10_ n11_ n12_; clear hb hbox hg))
 (try simp only [Act.put, List.setIfInBounds_toArray, List.set_cons_zero, List.set_cons_succ])
 go_cut [] (fun wc => ∃ (kq : Nat) (x379009_3 : Int) (x379011_3 : Int) (x379012_3 : Int) (x379013_3 : Int) (x382000_3 : Int) (x382001_3 : Int) (x382002_3 : Int) (x382003_3 : Int), Aside0 (trivetref13_Pay.j2 kq a1 a0_0 a0_1 a0_2 a0_3 a0_4 a0_5 a0_6 a0_7 a0_8 x379009_3 a0_10 x379011_3 x379012_3 x379013_3 a0_14 x382000_3 x382001_3 x382002_3 x382003_3 0 0 = some (r1, r2, r3, r4, r5, r6, r7, r8, r9, r10, r11, r12, r13, r14, r15, r16, r17, r18, r19, r20, r21)) ∧ Aside0 (kq ≤ k) ∧ Aside0 (wc.heap[gb378]? = some (.cells #[.int .i64 a0_0, .int .i64 a0_1, .int .i64 a0_2, .int .i64 a0_3, .int .i64 a0_4, .int .i64 a0_5, .int .i64 a0_6, .int .i64 a0_7, .int .i64 a0_8, .int .i64 x379009_3, .int .i64 a0_10, .int .i64 x379011_3, .int .i64 x379012_3, .int .i64 x379013_3, .int .i64 a0_14] 25 (0, 0))) ∧ Aside0 (wc.heap[gb379]? = some (.cells #[.int .i64 0, .int .i64 0, .int .i64 0, .int .i64 0, .int .i64 0, .int .i64 0, .int .i64 0, .int .i64 0, .int .i64 0, .int .i64 0, .int .i64 0, .int .i64 0, .int .i64 0, .int .i64 0, .int .i64 0] 25 (0, 0))) ∧ Aside0 (wc.heap[gb380]? = some (.cells #[.int .i64 0, .int .i64 0, .int .i64 0, .int .i64 0, .int .i64 0, .int .i64 0] 28 (0, 0))) ∧ Aside0 (wc.heap[gb381]? = some (.cells #[.int .i64 x382000_3, .int .i64 x382001_3, .int .i64 x382002_3, .int .i64 x382003_3, .int .i64 0, .int .i64 0] 28 (0, 0))) ∧ Aside0 (Below w.heap.size w wc))
 case first =>
  have H := HC4.out
  clear HC4
  have H' := ka H
  clear H
  go_wp2
  (try simp only [Act.put, List.setIfInBounds_toArray, List.set_cons_zero, List.set_cons_succ])
  go_loopg [] k (fun kq w' => ∃ (x379009_1 : Int) (x379011_1 : Int) (x379012_1 : Int) (x379013_1 : Int) (x382000_1 : Int) (x382001_1 : Int) (x382002_1 : Int) (x382003_1 : Int), Aside0 (trivetref13_Pay.l0 kq a1 a0_0 a0_1 a0_2 a0_3 a0_4 a0_5 a0_6 a0_7 a0_8 x379009_1 a0_10 x379011_1 x379012_1 x379013_1 a0_14 x382000_1 x382001_1 x382002_1 x382003_1 0 0 = some (r1, r2, r3, r4, r5, r6, r7, r8, r9, r10, r11, r12, r13, r14, r15, r16, r17, r18, r19, r20, r21)) ∧ Aside0 (kq ≤ k) ∧ Aside0 (w'.heap[gb378]? = some (.cells #[.int .i64 a0_0, .int .i64 a0_1, .int .i64 a0_2, .int .i64 a0_3, .int .i64 a0_4, .int .i64 a0_5, .int .i64 a0_6, .int .i64 a0_7, .int .i64 a0_8, .int .i64 x379009_1, .int .i64 a0_10, .int .i64 x379011_1, .int .i64 x379012_1, .int .i64 x379013_1, .int .i64 a0_14] 25 (0, 0))) ∧ Aside0 (w'.heap[gb379]? = some (.cells #[.int .i64 0, .int .i64 0, .int .i64 0, .int .i64 0, .int .i64 0, .int .i64 0, .int .i64 0, .int .i64 0, .int .i64 0, .int .i64 0, .int .i64 0, .int .i64 0, .int .i64 0, .int .i64 0, .int .i64 0] 25 (0, 0))) ∧ Aside0 (w'.heap[gb380]? = some (.cells #[.int .i64 0, .int .i64 0, .int .i64 0, .int .i64 0, .int .i64 0, .int .i64 0] 28 (0, 0))) ∧ Aside0 (w'.heap[gb381]? = some (.cells #[.int .i64 x382000_1, .int .i64 x382001_1, .int .i64 x382002_1, .int .i64 x382003_1, .int .i64 0, .int .i64 0] 28 (0, 0))) ∧ Aside0 (Below w.heap.size w w'))
  case atStart => exact ⟨(a0_9), (a0_11), (a0_12), (wrap64 (a0_13 + a2)), (0), (0), (0), (0), H', ⟨Nat.le_refl _⟩, ⟨by (with_reducible repeat (first | apply kb1 | apply kb2 | apply kb3)); exact BK378.out⟩, ⟨by (with_reducible repeat (first | apply kb1 | apply kb2 | apply kb3)); exact BK379.out⟩, ⟨by (with_reducible repeat (first | apply kb1 | apply kb2 | apply kb3)); exact BK380.out⟩, ⟨by (with_reducible repeat (first | apply kb1 | apply kb2 | apply kb3)); exact BK381.out⟩, ⟨by repeat (first | (with_reducible first | exact HB.out | apply kc1 | apply kc2 | apply kc3 | refine kc4 ?_ GE378.out | refine kc4 ?_ GE379.out | refine kc4 ?_ GE380.out | refine kc4 ?_ GE381.out) | exact HB.out)⟩⟩
  case round =>
   clear H'
   try clear c1
   try clear p2
   try clear p6
   try clear c8
   try clear c9
   try clear hcz10
   obtain ⟨x379009_1, x379011_1, x379012_1, x379013_1, x382000_1, x382001_1, x382002_1, x382003_1, HA, HK1, BK378, BK379, BK380, BK381, HB⟩ := hrel
   cases gk with
   | zero => exact absurd HA.out (by simp [trivetref13_Pay.l0])
   | succ k1 =>
    have H := HA.out
    clear HA
    simp only [trivetref13_Pay.l0] at H
    have HC12 := ka H
    clear H
    go_upto_region 3 with (fail)
    go_cut [27] (fun v27 wc => ∃ (kq : Nat) (x27_11 : Bool), v27 = .bool x27_11 ∧ Aside0 (trivetref13_Pay.j1 kq a1 x27_11 a0_0 a0_1 a0_2 a0_3 a0_4 a0_5 a0_6 a0_7 a0_8 x379009_1 a0_10 x379011_1 x379012_1 x379013_1 a0_14 x382000_1 x382001_1 x382002_1 x382003_1 0 0 = some (r1, r2, r3, r4, r5, r6, r7, r8, r9, r10, r11, r12, r13, r14, r15, r16, r17, r18, r19, r20, r21)) ∧ Aside0 (kq ≤ k1) ∧ Aside0 (wc.heap[gb378]? = some (.cells #[.int .i64 a0_0, .int .i64 a0_1, .int .i64 a0_2, .int .i64 a0_3, .int .i64 a0_4, .int .i64 a0_5, .int .i64 a0_6, .int .i64 a0_7, .int .i64 a0_8, .int .i64 x379009_1, .int .i64 a0_10, .int .i64 x379011_1, .int .i64 x379012_1, .int .i64 x379013_1, .int .i64 a0_14] 25 (0, 0))) ∧ Aside0 (wc.heap[gb379]? = some (.cells #[.int .i64 0, .int .i64 0, .int .i64 0, .int .i64 0, .int .i64 0, .int .i64 0, .int .i64 0, .int .i64 0, .int .i64 0, .int .i64 0, .int .i64 0, .int .i64 0, .int .i64 0, .int .i64 0, .int .i64 0] 25 (0, 0))) ∧ Aside0 (wc.heap[gb380]? = some (.cells #[.int .i64 0, .int .i64 0, .int .i64 0, .int .i64 0, .int .i64 0, .int .i64 0] 28 (0, 0))) ∧ Aside0 (wc.heap[gb381]? = some (.cells #[.int .i64 x382000_1, .int .i64 x382001_1, .int .i64 x382002_1, .int .i64 x382003_1, .int .i64 0, .int .i64 0] 28 (0, 0))) ∧ Aside0 (Below w.heap.size w wc))
    case first =>
     have H := HC12.out
     clear HC12
     by_cases c13 : x379012_1 < 480
     ·rw [if_pos c13] at H
      have c13b0 : decide (x379012_1 < 480) = true := decide_eq_true c13
      clear c13
      (first | rw [c13b0] | (simp only [i64_w, i32_w]; rw [c13b0]) | skip)
      replace H := Option.bind_eq_some_iff.mp H
      obtain ⟨t382, A140, H⟩ := H
      replace H : (trivetref13_Pay.j1 k1 a1 (!t382) a0_0 a0_1 a0_2 a0_3 a0_4 a0_5 a0_6 a0_7 a0_8 x379009_1 a0_10 x379011_1 x379012_1 x379013_1 a0_14 x382000_1 x382001_1 x382002_1 x382003_1 0 0) = some (r1, r2, r3, r4, r5, r6, r7, r8, r9, r10, r11, r12, r13, r14, r15, r16, r17, r18, r19, r20, r21) := H
      have A14 := ka A140
      clear A140
      have H' := ka H
      clear H
      have hnb15 := NB378_379.out
      have hnc15 := NB379_378.out
      have hnb16 := NB378_380.out
      have hnc16 := NB380_378.out
      have hnb17 := NB378_381.out
      have hnc17 := NB381_378.out
      have hcz18 := blkAll15 BK378.out
      go_wp2_with (first | (go_at_call 25; (with_reducible refine (trivetref13_current.calls a0_0 a0_1 a0_2 a0_3 a0_4 a0_5 a0_6 a0_7 a0_8 x379009_1 a0_10 x379011_1 x379012_1 x379013_1 a0_14 a1 t382 _ A14.out).mono ?_); rintro e w19 ⟨rfl, hb⟩; have n0_ := ka (blk_below (g := gb378) (kz BK378.out) hb); have n1_ := ka (blk_below (g := gb379) (kz BK379.out) hb); have n2_ := ka (blk_below (g := gb380) (kz BK380.out) hb); have n3_ := ka (blk_below (g := gb381) (kz BK381.out) hb); have n4_ := ka (below_step (kw HB.out) hb); clear BK378; clear BK379; clear BK380; clear BK381; clear HB; have BK378 := n0_; have BK379 := n1_; have BK380 := n2_; have BK381 := n3_; have HB := n4_; clear n0_ n1_ n2_ n3_ n4_; (try clear hb); (try clear hb2); (try clear hk); (try clear hi)) | ((with_reducible refine gate_load (T := 25) rfl ?_); first | refine load_event (g := gb378) rfl rfl rfl Try.underlying25 rfl (by (with_reducible repeat (first | apply kb1 | apply kb2 | apply kb3)); with_reducible exact BK378.out) (by kernel_rfl) ?_ | refine load_event (g := gb379) rfl rfl rfl Try.underlying25 rfl (by (with_reducible repeat (first | apply kb1 | apply kb2 | apply kb3)); with_reducible exact BK379.out) (by kernel_rfl) ?_) | ((with_reducible refine gate_store (T := 25) rfl ?_); first | (refine store_event (g := gb378) rfl rfl rfl rfl rfl (by (with_reducible repeat (first | apply kb1 | apply kb2 | apply kb3)); with_reducible exact BK378.out) (by kernel_rfl) (by rfl) (by rfl) ?_; intro w_378 eX eO eB; (try (replace BK379 := ka ((eO _ NB379_378.out).trans (by (with_reducible repeat (first | apply kb1 | apply kb2 | apply kb3)); with_reducible exact BK379.out)))); (try (replace BK380 := ka ((eO _ NB380_378.out).trans (by (with_reducible repeat (first | apply kb1 | apply kb2 | apply kb3)); with_reducible exact BK380.out)))); (try (replace BK381 := ka ((eO _ NB381_378.out).trans (by (with_reducible repeat (first | apply kb1 | apply kb2 | apply kb3)); with_reducible exact BK381.out)))); replace BK378 := ka eX; replace HB := ka (eB _ _ (kw HB.out) GE378.out); clear eX eO eB; (try have hz378 := blkAll15 BK378.out); (try have hz379 := blkAll15 BK379.out); (try have hz380 := blkAll6 BK380.out); (try have hz381 := blkAll6 BK381.out); (try have hy379 := NB379_378.out); (try have hx379 := NB378_379.out); (try have hy380 := NB380_378.out); (try have hx380 := NB378_380.out); (try have hy381 := NB381_378.out); (try have hx381 := NB378_381.out)) | (refine store_event (g := gb379) rfl rfl rfl rfl rfl (by (with_reducible repeat (first | apply kb1 | apply kb2 | apply kb3)); with_reducible exact BK379.out) (by kernel_rfl) (by rfl) (by rfl) ?_; intro w_379 eX eO eB; (try (replace BK378 := ka ((eO _ NB378_379.out).trans (by (with_reducible repeat (first | apply kb1 | apply kb2 | apply kb3)); with_reducible exact BK378.out)))); (try (replace BK380 := ka ((eO _ NB380_379.out).trans (by (with_reducible repeat (first | apply kb1 | apply kb2 | apply kb3)); with_reducible exact BK380.out)))); (try (replace BK381 := ka ((eO _ NB381_379.out).trans (by (with_reducible repeat (first | apply kb1 | apply kb2 | apply kb3)); with_reducible exact BK381.out)))); replace BK379 := ka eX; replace HB := ka (eB _ _ (kw HB.out) GE379.out); clear eX eO eB; (try have hz378 := blkAll15 BK378.out); (try have hz379 := blkAll15 BK379.out); (try have hz380 := blkAll6 BK380.out); (try have hz381 := blkAll6 BK381.out); (try have hy378 := NB378_379.out); (try have hx378 := NB379_378.out); (try have hy380 := NB380_379.out); (try have hx380 := NB379_380.out); (try have hy381 := NB381_379.out); (try have hx381 := NB379_381.out))))
      go_meet
      case rel => exact ⟨_, (!t382), (by first | rfl | (simp; done) | (simp [*]; done)), H', ⟨by have := HK1.out; first | omega | exact Nat.le_refl _⟩, ⟨by (with_reducible repeat (first | apply kb1 | apply kb2 | apply kb3)); exact BK378.out⟩, ⟨by (with_reducible repeat (first | apply kb1 | apply kb2 | apply kb3)); exact BK379.out⟩, ⟨by (with_reducible repeat (first | apply kb1 | apply kb2 | apply kb3)); exact BK380.out⟩, ⟨by (with_reducible repeat (first | apply kb1 | apply kb2 | apply kb3)); exact BK381.out⟩, ⟨by repeat (first | (with_reducible first | exact HB.out | apply kc1 | apply kc2 | apply kc3 | refine kc4 ?_ GE378.out | refine kc4 ?_ GE379.out | refine kc4 ?_ GE380.out | refine kc4 ?_ GE381.out) | exact HB.out)⟩⟩
     ·rw [if_neg c13] at H
      have c13b0 : decide (x379012_1 < 480) = false := decide_eq_false c13
      clear c13
      (first | rw [c13b0] | (simp only [i64_w, i32_w]; rw [c13b0]) | skip)
      have H' := ka H
      clear H
      have hnb20 := NB378_379.out
      have hnc20 := NB379_378.out
      have hnb21 := NB378_380.out
      have hnc21 := NB380_378.out
      have hnb22 := NB378_381.out
      have hnc22 := NB381_378.out
      have hcz23 := blkAll15 BK378.out
      go_wp2
      go_meet
      case rel => exact ⟨_, (false), (by first | rfl | (simp; done) | (simp [*]; done)), H', ⟨by have := HK1.out; first | omega | exact Nat.le_refl _⟩, ⟨by (with_reducible repeat (first | apply kb1 | apply kb2 | apply kb3)); exact BK378.out⟩, ⟨by (with_reducible repeat (first | apply kb1 | apply kb2 | apply kb3)); exact BK379.out⟩, ⟨by (with_reducible repeat (first | apply kb1 | apply kb2 | apply kb3)); exact BK380.out⟩, ⟨by (with_reducible repeat (first | apply kb1 | apply kb2 | apply kb3)); exact BK381.out⟩, ⟨by repeat (first | (with_reducible first | exact HB.out | apply kc1 | apply kc2 | apply kc3 | refine kc4 ?_ GE378.out | refine kc4 ?_ GE379.out | refine kc4 ?_ GE380.out | refine kc4 ?_ GE381.out) | exact HB.out)⟩⟩
    case rest =>
     clear HC12
     try clear c1
     try clear c2
     try clear p2
     try clear p6
     try clear c8
     try clear c9
     try clear c13
     try clear c13b0
     try clear c15
     try clear c16
     try clear c17
     try clear c20
     try clear c21
     try clear c22
     try clear hcz10
     try clear hcz18
     try clear hcz23
     try clear p2
     try clear p6
     obtain ⟨kq, x27_11, rfl, HA, HJ11, BK378, BK379, BK380, BK381, HB⟩ := hcut
     cases kq with
     | zero => exact absurd HA.out (by simp [trivetref13_Pay.j1])
     | succ kj11 =>
      have H := HA.out
      clear HA
      simp only [trivetref13_Pay.j1] at H
      by_cases c24 : x27_11 = true
      ·subst c24
       have H1 : ((trivetref13_Next_s.f a0_0 a0_1 a0_2 a0_3 a0_4 a0_5 a0_6 a0_7 a0_8 x379009_1 a0_10 x379011_1 x379012_1 x379013_1 a0_14).bind fun bt383 => ((trivetref13_later_s.f x379011_1).bind fun bt390 => (if bt390.2 = true then (if x379013_1 < (wrap64 ((wrap64 (bt383.2.1 + bt383.2.2.1)) + bt383.2.2.2.1)) then (trivetref13_Pay.j2 kj11 a1 a0_0 a0_1 a0_2 a0_3 a0_4 a0_5 a0_6 a0_7 a0_8 x379009_1 a0_10 x379011_1 x379012_1 x379013_1 a0_14 x382000_1 x382001_1 x382002_1 x382003_1 0 0) else (trivetref13_Pay.l0 kj11 a1 a0_0 a0_1 a0_2 a0_3 a0_4 a0_5 a0_6 a0_7 a0_8 bt383.2.2.2.2.2 a0_10 bt390.1 (wrap64 (x379012_1 + 1)) (wrap64 (x379013_1 - (wrap64 ((wrap64 (bt383.2.1 + bt383.2.2.1)) + bt383.2.2.2.1)))) a0_14 (wrap64 (x382000_1 + 1)) (wrap64 (x382001_1 + bt383.2.1)) (wrap64 (x382002_1 + bt383.2.2.1)) (wrap64 (x382003_1 + bt383.2.2.2.1)) 0 0)) else (trivetref13_Pay.j2 kj11 a1 a0_0 a0_1 a0_2 a0_3 a0_4 a0_5 a0_6 a0_7 a0_8 x379009_1 a0_10 x379011_1 x379012_1 x379013_1 a0_14 x382000_1 x382001_1 x382002_1 x382003_1 0 0)))) = some (r1, r2, r3, r4, r5, r6, r7, r8, r9, r10, r11, r12, r13, r14, r15, r16, r17, r18, r19, r20, r21) := by rw [if_pos rfl] at H; exact H
       clear H
       have H := H1
       clear H1
       replace H := Option.bind_eq_some_iff.mp H
       obtain ⟨⟨t383, t384, t385, t386, t387, t388⟩, A250, H⟩ := H
       replace H : ((trivetref13_later_s.f x379011_1).bind fun bt390 => (if bt390.2 = true then (if x379013_1 < (wrap64 ((wrap64 (t384 + t385)) + t386)) then (trivetref13_Pay.j2 kj11 a1 a0_0 a0_1 a0_2 a0_3 a0_4 a0_5 a0_6 a0_7 a0_8 x379009_1 a0_10 x379011_1 x379012_1 x379013_1 a0_14 x382000_1 x382001_1 x382002_1 x382003_1 0 0) else (trivetref13_Pay.l0 kj11 a1 a0_0 a0_1 a0_2 a0_3 a0_4 a0_5 a0_6 a0_7 a0_8 t388 a0_10 bt390.1 (wrap64 (x379012_1 + 1)) (wrap64 (x379013_1 - (wrap64 ((wrap64 (t384 + t385)) + t386)))) a0_14 (wrap64 (x382000_1 + 1)) (wrap64 (x382001_1 + t384)) (wrap64 (x382002_1 + t385)) (wrap64 (x382003_1 + t386)) 0 0)) else (trivetref13_Pay.j2 kj11 a1 a0_0 a0_1 a0_2 a0_3 a0_4 a0_5 a0_6 a0_7 a0_8 x379009_1 a0_10 x379011_1 x379012_1 x379013_1 a0_14 x382000_1 x382001_1 x382002_1 x382003_1 0 0))) = some (r1, r2, r3, r4, r5, r6, r7, r8, r9, r10, r11, r12, r13, r14, r15, r16, r17, r18, r19, r20, r21) := H
       have A25 := ka A250
       clear A250
       replace H := Option.bind_eq_some_iff.mp H
       obtain ⟨⟨t390, t391⟩, A260, H⟩ := H
       replace H : (if t391 = true then (if x379013_1 < (wrap64 ((wrap64 (t384 + t385)) + t386)) then (trivetref13_Pay.j2 kj11 a1 a0_0 a0_1 a0_2 a0_3 a0_4 a0_5 a0_6 a0_7 a0_8 x379009_1 a0_10 x379011_1 x379012_1 x379013_1 a0_14 x382000_1 x382001_1 x382002_1 x382003_1 0 0) else (trivetref13_Pay.l0 kj11 a1 a0_0 a0_1 a0_2 a0_3 a0_4 a0_5 a0_6 a0_7 a0_8 t388 a0_10 t390 (wrap64 (x379012_1 + 1)) (wrap64 (x379013_1 - (wrap64 ((wrap64 (t384 + t385)) + t386)))) a0_14 (wrap64 (x382000_1 + 1)) (wrap64 (x382001_1 + t384)) (wrap64 (x382002_1 + t385)) (wrap64 (x382003_1 + t386)) 0 0)) else (trivetref13_Pay.j2 kj11 a1 a0_0 a0_1 a0_2 a0_3 a0_4 a0_5 a0_6 a0_7 a0_8 x379009_1 a0_10 x379011_1 x379012_1 x379013_1 a0_14 x382000_1 x382001_1 x382002_1 x382003_1 0 0)) = some (r1, r2, r3, r4, r5, r6, r7, r8, r9, r10, r11, r12, r13, r14, r15, r16, r17, r18, r19, r20, r21) := H
       have A26 := ka A260
       clear A260
       by_cases c27 : t391 = true
       ·subst c27
        have H1 : (if x379013_1 < (wrap64 ((wrap64 (t384 + t385)) + t386)) then (trivetref13_Pay.j2 kj11 a1 a0_0 a0_1 a0_2 a0_3 a0_4 a0_5 a0_6 a0_7 a0_8 x379009_1 a0_10 x379011_1 x379012_1 x379013_1 a0_14 x382000_1 x382001_1 x382002_1 x382003_1 0 0) else (trivetref13_Pay.l0 kj11 a1 a0_0 a0_1 a0_2 a0_3 a0_4 a0_5 a0_6 a0_7 a0_8 t388 a0_10 t390 (wrap64 (x379012_1 + 1)) (wrap64 (x379013_1 - (wrap64 ((wrap64 (t384 + t385)) + t386)))) a0_14 (wrap64 (x382000_1 + 1)) (wrap64 (x382001_1 + t384)) (wrap64 (x382002_1 + t385)) (wrap64 (x382003_1 + t386)) 0 0)) = some (r1, r2, r3, r4, r5, r6, r7, r8, r9, r10, r11, r12, r13, r14, r15, r16, r17, r18, r19, r20, r21) := by rw [if_pos rfl] at H; exact H
        clear H
        have H := H1
        clear H1
        by_cases c28 : x379013_1 < (wrap64 ((wrap64 (t384 + t385)) + t386))
        ·rw [if_pos c28] at H
         have c28b0 : decide (x379013_1 < (wrap64 ((wrap64 (t384 + t385)) + t386))) = true := decide_eq_true c28
         clear c28
         have H' := ka H
         clear H
         have hnb29 := NB378_379.out
         have hnc29 := NB379_378.out
         have hnb30 := NB378_380.out
         have hnc30 := NB380_378.out
         have hnb31 := NB378_381.out
         have hnc31 := NB381_378.out
         have hcz32 := blkAll15 BK378.out
         go_wp2_with (first | ((with_reducible refine gate_callee (f := 16) rfl ?_); refine kg (some 29) rfl rfl Try.func16 (by kernel_rfl) rfl #[.agg #[.int .i64 a0_0, .int .i64 a0_1, .int .i64 a0_2, .int .i64 a0_3, .int .i64 a0_4, .int .i64 a0_5, .int .i64 a0_6, .int .i64 a0_7, .int .i64 a0_8, .int .i64 x379009_1, .int .i64 a0_10, .int .i64 x379011_1, .int .i64 x379012_1, .int .i64 x379013_1, .int .i64 a0_14]] rfl ?_; (with_reducible refine (trivetref13_Next_s.calls a0_0 a0_1 a0_2 a0_3 a0_4 a0_5 a0_6 a0_7 a0_8 x379009_1 a0_10 x379011_1 x379012_1 x379013_1 a0_14 t383 t384 t385 t386 t387 t388 _ A25.out).mono ?_); rintro e w33 ⟨rfl, hb⟩; refine ⟨_, rfl, ?_⟩; have n0_ := ka (blk_below (g := gb378) (kz BK378.out) hb); have n1_ := ka (blk_below (g := gb379) (kz BK379.out) hb); have n2_ := ka (blk_below (g := gb380) (kz BK380.out) hb); have n3_ := ka (blk_below (g := gb381) (kz BK381.out) hb); have n4_ := ka (below_step (kw HB.out) hb); clear BK378; clear BK379; clear BK380; clear BK381; clear HB; have BK378 := n0_; have BK379 := n1_; have BK380 := n2_; have BK381 := n3_; have HB := n4_; clear n0_ n1_ n2_ n3_ n4_; (try clear hb); (try clear hb2); (try clear hk); (try clear hi)) | ((with_reducible refine gate_dst (N := 9) rfl ?_); refine kx (N := 9) (cs := #[.int .i64 0, .int .i64 0, .int .i64 0, .int .i64 0, .int .i64 0, .int .i64 0]) (t := 28) ?_; intro gb389 hg w34 hbox hb; have n0_ := ka (blk_below (g := gb378) (kz BK378.out) hb); have n1_ := ka (blk_below (g := gb379) (kz BK379.out) hb); have n2_ := ka (blk_below (g := gb380) (kz BK380.out) hb); have n3_ := ka (blk_below (g := gb381) (kz BK381.out) hb); have n4_ := ka (below_step (kw HB.out) hb); have n5_ := ka (hbox); have n6_ := ka ((by rw [hg]; exact (below_size (kw HB.out)) : w.heap.size ≤ gb389)); have n7_ := n6_; have n8_ := ka ((by rw [hg]; exact Nat.ne_of_lt (blk_lt (g := gb378) (kz BK378.out)) : gb378 ≠ gb389)); have n9_ := ka n8_.out.symm; have n10_ := ka ((by rw [hg]; exact Nat.ne_of_lt (blk_lt (g := gb379) (kz BK379.out)) : gb379 ≠ gb389)); have n11_ := ka n10_.out.symm; have n12_ := ka ((by rw [hg]; exact Nat.ne_of_lt (blk_lt (g := gb380) (kz BK380.out)) : gb380 ≠ gb389)); have n13_ := ka n12_.out.symm; have n14_ := ka ((by rw [hg]; exact Nat.ne_of_lt (blk_lt (g := gb381) (kz BK381.out)) : gb381 ≠ gb389)); have n15_ := ka n14_.out.symm; clear BK378; clear BK379; clear BK380; clear BK381; clear HB; have BK378 := n0_; have BK379 := n1_; have BK380 := n2_; have BK381 := n3_; have HB := n4_; have BK389 := n5_; have GW389 := n6_; have GE389 := n7_; have NB378_389 := n8_; have NB389_378 := n9_; have NB379_389 := n10_; have NB389_379 := n11_; have NB380_389 := n12_; have NB389_380 := n13_; have NB381_389 := n14_; have NB389_381 := n15_; clear n0_ n1_ n2_ n3_ n4_ n5_ n6_ n7_ n8_ n9_ n10_ n11_ n12_ n13_ n14_ n15_; clear hb hbox hg; have hnb35 := NB389_378.out; have hnc35 := NB378_389.out; have hnb36 := NB389_379.out; have hnc36 := NB379_389.out; have hnb37 := NB389_380.out; have hnc37 := NB380_389.out; have hnb38 := NB389_381.out; have hnc38 := NB381_389.out; have hcz39 := blkAll6 BK389.out; have hcz40 := blkAll15 BK378.out) | ((with_reducible refine gate_callee (f := 26) rfl ?_); refine kg (some 41) rfl rfl Try.func26 (by kernel_rfl) rfl #[.int .i64 x379011_1] rfl ?_; (with_reducible refine (trivetref13_later_s.calls x379011_1 t390 true _ A26.out).mono ?_); rintro e w41 ⟨rfl, hb⟩; refine ⟨_, rfl, ?_⟩; have n0_ := ka (blk_below (g := gb378) (o := .cells #[.int .i64 a0_0, .int .i64 a0_1, .int .i64 a0_2, .int .i64 a0_3, .int .i64 a0_4, .int .i64 a0_5, .int .i64 a0_6, .int .i64 a0_7, .int .i64 a0_8, .int .i64 x379009_1, .int .i64 a0_10, .int .i64 x379011_1, .int .i64 x379012_1, .int .i64 x379013_1, .int .i64 a0_14] 25 (0, 0)) (by (with_reducible repeat (first | apply kb1 | apply kb2 | apply kb3 | refine kb4 ?_ NB378_389.out _)); exact BK378.out) hb); have n1_ := ka (blk_below (g := gb379) (o := .cells #[.int .i64 0, .int .i64 0, .int .i64 0, .int .i64 0, .int .i64 0, .int .i64 0, .int .i64 0, .int .i64 0, .int .i64 0, .int .i64 0, .int .i64 0, .int .i64 0, .int .i64 0, .int .i64 0, .int .i64 0] 25 (0, 0)) (by (with_reducible repeat (first | apply kb1 | apply kb2 | apply kb3 | refine kb4 ?_ NB379_389.out _)); exact BK379.out) hb); have n2_ := ka (blk_below (g := gb380) (o := .cells #[.int .i64 0, .int .i64 0, .int .i64 0, .int .i64 0, .int .i64 0, .int .i64 0] 28 (0, 0)) (by (with_reducible repeat (first | apply kb1 | apply kb2 | apply kb3 | refine kb4 ?_ NB380_389.out _)); exact BK380.out) hb); have n3_ := ka (blk_below (g := gb381) (o := .cells #[.int .i64 x382000_1, .int .i64 x382001_1, .int .i64 x382002_1, .int .i64 x382003_1, .int .i64 0, .int .i64 0] 28 (0, 0)) (by (with_reducible repeat (first | apply kb1 | apply kb2 | apply kb3 | refine kb4 ?_ NB381_389.out _)); exact BK381.out) hb); have n4_ := ka (blk_below (g := gb389) (o := .cells #[.int .i64 t383, .int .i64 t384, .int .i64 t385, .int .i64 t386, .int .i64 t387, .int .i64 t388] 28 (0, 0)) (by (with_reducible repeat (first | apply kb1 | apply kb2 | apply kb3 | apply blkPut6_5 | apply blkPut6_4 | apply blkPut6_3 | apply blkPut6_2 | apply blkPut6_1 | apply blkPut6_0)); exact BK389.out) hb); have n5_ := ka (below_step (kw HB.out) hb); clear BK378; clear BK379; clear BK380; clear BK381; clear BK389; clear HB; have BK378 := n0_; have BK379 := n1_; have BK380 := n2_; have BK381 := n3_; have BK389 := n4_; have HB := n5_; clear n0_ n1_ n2_ n3_ n4_ n5_; (try clear hb); (try clear hb2); (try clear hk); (try clear hi); have hcz42 := blkAll15 BK378.out) | ((with_reducible refine gate_load (T := 25) rfl ?_); first | refine load_event (g := gb378) rfl rfl rfl Try.underlying25 rfl (by (with_reducible repeat (first | apply kb1 | apply kb2 | apply kb3)); with_reducible exact BK378.out) (by kernel_rfl) ?_ | refine load_event (g := gb379) rfl rfl rfl Try.underlying25 rfl (by (with_reducible repeat (first | apply kb1 | apply kb2 | apply kb3)); with_reducible exact BK379.out) (by kernel_rfl) ?_) | ((with_reducible refine gate_store (T := 25) rfl ?_); first | (refine store_event (g := gb378) rfl rfl rfl rfl rfl (by (with_reducible repeat (first | apply kb1 | apply kb2 | apply kb3)); with_reducible exact BK378.out) (by kernel_rfl) (by rfl) (by rfl) ?_; intro w_378 eX eO eB; (try (replace BK379 := ka ((eO _ NB379_378.out).trans (by (with_reducible repeat (first | apply kb1 | apply kb2 | apply kb3)); with_reducible exact BK379.out)))); (try (replace BK380 := ka ((eO _ NB380_378.out).trans (by (with_reducible repeat (first | apply kb1 | apply kb2 | apply kb3)); with_reducible exact BK380.out)))); (try (replace BK381 := ka ((eO _ NB381_378.out).trans (by (with_reducible repeat (first | apply kb1 | apply kb2 | apply kb3)); with_reducible exact BK381.out)))); (try (replace BK389 := ka ((eO _ NB389_378.out).trans (by (with_reducible repeat (first | apply kb1 | apply kb2 | apply kb3)); with_reducible exact BK389.out)))); replace BK378 := ka eX; replace HB := ka (eB _ _ (kw HB.out) GE378.out); clear eX eO eB; (try have hz378 := blkAll15 BK378.out); (try have hz379 := blkAll15 BK379.out); (try have hz380 := blkAll6 BK380.out); (try have hz381 := blkAll6 BK381.out); (try have hz389 := blkAll6 BK389.out); (try have hy379 := NB379_378.out); (try have hx379 := NB378_379.out); (try have hy380 := NB380_378.out); (try have hx380 := NB378_380.out); (try have hy381 := NB381_378.out); (try have hx381 := NB378_381.out); (try have hy389 := NB389_378.out); (try have hx389 := NB378_389.out)) | (refine store_event (g := gb379) rfl rfl rfl rfl rfl (by (with_reducible repeat (first | apply kb1 | apply kb2 | apply kb3)); with_reducible exact BK379.out) (by kernel_rfl) (by rfl) (by rfl) ?_; intro w_379 eX eO eB; (try (replace BK378 := ka ((eO _ NB378_379.out).trans (by (with_reducible repeat (first | apply kb1 | apply kb2 | apply kb3)); with_reducible exact BK378.out)))); (try (replace BK380 := ka ((eO _ NB380_379.out).trans (by (with_reducible repeat (first | apply kb1 | apply kb2 | apply kb3)); with_reducible exact BK380.out)))); (try (replace BK381 := ka ((eO _ NB381_379.out).trans (by (with_reducible repeat (first | apply kb1 | apply kb2 | apply kb3)); with_reducible exact BK381.out)))); (try (replace BK389 := ka ((eO _ NB389_379.out).trans (by (with_reducible repeat (first | apply kb1 | apply kb2 | apply kb3)); with_reducible exact BK389.out)))); replace BK379 := ka eX; replace HB := ka (eB _ _ (kw HB.out) GE379.out); clear eX eO eB; (try have hz378 := blkAll15 BK378.out); (try have hz379 := blkAll15 BK379.out); (try have hz380 := blkAll6 BK380.out); (try have hz381 := blkAll6 BK381.out); (try have hz389 := blkAll6 BK389.out); (try have hy378 := NB378_379.out); (try have hx378 := NB379_378.out); (try have hy380 := NB380_379.out); (try have hx380 := NB379_380.out); (try have hy381 := NB381_379.out); (try have hx381 := NB379_381.out); (try have hy389 := NB389_379.out); (try have hx389 := NB379_389.out))))
         go_meet
         case rel => exact ⟨_, (x379009_1), (x379011_1), (x379012_1), (x379013_1), (x382000_1), (x382001_1), (x382002_1), (x382003_1), H', ⟨by have := HK1.out; have := HJ11.out; first | omega | exact Nat.le_refl _⟩, ⟨by (with_reducible repeat (first | apply kb1 | apply kb2 | apply kb3)); exact BK378.out⟩, ⟨by (with_reducible repeat (first | apply kb1 | apply kb2 | apply kb3)); exact BK379.out⟩, ⟨by (with_reducible repeat (first | apply kb1 | apply kb2 | apply kb3)); exact BK380.out⟩, ⟨by (with_reducible repeat (first | apply kb1 | apply kb2 | apply kb3)); exact BK381.out⟩, ⟨by repeat (first | (with_reducible first | exact HB.out | apply kc1 | apply kc2 | apply kc3 | refine kc4 ?_ GE378.out | refine kc4 ?_ GE379.out | refine kc4 ?_ GE380.out | refine kc4 ?_ GE381.out | refine kc4 ?_ GE389.out) | exact HB.out)⟩⟩
        ·rw [if_neg c28] at H
         have c28b0 : decide (x379013_1 < (wrap64 ((wrap64 (t384 + t385)) + t386))) = false := decide_eq_false c28
         clear c28
         have H' := ka H
         clear H
         have hnb43 := NB378_379.out
         have hnc43 := NB379_378.out
         have hnb44 := NB378_380.out
         have hnc44 := NB380_378.out
         have hnb45 := NB378_381.out
         have hnc45 := NB381_378.out
         have hcz46 := blkAll15 BK378.out
         go_wp2_with (first | ((with_reducible refine gate_callee (f := 16) rfl ?_); refine kg (some 29) rfl rfl Try.func16 (by kernel_rfl) rfl #[.agg #[.int .i64 a0_0, .int .i64 a0_1, .int .i64 a0_2, .int .i64 a0_3, .int .i64 a0_4, .int .i64 a0_5, .int .i64 a0_6, .int .i64 a0_7, .int .i64 a0_8, .int .i64 x379009_1, .int .i64 a0_10, .int .i64 x379011_1, .int .i64 x379012_1, .int .i64 x379013_1, .int .i64 a0_14]] rfl ?_; (with_reducible refine (trivetref13_Next_s.calls a0_0 a0_1 a0_2 a0_3 a0_4 a0_5 a0_6 a0_7 a0_8 x379009_1 a0_10 x379011_1 x379012_1 x379013_1 a0_14 t383 t384 t385 t386 t387 t388 _ A25.out).mono ?_); rintro e w47 ⟨rfl, hb⟩; refine ⟨_, rfl, ?_⟩; have n0_ := ka (blk_below (g := gb378) (kz BK378.out) hb); have n1_ := ka (blk_below (g := gb379) (kz BK379.out) hb); have n2_ := ka (blk_below (g := gb380) (kz BK380.out) hb); have n3_ := ka (blk_below (g := gb381) (kz BK381.out) hb); have n4_ := ka (below_step (kw HB.out) hb); clear BK378; clear BK379; clear BK380; clear BK381; clear HB; have BK378 := n0_; have BK379 := n1_; have BK380 := n2_; have BK381 := n3_; have HB := n4_; clear n0_ n1_ n2_ n3_ n4_; (try clear hb); (try clear hb2); (try clear hk); (try clear hi)) | ((with_reducible refine gate_dst (N := 9) rfl ?_); refine kx (N := 9) (cs := #[.int .i64 0, .int .i64 0, .int .i64 0, .int .i64 0, .int .i64 0, .int .i64 0]) (t := 28) ?_; intro gb389 hg w48 hbox hb; have n0_ := ka (blk_below (g := gb378) (kz BK378.out) hb); have n1_ := ka (blk_below (g := gb379) (kz BK379.out) hb); have n2_ := ka (blk_below (g := gb380) (kz BK380.out) hb); have n3_ := ka (blk_below (g := gb381) (kz BK381.out) hb); have n4_ := ka (below_step (kw HB.out) hb); have n5_ := ka (hbox); have n6_ := ka ((by rw [hg]; exact (below_size (kw HB.out)) : w.heap.size ≤ gb389)); have n7_ := n6_; have n8_ := ka ((by rw [hg]; exact Nat.ne_of_lt (blk_lt (g := gb378) (kz BK378.out)) : gb378 ≠ gb389)); have n9_ := ka n8_.out.symm; have n10_ := ka ((by rw [hg]; exact Nat.ne_of_lt (blk_lt (g := gb379) (kz BK379.out)) : gb379 ≠ gb389)); have n11_ := ka n10_.out.symm; have n12_ := ka ((by rw [hg]; exact Nat.ne_of_lt (blk_lt (g := gb380) (kz BK380.out)) : gb380 ≠ gb389)); have n13_ := ka n12_.out.symm; have n14_ := ka ((by rw [hg]; exact Nat.ne_of_lt (blk_lt (g := gb381) (kz BK381.out)) : gb381 ≠ gb389)); have n15_ := ka n14_.out.symm; clear BK378; clear BK379; clear BK380; clear BK381; clear HB; have BK378 := n0_; have BK379 := n1_; have BK380 := n2_; have BK381 := n3_; have HB := n4_; have BK389 := n5_; have GW389 := n6_; have GE389 := n7_; have NB378_389 := n8_; have NB389_378 := n9_; have NB379_389 := n10_; have NB389_379 := n11_; have NB380_389 := n12_; have NB389_380 := n13_; have NB381_389 := n14_; have NB389_381 := n15_; clear n0_ n1_ n2_ n3_ n4_ n5_ n6_ n7_ n8_ n9_ n10_ n11_ n12_ n13_ n14_ n15_; clear hb hbox hg; have hnb49 := NB389_378.out; have hnc49 := NB378_389.out; have hnb50 := NB389_379.out; have hnc50 := NB379_389.out; have hnb51 := NB389_380.out; have hnc51 := NB380_389.out; have hnb52 := NB389_381.out; have hnc52 := NB381_389.out; have hcz53 := blkAll6 BK389.out; have hcz54 := blkAll15 BK378.out) | ((with_reducible refine gate_callee (f := 26) rfl ?_); refine kg (some 41) rfl rfl Try.func26 (by kernel_rfl) rfl #[.int .i64 x379011_1] rfl ?_; (with_reducible refine (trivetref13_later_s.calls x379011_1 t390 true _ A26.out).mono ?_); rintro e w55 ⟨rfl, hb⟩; refine ⟨_, rfl, ?_⟩; have n0_ := ka (blk_below (g := gb378) (o := .cells #[.int .i64 a0_0, .int .i64 a0_1, .int .i64 a0_2, .int .i64 a0_3, .int .i64 a0_4, .int .i64 a0_5, .int .i64 a0_6, .int .i64 a0_7, .int .i64 a0_8, .int .i64 x379009_1, .int .i64 a0_10, .int .i64 x379011_1, .int .i64 x379012_1, .int .i64 x379013_1, .int .i64 a0_14] 25 (0, 0)) (by (with_reducible repeat (first | apply kb1 | apply kb2 | apply kb3 | refine kb4 ?_ NB378_389.out _)); exact BK378.out) hb); have n1_ := ka (blk_below (g := gb379) (o := .cells #[.int .i64 0, .int .i64 0, .int .i64 0, .int .i64 0, .int .i64 0, .int .i64 0, .int .i64 0, .int .i64 0, .int .i64 0, .int .i64 0, .int .i64 0, .int .i64 0, .int .i64 0, .int .i64 0, .int .i64 0] 25 (0, 0)) (by (with_reducible repeat (first | apply kb1 | apply kb2 | apply kb3 | refine kb4 ?_ NB379_389.out _)); exact BK379.out) hb); have n2_ := ka (blk_below (g := gb380) (o := .cells #[.int .i64 0, .int .i64 0, .int .i64 0, .int .i64 0, .int .i64 0, .int .i64 0] 28 (0, 0)) (by (with_reducible repeat (first | apply kb1 | apply kb2 | apply kb3 | refine kb4 ?_ NB380_389.out _)); exact BK380.out) hb); have n3_ := ka (blk_below (g := gb381) (o := .cells #[.int .i64 x382000_1, .int .i64 x382001_1, .int .i64 x382002_1, .int .i64 x382003_1, .int .i64 0, .int .i64 0] 28 (0, 0)) (by (with_reducible repeat (first | apply kb1 | apply kb2 | apply kb3 | refine kb4 ?_ NB381_389.out _)); exact BK381.out) hb); have n4_ := ka (blk_below (g := gb389) (o := .cells #[.int .i64 t383, .int .i64 t384, .int .i64 t385, .int .i64 t386, .int .i64 t387, .int .i64 t388] 28 (0, 0)) (by (with_reducible repeat (first | apply kb1 | apply kb2 | apply kb3 | apply blkPut6_5 | apply blkPut6_4 | apply blkPut6_3 | apply blkPut6_2 | apply blkPut6_1 | apply blkPut6_0)); exact BK389.out) hb); have n5_ := ka (below_step (kw HB.out) hb); clear BK378; clear BK379; clear BK380; clear BK381; clear BK389; clear HB; have BK378 := n0_; have BK379 := n1_; have BK380 := n2_; have BK381 := n3_; have BK389 := n4_; have HB := n5_; clear n0_ n1_ n2_ n3_ n4_ n5_; (try clear hb); (try clear hb2); (try clear hk); (try clear hi); have hcz56 := blkAll15 BK378.out; have hcz57 := blkAll6 BK389.out; have hnb58 := NB381_379.out; have hnc58 := NB379_381.out; have hnb59 := NB381_380.out; have hnc59 := NB380_381.out; have hcz60 := blkAll6 BK381.out) | ((with_reducible refine gate_load (T := 25) rfl ?_); first | refine load_event (g := gb378) rfl rfl rfl Try.underlying25 rfl (by (with_reducible repeat (first | apply kb1 | apply kb2 | apply kb3)); with_reducible exact BK378.out) (by kernel_rfl) ?_ | refine load_event (g := gb379) rfl rfl rfl Try.underlying25 rfl (by (with_reducible repeat (first | apply kb1 | apply kb2 | apply kb3)); with_reducible exact BK379.out) (by kernel_rfl) ?_) | ((with_reducible refine gate_store (T := 25) rfl ?_); first | (refine store_event (g := gb378) rfl rfl rfl rfl rfl (by (with_reducible repeat (first | apply kb1 | apply kb2 | apply kb3)); with_reducible exact BK378.out) (by kernel_rfl) (by rfl) (by rfl) ?_; intro w_378 eX eO eB; (try (replace BK379 := ka ((eO _ NB379_378.out).trans (by (with_reducible repeat (first | apply kb1 | apply kb2 | apply kb3)); with_reducible exact BK379.out)))); (try (replace BK380 := ka ((eO _ NB380_378.out).trans (by (with_reducible repeat (first | apply kb1 | apply kb2 | apply kb3)); with_reducible exact BK380.out)))); (try (replace BK381 := ka ((eO _ NB381_378.out).trans (by (with_reducible repeat (first | apply kb1 | apply kb2 | apply kb3)); with_reducible exact BK381.out)))); (try (replace BK389 := ka ((eO _ NB389_378.out).trans (by (with_reducible repeat (first | apply kb1 | apply kb2 | apply kb3)); with_reducible exact BK389.out)))); replace BK378 := ka eX; replace HB := ka (eB _ _ (kw HB.out) GE378.out); clear eX eO eB; (try have hz378 := blkAll15 BK378.out); (try have hz379 := blkAll15 BK379.out); (try have hz380 := blkAll6 BK380.out); (try have hz381 := blkAll6 BK381.out); (try have hz389 := blkAll6 BK389.out); (try have hy379 := NB379_378.out); (try have hx379 := NB378_379.out); (try have hy380 := NB380_378.out); (try have hx380 := NB378_380.out); (try have hy381 := NB381_378.out); (try have hx381 := NB378_381.out); (try have hy389 := NB389_378.out); (try have hx389 := NB378_389.out)) | (refine store_event (g := gb379) rfl rfl rfl rfl rfl (by (with_reducible repeat (first | apply kb1 | apply kb2 | apply kb3)); with_reducible exact BK379.out) (by kernel_rfl) (by rfl) (by rfl) ?_; intro w_379 eX eO eB; (try (replace BK378 := ka ((eO _ NB378_379.out).trans (by (with_reducible repeat (first | apply kb1 | apply kb2 | apply kb3)); with_reducible exact BK378.out)))); (try (replace BK380 := ka ((eO _ NB380_379.out).trans (by (with_reducible repeat (first | apply kb1 | apply kb2 | apply kb3)); with_reducible exact BK380.out)))); (try (replace BK381 := ka ((eO _ NB381_379.out).trans (by (with_reducible repeat (first | apply kb1 | apply kb2 | apply kb3)); with_reducible exact BK381.out)))); (try (replace BK389 := ka ((eO _ NB389_379.out).trans (by (with_reducible repeat (first | apply kb1 | apply kb2 | apply kb3)); with_reducible exact BK389.out)))); replace BK379 := ka eX; replace HB := ka (eB _ _ (kw HB.out) GE379.out); clear eX eO eB; (try have hz378 := blkAll15 BK378.out); (try have hz379 := blkAll15 BK379.out); (try have hz380 := blkAll6 BK380.out); (try have hz381 := blkAll6 BK381.out); (try have hz389 := blkAll6 BK389.out); (try have hy378 := NB378_379.out); (try have hx378 := NB379_378.out); (try have hy380 := NB380_379.out); (try have hx380 := NB379_380.out); (try have hy381 := NB381_379.out); (try have hx381 := NB379_381.out); (try have hy389 := NB389_379.out); (try have hx389 := NB379_389.out))))
         go_roundg kj11
         case measure => have := HK1.out; have := HJ11.out; omega
         case rel => exact ⟨(t388), (t390), (wrap64 (x379012_1 + 1)), (wrap64 (x379013_1 - (wrap64 ((wrap64 (t384 + t385)) + t386)))), (wrap64 (x382000_1 + 1)), (wrap64 (x382001_1 + t384)), (wrap64 (x382002_1 + t385)), (wrap64 (x382003_1 + t386)), H', ⟨by have := HK1.out; have := HJ11.out; omega⟩, ⟨by (with_reducible repeat (first | apply kb1 | apply kb2 | apply kb3 | refine kb4 ?_ NB378_381.out _ | apply blkPut15_12 | apply blkPut15_11 | apply blkPut15_9 | apply blkPut15_13)); exact BK378.out⟩, ⟨by (with_reducible repeat (first | apply kb1 | apply kb2 | apply kb3 | refine kb4 ?_ NB379_381.out _ | refine kb4 ?_ NB379_378.out _)); exact BK379.out⟩, ⟨by (with_reducible repeat (first | apply kb1 | apply kb2 | apply kb3 | refine kb4 ?_ NB380_381.out _ | refine kb4 ?_ NB380_378.out _)); exact BK380.out⟩, ⟨by (with_reducible repeat (first | apply kb1 | apply kb2 | apply kb3 | apply blkPut6_3 | apply blkPut6_2 | apply blkPut6_1 | apply blkPut6_0 | refine kb4 ?_ NB381_378.out _)); exact BK381.out⟩, ⟨by repeat (first | (with_reducible first | exact HB.out | apply kc1 | apply kc2 | apply kc3 | refine kc4 ?_ GE378.out | refine kc4 ?_ GE379.out | refine kc4 ?_ GE380.out | refine kc4 ?_ GE381.out | refine kc4 ?_ GE389.out) | exact HB.out)⟩⟩
       ·replace c27 := Bool.eq_false_iff.mpr c27
        subst c27
        have H1 : (trivetref13_Pay.j2 kj11 a1 a0_0 a0_1 a0_2 a0_3 a0_4 a0_5 a0_6 a0_7 a0_8 x379009_1 a0_10 x379011_1 x379012_1 x379013_1 a0_14 x382000_1 x382001_1 x382002_1 x382003_1 0 0) = some (r1, r2, r3, r4, r5, r6, r7, r8, r9, r10, r11, r12, r13, r14, r15, r16, r17, r18, r19, r20, r21) := by rw [if_neg (show ¬ (false = true) by decide)] at H; exact H
        clear H
        have H := H1
        clear H1
        have H' := ka H
        clear H
        have hnb61 := NB378_379.out
        have hnc61 := NB379_378.out
        have hnb62 := NB378_380.out
        have hnc62 := NB380_378.out
        have hnb63 := NB378_381.out
        have hnc63 := NB381_378.out
        have hcz64 := blkAll15 BK378.out
        go_wp2_with (first | ((with_reducible refine gate_callee (f := 16) rfl ?_); refine kg (some 29) rfl rfl Try.func16 (by kernel_rfl) rfl #[.agg #[.int .i64 a0_0, .int .i64 a0_1, .int .i64 a0_2, .int .i64 a0_3, .int .i64 a0_4, .int .i64 a0_5, .int .i64 a0_6, .int .i64 a0_7, .int .i64 a0_8, .int .i64 x379009_1, .int .i64 a0_10, .int .i64 x379011_1, .int .i64 x379012_1, .int .i64 x379013_1, .int .i64 a0_14]] rfl ?_; (with_reducible refine (trivetref13_Next_s.calls a0_0 a0_1 a0_2 a0_3 a0_4 a0_5 a0_6 a0_7 a0_8 x379009_1 a0_10 x379011_1 x379012_1 x379013_1 a0_14 t383 t384 t385 t386 t387 t388 _ A25.out).mono ?_); rintro e w65 ⟨rfl, hb⟩; refine ⟨_, rfl, ?_⟩; have n0_ := ka (blk_below (g := gb378) (kz BK378.out) hb); have n1_ := ka (blk_below (g := gb379) (kz BK379.out) hb); have n2_ := ka (blk_below (g := gb380) (kz BK380.out) hb); have n3_ := ka (blk_below (g := gb381) (kz BK381.out) hb); have n4_ := ka (below_step (kw HB.out) hb); clear BK378; clear BK379; clear BK380; clear BK381; clear HB; have BK378 := n0_; have BK379 := n1_; have BK380 := n2_; have BK381 := n3_; have HB := n4_; clear n0_ n1_ n2_ n3_ n4_; (try clear hb); (try clear hb2); (try clear hk); (try clear hi)) | ((with_reducible refine gate_dst (N := 9) rfl ?_); refine kx (N := 9) (cs := #[.int .i64 0, .int .i64 0, .int .i64 0, .int .i64 0, .int .i64 0, .int .i64 0]) (t := 28) ?_; intro gb389 hg w66 hbox hb; have n0_ := ka (blk_below (g := gb378) (kz BK378.out) hb); have n1_ := ka (blk_below (g := gb379) (kz BK379.out) hb); have n2_ := ka (blk_below (g := gb380) (kz BK380.out) hb); have n3_ := ka (blk_below (g := gb381) (kz BK381.out) hb); have n4_ := ka (below_step (kw HB.out) hb); have n5_ := ka (hbox); have n6_ := ka ((by rw [hg]; exact (below_size (kw HB.out)) : w.heap.size ≤ gb389)); have n7_ := n6_; have n8_ := ka ((by rw [hg]; exact Nat.ne_of_lt (blk_lt (g := gb378) (kz BK378.out)) : gb378 ≠ gb389)); have n9_ := ka n8_.out.symm; have n10_ := ka ((by rw [hg]; exact Nat.ne_of_lt (blk_lt (g := gb379) (kz BK379.out)) : gb379 ≠ gb389)); have n11_ := ka n10_.out.symm; have n12_ := ka ((by rw [hg]; exact Nat.ne_of_lt (blk_lt (g := gb380) (kz BK380.out)) : gb380 ≠ gb389)); have n13_ := ka n12_.out.symm; have n14_ := ka ((by rw [hg]; exact Nat.ne_of_lt (blk_lt (g := gb381) (kz BK381.out)) : gb381 ≠ gb389)); have n15_ := ka n14_.out.symm; clear BK378; clear BK379; clear BK380; clear BK381; clear HB; have BK378 := n0_; have BK379 := n1_; have BK380 := n2_; have BK381 := n3_; have HB := n4_; have BK389 := n5_; have GW389 := n6_; have GE389 := n7_; have NB378_389 := n8_; have NB389_378 := n9_; have NB379_389 := n10_; have NB389_379 := n11_; have NB380_389 := n12_; have NB389_380 := n13_; have NB381_389 := n14_; have NB389_381 := n15_; clear n0_ n1_ n2_ n3_ n4_ n5_ n6_ n7_ n8_ n9_ n10_ n11_ n12_ n13_ n14_ n15_; clear hb hbox hg; have hnb67 := NB389_378.out; have hnc67 := NB378_389.out; have hnb68 := NB389_379.out; have hnc68 := NB379_389.out; have hnb69 := NB389_380.out; have hnc69 := NB380_389.out; have hnb70 := NB389_381.out; have hnc70 := NB381_389.out; have hcz71 := blkAll6 BK389.out; have hcz72 := blkAll15 BK378.out) | ((with_reducible refine gate_callee (f := 26) rfl ?_); refine kg (some 41) rfl rfl Try.func26 (by kernel_rfl) rfl #[.int .i64 x379011_1] rfl ?_; (with_reducible refine (trivetref13_later_s.calls x379011_1 t390 false _ A26.out).mono ?_); rintro e w73 ⟨rfl, hb⟩; refine ⟨_, rfl, ?_⟩; have n0_ := ka (blk_below (g := gb378) (o := .cells #[.int .i64 a0_0, .int .i64 a0_1, .int .i64 a0_2, .int .i64 a0_3, .int .i64 a0_4, .int .i64 a0_5, .int .i64 a0_6, .int .i64 a0_7, .int .i64 a0_8, .int .i64 x379009_1, .int .i64 a0_10, .int .i64 x379011_1, .int .i64 x379012_1, .int .i64 x379013_1, .int .i64 a0_14] 25 (0, 0)) (by (with_reducible repeat (first | apply kb1 | apply kb2 | apply kb3 | refine kb4 ?_ NB378_389.out _)); exact BK378.out) hb); have n1_ := ka (blk_below (g := gb379) (o := .cells #[.int .i64 0, .int .i64 0, .int .i64 0, .int .i64 0, .int .i64 0, .int .i64 0, .int .i64 0, .int .i64 0, .int .i64 0, .int .i64 0, .int .i64 0, .int .i64 0, .int .i64 0, .int .i64 0, .int .i64 0] 25 (0, 0)) (by (with_reducible repeat (first | apply kb1 | apply kb2 | apply kb3 | refine kb4 ?_ NB379_389.out _)); exact BK379.out) hb); have n2_ := ka (blk_below (g := gb380) (o := .cells #[.int .i64 0, .int .i64 0, .int .i64 0, .int .i64 0, .int .i64 0, .int .i64 0] 28 (0, 0)) (by (with_reducible repeat (first | apply kb1 | apply kb2 | apply kb3 | refine kb4 ?_ NB380_389.out _)); exact BK380.out) hb); have n3_ := ka (blk_below (g := gb381) (o := .cells #[.int .i64 x382000_1, .int .i64 x382001_1, .int .i64 x382002_1, .int .i64 x382003_1, .int .i64 0, .int .i64 0] 28 (0, 0)) (by (with_reducible repeat (first | apply kb1 | apply kb2 | apply kb3 | refine kb4 ?_ NB381_389.out _)); exact BK381.out) hb); have n4_ := ka (blk_below (g := gb389) (o := .cells #[.int .i64 t383, .int .i64 t384, .int .i64 t385, .int .i64 t386, .int .i64 t387, .int .i64 t388] 28 (0, 0)) (by (with_reducible repeat (first | apply kb1 | apply kb2 | apply kb3 | apply blkPut6_5 | apply blkPut6_4 | apply blkPut6_3 | apply blkPut6_2 | apply blkPut6_1 | apply blkPut6_0)); exact BK389.out) hb); have n5_ := ka (below_step (kw HB.out) hb); clear BK378; clear BK379; clear BK380; clear BK381; clear BK389; clear HB; have BK378 := n0_; have BK379 := n1_; have BK380 := n2_; have BK381 := n3_; have BK389 := n4_; have HB := n5_; clear n0_ n1_ n2_ n3_ n4_ n5_; (try clear hb); (try clear hb2); (try clear hk); (try clear hi)) | ((with_reducible refine gate_load (T := 25) rfl ?_); first | refine load_event (g := gb378) rfl rfl rfl Try.underlying25 rfl (by (with_reducible repeat (first | apply kb1 | apply kb2 | apply kb3)); with_reducible exact BK378.out) (by kernel_rfl) ?_ | refine load_event (g := gb379) rfl rfl rfl Try.underlying25 rfl (by (with_reducible repeat (first | apply kb1 | apply kb2 | apply kb3)); with_reducible exact BK379.out) (by kernel_rfl) ?_) | ((with_reducible refine gate_store (T := 25) rfl ?_); first | (refine store_event (g := gb378) rfl rfl rfl rfl rfl (by (with_reducible repeat (first | apply kb1 | apply kb2 | apply kb3)); with_reducible exact BK378.out) (by kernel_rfl) (by rfl) (by rfl) ?_; intro w_378 eX eO eB; (try (replace BK379 := ka ((eO _ NB379_378.out).trans (by (with_reducible repeat (first | apply kb1 | apply kb2 | apply kb3)); with_reducible exact BK379.out)))); (try (replace BK380 := ka ((eO _ NB380_378.out).trans (by (with_reducible repeat (first | apply kb1 | apply kb2 | apply kb3)); with_reducible exact BK380.out)))); (try (replace BK381 := ka ((eO _ NB381_378.out).trans (by (with_reducible repeat (first | apply kb1 | apply kb2 | apply kb3)); with_reducible exact BK381.out)))); (try (replace BK389 := ka ((eO _ NB389_378.out).trans (by (with_reducible repeat (first | apply kb1 | apply kb2 | apply kb3)); with_reducible exact BK389.out)))); replace BK378 := ka eX; replace HB := ka (eB _ _ (kw HB.out) GE378.out); clear eX eO eB; (try have hz378 := blkAll15 BK378.out); (try have hz379 := blkAll15 BK379.out); (try have hz380 := blkAll6 BK380.out); (try have hz381 := blkAll6 BK381.out); (try have hz389 := blkAll6 BK389.out); (try have hy379 := NB379_378.out); (try have hx379 := NB378_379.out); (try have hy380 := NB380_378.out); (try have hx380 := NB378_380.out); (try have hy381 := NB381_378.out); (try have hx381 := NB378_381.out); (try have hy389 := NB389_378.out); (try have hx389 := NB378_389.out)) | (refine store_event (g := gb379) rfl rfl rfl rfl rfl (by (with_reducible repeat (first | apply kb1 | apply kb2 | apply kb3)); with_reducible exact BK379.out) (by kernel_rfl) (by rfl) (by rfl) ?_; intro w_379 eX eO eB; (try (replace BK378 := ka ((eO _ NB378_379.out).trans (by (with_reducible repeat (first | apply kb1 | apply kb2 | apply kb3)); with_reducible exact BK378.out)))); (try (replace BK380 := ka ((eO _ NB380_379.out).trans (by (with_reducible repeat (first | apply kb1 | apply kb2 | apply kb3)); with_reducible exact BK380.out)))); (try (replace BK381 := ka ((eO _ NB381_379.out).trans (by (with_reducible repeat (first | apply kb1 | apply kb2 | apply kb3)); with_reducible exact BK381.out)))); (try (replace BK389 := ka ((eO _ NB389_379.out).trans (by (with_reducible repeat (first | apply kb1 | apply kb2 | apply kb3)); with_reducible exact BK389.out)))); replace BK379 := ka eX; replace HB := ka (eB _ _ (kw HB.out) GE379.out); clear eX eO eB; (try have hz378 := blkAll15 BK378.out); (try have hz379 := blkAll15 BK379.out); (try have hz380 := blkAll6 BK380.out); (try have hz381 := blkAll6 BK381.out); (try have hz389 := blkAll6 BK389.out); (try have hy378 := NB378_379.out); (try have hx378 := NB379_378.out); (try have hy380 := NB380_379.out); (try have hx380 := NB379_380.out); (try have hy381 := NB381_379.out); (try have hx381 := NB379_381.out); (try have hy389 := NB389_379.out); (try have hx389 := NB379_389.out))))
        go_meet
        case rel => exact ⟨_, (x379009_1), (x379011_1), (x379012_1), (x379013_1), (x382000_1), (x382001_1), (x382002_1), (x382003_1), H', ⟨by have := HK1.out; have := HJ11.out; first | omega | exact Nat.le_refl _⟩, ⟨by (with_reducible repeat (first | apply kb1 | apply kb2 | apply kb3)); exact BK378.out⟩, ⟨by (with_reducible repeat (first | apply kb1 | apply kb2 | apply kb3)); exact BK379.out⟩, ⟨by (with_reducible repeat (first | apply kb1 | apply kb2 | apply kb3)); exact BK380.out⟩, ⟨by (with_reducible repeat (first | apply kb1 | apply kb2 | apply kb3)); exact BK381.out⟩, ⟨by repeat (first | (with_reducible first | exact HB.out | apply kc1 | apply kc2 | apply kc3 | refine kc4 ?_ GE378.out | refine kc4 ?_ GE379.out | refine kc4 ?_ GE380.out | refine kc4 ?_ GE381.out | refine kc4 ?_ GE389.out) | exact HB.out)⟩⟩
      ·replace c24 := Bool.eq_false_iff.mpr c24
       subst c24
       have H1 : (trivetref13_Pay.j2 kj11 a1 a0_0 a0_1 a0_2 a0_3 a0_4 a0_5 a0_6 a0_7 a0_8 x379009_1 a0_10 x379011_1 x379012_1 x379013_1 a0_14 x382000_1 x382001_1 x382002_1 x382003_1 0 0) = some (r1, r2, r3, r4, r5, r6, r7, r8, r9, r10, r11, r12, r13, r14, r15, r16, r17, r18, r19, r20, r21) := by rw [if_neg (show ¬ (false = true) by decide)] at H; exact H
       clear H
       have H := H1
       clear H1
       have H' := ka H
       clear H
       go_wp2
       go_meet
       case rel => exact ⟨_, (x379009_1), (x379011_1), (x379012_1), (x379013_1), (x382000_1), (x382001_1), (x382002_1), (x382003_1), H', ⟨by have := HK1.out; have := HJ11.out; first | omega | exact Nat.le_refl _⟩, ⟨by (with_reducible repeat (first | apply kb1 | apply kb2 | apply kb3)); exact BK378.out⟩, ⟨by (with_reducible repeat (first | apply kb1 | apply kb2 | apply kb3)); exact BK379.out⟩, ⟨by (with_reducible repeat (first | apply kb1 | apply kb2 | apply kb3)); exact BK380.out⟩, ⟨by (with_reducible repeat (first | apply kb1 | apply kb2 | apply kb3)); exact BK381.out⟩, ⟨by repeat (first | (with_reducible first | exact HB.out | apply kc1 | apply kc2 | apply kc3 | refine kc4 ?_ GE378.out | refine kc4 ?_ GE379.out | refine kc4 ?_ GE380.out | refine kc4 ?_ GE381.out) | exact HB.out)⟩⟩
 case rest =>
  clear HC4
  try clear c1
  try clear c2
  try clear p2
  try clear c3
  try clear c4
  try clear c5
  try clear c6
  try clear p6
  try clear c7
  try clear c8
  try clear c9
  try clear c13
  try clear c13b0
  try clear c15
  try clear c16
  try clear c17
  try clear c20
  try clear c21
  try clear c22
  try clear c24
  try clear c26
  try clear c27
  try clear c28
  try clear c28b0
  try clear c29
  try clear c30
  try clear c31
  try clear c35
  try clear c36
  try clear c37
  try clear c38
  try clear c43
  try clear c44
  try clear c45
  try clear c49
  try clear c50
  try clear c51
  try clear c52
  try clear c58
  try clear c59
  try clear c61
  try clear c62
  try clear c63
  try clear p64
  try clear c67
  try clear c68
  try clear c69
  try clear c70
  try clear hcz10
  try clear hcz18
  try clear hcz23
  try clear hcz32
  try clear hcz39
  try clear hcz40
  try clear hcz42
  try clear hcz46
  try clear hcz53
  try clear hcz54
  try clear hcz56
  try clear hcz57
  try clear hcz60
  try clear hcz64
  try clear hcz71
  try clear hcz72
  try clear p2
  try clear p6
  obtain ⟨kq, x379009_3, x379011_3, x379012_3, x379013_3, x382000_3, x382001_3, x382002_3, x382003_3, HA, HJ3, BK378, BK379, BK380, BK381, HB⟩ := hcut
  cases kq with
  | zero => exact absurd HA.out (by simp [trivetref13_Pay.j2])
  | succ kj3 =>
   have H := HA.out
   clear HA
   simp only [trivetref13_Pay.j2] at H
   replace H := Option.bind_eq_some_iff.mp H
   obtain ⟨t392, A740, H⟩ := H
   replace H : (if t392 = true then (if a0_14 > x379013_3 then (trivetref13_Pay.j3 kj3 a0_0 a0_1 a0_2 a0_3 a0_4 a0_5 a0_6 a0_7 a0_8 x379009_3 a0_10 x379011_3 x379012_3 x379013_3 a0_14 x382000_3 x382001_3 x382002_3 x382003_3 x379013_3 0) else (trivetref13_Pay.j3 kj3 a0_0 a0_1 a0_2 a0_3 a0_4 a0_5 a0_6 a0_7 a0_8 x379009_3 a0_10 x379011_3 x379012_3 x379013_3 a0_14 x382000_3 x382001_3 x382002_3 x382003_3 a0_14 0)) else (trivetref13_Pay.j4 kj3 a0_0 a0_1 a0_2 a0_3 a0_4 a0_5 a0_6 a0_7 a0_8 x379009_3 a0_10 x379011_3 x379012_3 x379013_3 a0_14 x382000_3 x382001_3 x382002_3 x382003_3 0 0)) = some (r1, r2, r3, r4, r5, r6, r7, r8, r9, r10, r11, r12, r13, r14, r15, r16, r17, r18, r19, r20, r21) := H
   have A74 := ka A740
   clear A740
   have HC75 := ka H
   clear H
   have hnb76 := NB378_379.out
   have hnc76 := NB379_378.out
   have hnb77 := NB378_380.out
   have hnc77 := NB380_378.out
   have hnb78 := NB378_381.out
   have hnc78 := NB381_378.out
   have hcz79 := blkAll15 BK378.out
   go_upto_if 91 with (first | ((with_reducible refine gate_callee (f := 25) rfl ?_); refine kg (some 90) rfl rfl Try.func25 (by kernel_rfl) rfl #[.agg #[.int .i64 a0_0, .int .i64 a0_1, .int .i64 a0_2, .int .i64 a0_3, .int .i64 a0_4, .int .i64 a0_5, .int .i64 a0_6, .int .i64 a0_7, .int .i64 a0_8, .int .i64 x379009_3, .int .i64 a0_10, .int .i64 x379011_3, .int .i64 x379012_3, .int .i64 x379013_3, .int .i64 a0_14], .int .i64 a1] rfl ?_; (with_reducible refine (trivetref13_current.calls a0_0 a0_1 a0_2 a0_3 a0_4 a0_5 a0_6 a0_7 a0_8 x379009_3 a0_10 x379011_3 x379012_3 x379013_3 a0_14 a1 t392 _ A74.out).mono ?_); rintro e w80 ⟨rfl, hb⟩; refine ⟨_, rfl, ?_⟩; have n0_ := ka (blk_below (g := gb378) (kz BK378.out) hb); have n1_ := ka (blk_below (g := gb379) (kz BK379.out) hb); have n2_ := ka (blk_below (g := gb380) (kz BK380.out) hb); have n3_ := ka (blk_below (g := gb381) (kz BK381.out) hb); have n4_ := ka (below_step (kw HB.out) hb); clear BK378; clear BK379; clear BK380; clear BK381; clear HB; have BK378 := n0_; have BK379 := n1_; have BK380 := n2_; have BK381 := n3_; have HB := n4_; clear n0_ n1_ n2_ n3_ n4_; (try clear hb); (try clear hb2); (try clear hk); (try clear hi)) | ((with_reducible refine gate_load (T := 25) rfl ?_); first | refine load_event (g := gb378) rfl rfl rfl Try.underlying25 rfl (by (with_reducible repeat (first | apply kb1 | apply kb2 | apply kb3)); with_reducible exact BK378.out) (by kernel_rfl) ?_ | refine load_event (g := gb379) rfl rfl rfl Try.underlying25 rfl (by (with_reducible repeat (first | apply kb1 | apply kb2 | apply kb3)); with_reducible exact BK379.out) (by kernel_rfl) ?_) | ((with_reducible refine gate_store (T := 25) rfl ?_); first | (refine store_event (g := gb378) rfl rfl rfl rfl rfl (by (with_reducible repeat (first | apply kb1 | apply kb2 | apply kb3)); with_reducible exact BK378.out) (by kernel_rfl) (by rfl) (by rfl) ?_; intro w_378 eX eO eB; (try (replace BK379 := ka ((eO _ NB379_378.out).trans (by (with_reducible repeat (first | apply kb1 | apply kb2 | apply kb3)); with_reducible exact BK379.out)))); (try (replace BK380 := ka ((eO _ NB380_378.out).trans (by (with_reducible repeat (first | apply kb1 | apply kb2 | apply kb3)); with_reducible exact BK380.out)))); (try (replace BK381 := ka ((eO _ NB381_378.out).trans (by (with_reducible repeat (first | apply kb1 | apply kb2 | apply kb3)); with_reducible exact BK381.out)))); (try (replace BK389 := ka ((eO _ NB389_378.out).trans (by (with_reducible repeat (first | apply kb1 | apply kb2 | apply kb3)); with_reducible exact BK389.out)))); replace BK378 := ka eX; replace HB := ka (eB _ _ (kw HB.out) GE378.out); clear eX eO eB; (try have hz378 := blkAll15 BK378.out); (try have hz379 := blkAll15 BK379.out); (try have hz380 := blkAll6 BK380.out); (try have hz381 := blkAll6 BK381.out); (try have hz389 := blkAll6 BK389.out); (try have hy379 := NB379_378.out); (try have hx379 := NB378_379.out); (try have hy380 := NB380_378.out); (try have hx380 := NB378_380.out); (try have hy381 := NB381_378.out); (try have hx381 := NB378_381.out); (try have hy389 := NB389_378.out); (try have hx389 := NB378_389.out)) | (refine store_event (g := gb379) rfl rfl rfl rfl rfl (by (with_reducible repeat (first | apply kb1 | apply kb2 | apply kb3)); with_reducible exact BK379.out) (by kernel_rfl) (by rfl) (by rfl) ?_; intro w_379 eX eO eB; (try (replace BK378 := ka ((eO _ NB378_379.out).trans (by (with_reducible repeat (first | apply kb1 | apply kb2 | apply kb3)); with_reducible exact BK378.out)))); (try (replace BK380 := ka ((eO _ NB380_379.out).trans (by (with_reducible repeat (first | apply kb1 | apply kb2 | apply kb3)); with_reducible exact BK380.out)))); (try (replace BK381 := ka ((eO _ NB381_379.out).trans (by (with_reducible repeat (first | apply kb1 | apply kb2 | apply kb3)); with_reducible exact BK381.out)))); (try (replace BK389 := ka ((eO _ NB389_379.out).trans (by (with_reducible repeat (first | apply kb1 | apply kb2 | apply kb3)); with_reducible exact BK389.out)))); replace BK379 := ka eX; replace HB := ka (eB _ _ (kw HB.out) GE379.out); clear eX eO eB; (try have hz378 := blkAll15 BK378.out); (try have hz379 := blkAll15 BK379.out); (try have hz380 := blkAll6 BK380.out); (try have hz381 := blkAll6 BK381.out); (try have hz389 := blkAll6 BK389.out); (try have hy378 := NB378_379.out); (try have hx378 := NB379_378.out); (try have hy380 := NB380_379.out); (try have hx380 := NB379_380.out); (try have hy381 := NB381_379.out); (try have hx381 := NB379_381.out); (try have hy389 := NB389_379.out); (try have hx389 := NB379_389.out))))
   (try simp only [Act.put, List.setIfInBounds_toArray, List.set_cons_zero, List.set_cons_succ])
   go_cut [] (fun wc => ∃ (kq : Nat) (x379013_74 : Int) (x379014_74 : Int) (x382004_74 : Int), Aside0 (trivetref13_Pay.j4 kq a0_0 a0_1 a0_2 a0_3 a0_4 a0_5 a0_6 a0_7 a0_8 x379009_3 a0_10 x379011_3 x379012_3 x379013_74 x379014_74 x382000_3 x382001_3 x382002_3 x382003_3 x382004_74 0 = some (r1, r2, r3, r4, r5, r6, r7, r8, r9, r10, r11, r12, r13, r14, r15, r16, r17, r18, r19, r20, r21)) ∧ Aside0 (kq ≤ kj3) ∧ Aside0 (wc.heap[gb378]? = some (.cells #[.int .i64 a0_0, .int .i64 a0_1, .int .i64 a0_2, .int .i64 a0_3, .int .i64 a0_4, .int .i64 a0_5, .int .i64 a0_6, .int .i64 a0_7, .int .i64 a0_8, .int .i64 x379009_3, .int .i64 a0_10, .int .i64 x379011_3, .int .i64 x379012_3, .int .i64 x379013_74, .int .i64 x379014_74] 25 (0, 0))) ∧ Aside0 (wc.heap[gb379]? = some (.cells #[.int .i64 0, .int .i64 0, .int .i64 0, .int .i64 0, .int .i64 0, .int .i64 0, .int .i64 0, .int .i64 0, .int .i64 0, .int .i64 0, .int .i64 0, .int .i64 0, .int .i64 0, .int .i64 0, .int .i64 0] 25 (0, 0))) ∧ Aside0 (wc.heap[gb380]? = some (.cells #[.int .i64 0, .int .i64 0, .int .i64 0, .int .i64 0, .int .i64 0, .int .i64 0] 28 (0, 0))) ∧ Aside0 (wc.heap[gb381]? = some (.cells #[.int .i64 x382000_3, .int .i64 x382001_3, .int .i64 x382002_3, .int .i64 x382003_3, .int .i64 x382004_74, .int .i64 0] 28 (0, 0))) ∧ Aside0 (Below w.heap.size w wc))
   case first =>
    have H := HC75.out
    clear HC75
    by_cases c81 : t392 = true
    ·subst c81
     have H1 : (if a0_14 > x379013_3 then (trivetref13_Pay.j3 kj3 a0_0 a0_1 a0_2 a0_3 a0_4 a0_5 a0_6 a0_7 a0_8 x379009_3 a0_10 x379011_3 x379012_3 x379013_3 a0_14 x382000_3 x382001_3 x382002_3 x382003_3 x379013_3 0) else (trivetref13_Pay.j3 kj3 a0_0 a0_1 a0_2 a0_3 a0_4 a0_5 a0_6 a0_7 a0_8 x379009_3 a0_10 x379011_3 x379012_3 x379013_3 a0_14 x382000_3 x382001_3 x382002_3 x382003_3 a0_14 0)) = some (r1, r2, r3, r4, r5, r6, r7, r8, r9, r10, r11, r12, r13, r14, r15, r16, r17, r18, r19, r20, r21) := by rw [if_pos rfl] at H; exact H
     clear H
     have H := H1
     clear H1
     have HC82 := ka H
     clear H
     have hnb83 := NB378_379.out
     have hnc83 := NB379_378.out
     have hnb84 := NB378_380.out
     have hnc84 := NB380_378.out
     have hnb85 := NB378_381.out
     have hnc85 := NB381_378.out
     have hcz86 := blkAll15 BK378.out
     have hnb87 := NB381_379.out
     have hnc87 := NB379_381.out
     have hnb88 := NB381_380.out
     have hnc88 := NB380_381.out
     have hcz89 := blkAll6 BK381.out
     go_upto_if 99 with (fail)
     go_cut [] (fun wc => ∃ (kq : Nat) (x382004_81 : Int), Aside0 (trivetref13_Pay.j3 kq a0_0 a0_1 a0_2 a0_3 a0_4 a0_5 a0_6 a0_7 a0_8 x379009_3 a0_10 x379011_3 x379012_3 x379013_3 a0_14 x382000_3 x382001_3 x382002_3 x382003_3 x382004_81 0 = some (r1, r2, r3, r4, r5, r6, r7, r8, r9, r10, r11, r12, r13, r14, r15, r16, r17, r18, r19, r20, r21)) ∧ Aside0 (kq ≤ kj3) ∧ Aside0 (wc.heap[gb378]? = some (.cells #[.int .i64 a0_0, .int .i64 a0_1, .int .i64 a0_2, .int .i64 a0_3, .int .i64 a0_4, .int .i64 a0_5, .int .i64 a0_6, .int .i64 a0_7, .int .i64 a0_8, .int .i64 x379009_3, .int .i64 a0_10, .int .i64 x379011_3, .int .i64 x379012_3, .int .i64 x379013_3, .int .i64 a0_14] 25 (0, 0))) ∧ Aside0 (wc.heap[gb379]? = some (.cells #[.int .i64 0, .int .i64 0, .int .i64 0, .int .i64 0, .int .i64 0, .int .i64 0, .int .i64 0, .int .i64 0, .int .i64 0, .int .i64 0, .int .i64 0, .int .i64 0, .int .i64 0, .int .i64 0, .int .i64 0] 25 (0, 0))) ∧ Aside0 (wc.heap[gb380]? = some (.cells #[.int .i64 0, .int .i64 0, .int .i64 0, .int .i64 0, .int .i64 0, .int .i64 0] 28 (0, 0))) ∧ Aside0 (wc.heap[gb381]? = some (.cells #[.int .i64 x382000_3, .int .i64 x382001_3, .int .i64 x382002_3, .int .i64 x382003_3, .int .i64 x382004_81, .int .i64 0] 28 (0, 0))) ∧ Aside0 (Below w.heap.size w wc))
     case first =>
      have H := HC82.out
      clear HC82
      by_cases c90 : a0_14 > x379013_3
      ·rw [if_pos c90] at H
       have c90b0 : decide (x379013_3 < a0_14) = true := decide_eq_true c90
       clear c90
       (first | rw [c90b0] | (simp only [i64_w, i32_w]; rw [c90b0]) | skip)
       have H' := ka H
       clear H
       have hnb91 := NB378_379.out
       have hnc91 := NB379_378.out
       have hnb92 := NB378_380.out
       have hnc92 := NB380_378.out
       have hnb93 := NB378_381.out
       have hnc93 := NB381_378.out
       have hcz94 := blkAll15 BK378.out
       have hnb95 := NB381_379.out
       have hnc95 := NB379_381.out
       have hnb96 := NB381_380.out
       have hnc96 := NB380_381.out
       have hcz97 := blkAll6 BK381.out
       go_wp2
       go_meet
       case rel => exact ⟨_, (x379013_3), H', ⟨by have := HJ3.out; first | omega | exact Nat.le_refl _⟩, ⟨by (with_reducible repeat (first | apply kb1 | apply kb2 | apply kb3 | refine kb4 ?_ NB378_381.out _)); exact BK378.out⟩, ⟨by (with_reducible repeat (first | apply kb1 | apply kb2 | apply kb3 | refine kb4 ?_ NB379_381.out _)); exact BK379.out⟩, ⟨by (with_reducible repeat (first | apply kb1 | apply kb2 | apply kb3 | refine kb4 ?_ NB380_381.out _)); exact BK380.out⟩, ⟨by (with_reducible repeat (first | apply kb1 | apply kb2 | apply kb3 | apply blkPut6_4)); exact BK381.out⟩, ⟨by repeat (first | (with_reducible first | exact HB.out | apply kc1 | apply kc2 | apply kc3 | refine kc4 ?_ GE378.out | refine kc4 ?_ GE379.out | refine kc4 ?_ GE380.out | refine kc4 ?_ GE381.out) | exact HB.out)⟩⟩
      ·rw [if_neg c90] at H
       have c90b0 : decide (x379013_3 < a0_14) = false := decide_eq_false c90
       clear c90
       (first | rw [c90b0] | (simp only [i64_w, i32_w]; rw [c90b0]) | skip)
       have H' := ka H
       clear H
       go_wp2
       go_meet
       case rel => exact ⟨_, (a0_14), H', ⟨by have := HJ3.out; first | omega | exact Nat.le_refl _⟩, ⟨by (with_reducible repeat (first | apply kb1 | apply kb2 | apply kb3)); refine kb4 ?_ NB378_381.out _; (with_reducible repeat (first | apply kb1 | apply kb2 | apply kb3)); exact BK378.out⟩, ⟨by (with_reducible repeat (first | apply kb1 | apply kb2 | apply kb3)); refine kb4 ?_ NB379_381.out _; (with_reducible repeat (first | apply kb1 | apply kb2 | apply kb3)); exact BK379.out⟩, ⟨by (with_reducible repeat (first | apply kb1 | apply kb2 | apply kb3)); refine kb4 ?_ NB380_381.out _; (with_reducible repeat (first | apply kb1 | apply kb2 | apply kb3)); exact BK380.out⟩, ⟨by (with_reducible repeat (first | apply kb1 | apply kb2 | apply kb3)); refine blk_put (cs := #[.int .i64 x382000_3, .int .i64 x382001_3, .int .i64 x382002_3, .int .i64 x382003_3, .int .i64 0, .int .i64 0]) ?_ 4 _ rfl; (with_reducible repeat (first | apply kb1 | apply kb2 | apply kb3)); exact BK381.out⟩, ⟨by repeat (first | (with_reducible first | exact HB.out | apply kc1 | apply kc2 | apply kc3 | refine kc4 ?_ GE378.out | refine kc4 ?_ GE379.out | refine kc4 ?_ GE380.out | refine kc4 ?_ GE381.out) | exact HB.out)⟩⟩
     case rest =>
      clear HC82
      try clear c2
      try clear p2
      try clear c4
      try clear c5
      try clear c6
      try clear p6
      try clear c7
      try clear c8
      try clear c9
      try clear c25
      try clear c49
      try clear c50
      try clear c51
      try clear c52
      try clear c58
      try clear c59
      try clear c61
      try clear c62
      try clear c63
      try clear p64
      try clear c67
      try clear c68
      try clear c69
      try clear c70
      try clear c76
      try clear c77
      try clear c78
      try clear c81
      try clear c83
      try clear c84
      try clear c85
      try clear c87
      try clear c88
      try clear c90
      try clear c90b0
      try clear c91
      try clear c92
      try clear c93
      try clear c95
      try clear c96
      try clear hcz10
      try clear hcz18
      try clear hcz23
      try clear hcz32
      try clear hcz39
      try clear hcz40
      try clear hcz42
      try clear hcz46
      try clear hcz53
      try clear hcz54
      try clear hcz56
      try clear hcz57
      try clear hcz60
      try clear hcz64
      try clear hcz71
      try clear hcz72
      try clear hcz79
      try clear hcz86
      try clear hcz89
      try clear hcz94
      try clear hcz97
      try clear p2
      try clear p6
      try clear p64
      obtain ⟨kq, x382004_81, HA, HJ81, BK378, BK379, BK380, BK381, HB⟩ := hcut
      cases kq with
      | zero => exact absurd HA.out (by simp [trivetref13_Pay.j3])
      | succ kj81 =>
       have H := HA.out
       clear HA
       simp only [trivetref13_Pay.j3] at H
       have H' := ka H
       clear H
       have hnb98 := NB378_379.out
       have hnc98 := NB379_378.out
       have hnb99 := NB378_380.out
       have hnc99 := NB380_378.out
       have hnb100 := NB378_381.out
       have hnc100 := NB381_378.out
       have hcz101 := blkAll15 BK378.out
       have hnb102 := NB381_379.out
       have hnc102 := NB379_381.out
       have hnb103 := NB381_380.out
       have hnc103 := NB380_381.out
       have hcz104 := blkAll6 BK381.out
       go_wp2
       go_meet
       case rel => exact ⟨_, (wrap64 (x379013_3 - x382004_81)), (wrap64 (a0_14 - x382004_81)), (x382004_81), H', ⟨by have := HJ3.out; have := HJ81.out; first | omega | exact Nat.le_refl _⟩, ⟨by (with_reducible repeat (first | apply kb1 | apply kb2 | apply kb3 | apply blkPut15_13 | apply blkPut15_14)); exact BK378.out⟩, ⟨by (with_reducible repeat (first | apply kb1 | apply kb2 | apply kb3 | refine kb4 ?_ NB379_378.out _)); exact BK379.out⟩, ⟨by (with_reducible repeat (first | apply kb1 | apply kb2 | apply kb3 | refine kb4 ?_ NB380_378.out _)); exact BK380.out⟩, ⟨by (with_reducible repeat (first | apply kb1 | apply kb2 | apply kb3 | refine kb4 ?_ NB381_378.out _)); exact BK381.out⟩, ⟨by repeat (first | (with_reducible first | exact HB.out | apply kc1 | apply kc2 | apply kc3 | refine kc4 ?_ GE378.out | refine kc4 ?_ GE379.out | refine kc4 ?_ GE380.out | refine kc4 ?_ GE381.out) | exact HB.out)⟩⟩
    ·replace c81 := Bool.eq_false_iff.mpr c81
     subst c81
     have H1 : (trivetref13_Pay.j4 kj3 a0_0 a0_1 a0_2 a0_3 a0_4 a0_5 a0_6 a0_7 a0_8 x379009_3 a0_10 x379011_3 x379012_3 x379013_3 a0_14 x382000_3 x382001_3 x382002_3 x382003_3 0 0) = some (r1, r2, r3, r4, r5, r6, r7, r8, r9, r10, r11, r12, r13, r14, r15, r16, r17, r18, r19, r20, r21) := by rw [if_neg (show ¬ (false = true) by decide)] at H; exact H
     clear H
     have H := H1
     clear H1
     have H' := ka H
     clear H
     go_wp2
     go_meet
     case rel => exact ⟨_, (x379013_3), (a0_14), (0), H', ⟨by have := HJ3.out; first | omega | exact Nat.le_refl _⟩, ⟨by (with_reducible repeat (first | apply kb1 | apply kb2 | apply kb3)); exact BK378.out⟩, ⟨by (with_reducible repeat (first | apply kb1 | apply kb2 | apply kb3)); exact BK379.out⟩, ⟨by (with_reducible repeat (first | apply kb1 | apply kb2 | apply kb3)); exact BK380.out⟩, ⟨by (with_reducible repeat (first | apply kb1 | apply kb2 | apply kb3)); exact BK381.out⟩, ⟨by repeat (first | (with_reducible first | exact HB.out | apply kc1 | apply kc2 | apply kc3 | refine kc4 ?_ GE378.out | refine kc4 ?_ GE379.out | refine kc4 ?_ GE380.out | refine kc4 ?_ GE381.out) | exact HB.out)⟩⟩
   case rest =>
    clear HC75
    try clear c1
    try clear p2
    try clear p6
    try clear c7
    try clear c8
    try clear c9
    try clear c10
    try clear p64
    try clear c76
    try clear c77
    try clear c78
    try clear c81
    try clear c83
    try clear c84
    try clear c85
    try clear c87
    try clear c88
    try clear c90
    try clear c90b0
    try clear c91
    try clear c92
    try clear c93
    try clear c95
    try clear c96
    try clear c98
    try clear c99
    try clear c100
    try clear c102
    try clear c103
    try clear hcz101
    try clear hcz104
    try clear hcz10
    try clear hcz18
    try clear hcz23
    try clear hcz32
    try clear hcz39
    try clear hcz40
    try clear hcz42
    try clear hcz46
    try clear hcz53
    try clear hcz54
    try clear hcz56
    try clear hcz57
    try clear hcz60
    try clear hcz64
    try clear hcz71
    try clear hcz72
    try clear hcz79
    try clear hcz86
    try clear hcz89
    try clear hcz94
    try clear hcz97
    try clear p2
    try clear p6
    try clear p64
    obtain ⟨kq, x379013_74, x379014_74, x382004_74, HA, HJ74, BK378, BK379, BK380, BK381, HB⟩ := hcut
    cases kq with
    | zero => exact absurd HA.out (by simp [trivetref13_Pay.j4])
    | succ kj74 =>
     have H := HA.out
     clear HA
     simp only [trivetref13_Pay.j4] at H
     simp only [Option.some.injEq, Prod.mk.injEq] at H
     obtain ⟨rfl, rfl, rfl, rfl, rfl, rfl, rfl, rfl, rfl, rfl, rfl, rfl, rfl, rfl, rfl, rfl, rfl, rfl, rfl, rfl, rfl⟩ := H
     have hnb105 := NB378_379.out
     have hnc105 := NB379_378.out
     have hnb106 := NB378_380.out
     have hnc106 := NB380_378.out
     have hnb107 := NB378_381.out
     have hnc107 := NB381_378.out
     have hcz108 := blkAll15 BK378.out
     have hnb109 := NB381_379.out
     have hnc109 := NB379_381.out
     have hnb110 := NB381_380.out
     have hnc110 := NB380_381.out
     have hcz111 := blkAll6 BK381.out
     try go_wp2
     have n0_ : Aside0 ((wc.setCell ⟨gb381, 5, none⟩ (.int .i64 x379013_74)).heap[gb378]? = some (.cells #[.int .i64 a0_0, .int .i64 a0_1, .int .i64 a0_2, .int .i64 a0_3, .int .i64 a0_4, .int .i64 a0_5, .int .i64 a0_6, .int .i64 a0_7, .int .i64 a0_8, .int .i64 x379009_3, .int .i64 a0_10, .int .i64 x379011_3, .int .i64 x379012_3, .int .i64 x379013_74, .int .i64 x379014_74] 25 (0, 0))) := ⟨by (with_reducible repeat (first | apply kb1 | apply kb2 | apply kb3)); refine kb4 ?_ NB378_381.out _; (with_reducible repeat (first | apply kb1 | apply kb2 | apply kb3)); exact BK378.out⟩
     have n1_ : Aside0 ((wc.setCell ⟨gb381, 5, none⟩ (.int .i64 x379013_74)).heap[gb379]? = some (.cells #[.int .i64 0, .int .i64 0, .int .i64 0, .int .i64 0, .int .i64 0, .int .i64 0, .int .i64 0, .int .i64 0, .int .i64 0, .int .i64 0, .int .i64 0, .int .i64 0, .int .i64 0, .int .i64 0, .int .i64 0] 25 (0, 0))) := ⟨by (with_reducible repeat (first | apply kb1 | apply kb2 | apply kb3)); refine kb4 ?_ NB379_381.out _; (with_reducible repeat (first | apply kb1 | apply kb2 | apply kb3)); exact BK379.out⟩
     have n2_ : Aside0 ((wc.setCell ⟨gb381, 5, none⟩ (.int .i64 x379013_74)).heap[gb380]? = some (.cells #[.int .i64 0, .int .i64 0, .int .i64 0, .int .i64 0, .int .i64 0, .int .i64 0] 28 (0, 0))) := ⟨by (with_reducible repeat (first | apply kb1 | apply kb2 | apply kb3)); refine kb4 ?_ NB380_381.out _; (with_reducible repeat (first | apply kb1 | apply kb2 | apply kb3)); exact BK380.out⟩
     have n3_ : Aside0 ((wc.setCell ⟨gb381, 5, none⟩ (.int .i64 x379013_74)).heap[gb381]? = some (.cells #[.int .i64 x382000_3, .int .i64 x382001_3, .int .i64 x382002_3, .int .i64 x382003_3, .int .i64 x382004_74, .int .i64 x379013_74] 28 (0, 0))) := ⟨by (with_reducible repeat (first | apply kb1 | apply kb2 | apply kb3)); refine blk_put (cs := #[.int .i64 x382000_3, .int .i64 x382001_3, .int .i64 x382002_3, .int .i64 x382003_3, .int .i64 x382004_74, .int .i64 0]) ?_ 5 _ rfl; (with_reducible repeat (first | apply kb1 | apply kb2 | apply kb3)); exact BK381.out⟩
     have n4_ : Aside0 (Below w.heap.size w (wc.setCell ⟨gb381, 5, none⟩ (.int .i64 x379013_74))) := ⟨by repeat (first | (with_reducible first | exact HB.out | apply kc1 | apply kc2 | apply kc3 | refine kc4 ?_ GE378.out | refine kc4 ?_ GE379.out | refine kc4 ?_ GE380.out | refine kc4 ?_ GE381.out) | exact HB.out)⟩
     (try clear BK378)
     (try clear BK379)
     (try clear BK380)
     (try clear BK381)
     (try clear HB)
     generalize (wc.setCell ⟨gb381, 5, none⟩ (.int .i64 x379013_74)) = w112 at n0_ n1_ n2_ n3_ n4_ ⊢
     have BK378 := n0_
     have BK379 := n1_
     have BK380 := n2_
     have BK381 := n3_
     have HB := n4_
     clear n0_ n1_ n2_ n3_ n4_
     have n0_ := ka (blk_drew BK378.out)
     have n1_ := ka (blk_drew BK379.out)
     have n2_ := ka (blk_drew BK380.out)
     have n3_ := ka (blk_drew BK381.out)
     have n4_ := ka (below_drew1 HB.out)
     clear BK378
     clear BK379
     clear BK380
     clear BK381
     clear HB
     have BK378 := n0_
     have BK379 := n1_
     have BK380 := n2_
     have BK381 := n3_
     have HB := n4_
     clear n0_ n1_ n2_ n3_ n4_
     refine start_ (n := 4) (S := fun w' => w'.heap[gb378]? = some (.cells #[.int .i64 a0_0, .int .i64 a0_1, .int .i64 a0_2, .int .i64 a0_3, .int .i64 a0_4, .int .i64 a0_5, .int .i64 a0_6, .int .i64 a0_7, .int .i64 a0_8, .int .i64 x379009_3, .int .i64 a0_10, .int .i64 x379011_3, .int .i64 x379012_3, .int .i64 x379013_74, .int .i64 x379014_74] 25 (0, 0)) ∧ w'.heap[gb381]? = some (.cells #[.int .i64 x382000_3, .int .i64 x382001_3, .int .i64 x382002_3, .int .i64 x382003_3, .int .i64 x382004_74, .int .i64 x379013_74] 28 (0, 0))) (ds := []) #[false, false, false, false] (by kernel_rfl) rfl rfl ⟨BK378.out, BK381.out⟩ (fun hHeld => ?_)
     generalize w112.drew = w113 at BK378 BK379 BK380 BK381 HB hHeld ⊢
     refine take_ (i := 0) (N := some 118) (v := ?_) (a' := ?_) #[true, false, false, false] rfl rfl (by kernel_rfl) (fun _ _ _ h => h) (Or.inl ⟨by rfl, ?_⟩) hHeld ?_ ?_
     rotate_left
     ·rintro w' ⟨b378, b381⟩
      first | exact loadRow rfl rfl Try.underlying25 rfl b378 (by kernel_rfl) | exact loadRow rfl rfl Try.underlying28 rfl b381 (by kernel_rfl) | (have q378 := blkAll15 b378; have q381 := blkAll6 b381; go_simp; with_reducible rfl)
     rotate_left
     ·simp only [Act.put, List.setIfInBounds_toArray, List.set_cons_zero, List.set_cons_succ, i64_w, i32_w]
      rfl
     refine take_ (i := 1) (N := some 119) (v := ?_) (a' := ?_) #[true, true, false, false] rfl rfl (by kernel_rfl) (fun _ _ _ h => h) (Or.inl ⟨by rfl, ?_⟩) hHeld ?_ ?_
     rotate_left
     ·rintro w' ⟨b378, b381⟩
      first | exact loadRow rfl rfl Try.underlying25 rfl b378 (by kernel_rfl) | exact loadRow rfl rfl Try.underlying28 rfl b381 (by kernel_rfl) | (have q378 := blkAll15 b378; have q381 := blkAll6 b381; go_simp; with_reducible rfl)
     rotate_left
     ·simp only [Act.put, List.setIfInBounds_toArray, List.set_cons_zero, List.set_cons_succ, i64_w, i32_w]
      rfl
     refine one_ (i := 2) (N := none) #[true, true, true, false] rfl rfl (by kernel_rfl) (by decide) (fun K hK => ?_)
     refine skipRow (by rfl) rfl rfl rfl rfl BK379.out (by kernel_rfl) rfl rfl ?_
     refine fresh4 (K := K) (o1 := w113.heap[gb378]?) (o3 := w113.heap[gb380]?) (o4 := w113.heap[gb381]?) (setRow_other _ _ _ _ NB378_379.out) (setRow_heap _ _ _ _ _ _ BK379.out) (setRow_other _ _ _ _ NB380_379.out) (setRow_other _ _ _ _ NB381_379.out) (below_setRow HB.out GE379.out _) (fun w113 eBK378 eBK379 eBK380 eBK381 eHB => ?_)
     replace BK378 := ka (eBK378.trans BK378.out)
     replace BK379 := ka eBK379
     replace BK380 := ka (eBK380.trans BK380.out)
     replace BK381 := ka (eBK381.trans BK381.out)
     replace HB := ka eHB
     clear hHeld eHB eBK378 eBK379 eBK380 eBK381
     refine hK.out _ _ ⟨BK378.out, BK381.out⟩ (fun hHeld => ?_)
     clear hK K
     refine one_ (i := 3) (N := none) #[true, true, true, true] rfl rfl (by kernel_rfl) (by decide) (fun K hK => ?_)
     refine skipRow (by rfl) rfl rfl rfl rfl BK380.out (by kernel_rfl) rfl rfl ?_
     refine fresh4 (K := K) (o1 := w113.heap[gb378]?) (o2 := w113.heap[gb379]?) (o4 := w113.heap[gb381]?) (setRow_other _ _ _ _ NB378_380.out) (setRow_other _ _ _ _ NB379_380.out) (setRow_heap _ _ _ _ _ _ BK380.out) (setRow_other _ _ _ _ NB381_380.out) (below_setRow HB.out GE380.out _) (fun w113 eBK378 eBK379 eBK380 eBK381 eHB => ?_)
     replace BK378 := ka (eBK378.trans BK378.out)
     replace BK379 := ka (eBK379.trans BK379.out)
     replace BK380 := ka eBK380
     replace BK381 := ka (eBK381.trans BK381.out)
     replace HB := ka eHB
     clear hHeld eHB eBK378 eBK379 eBK380 eBK381
     refine hK.out _ _ ⟨BK378.out, BK381.out⟩ (fun hHeld => ?_)
     clear hK K
     refine done_ (by kernel_rfl) ?_
     try go_wp2
     refine bodyPost_ret (results_cc rfl _ _ gb379 gb380 25 28 #[.int .i64 a0_0, .int .i64 a0_1, .int .i64 a0_2, .int .i64 a0_3, .int .i64 a0_4, .int .i64 a0_5, .int .i64 a0_6, .int .i64 a0_7, .int .i64 a0_8, .int .i64 x379009_3, .int .i64 a0_10, .int .i64 x379011_3, .int .i64 x379012_3, .int .i64 x379013_74, .int .i64 x379014_74] #[.int .i64 x382000_3, .int .i64 x382001_3, .int .i64 x382002_3, .int .i64 x382003_3, .int .i64 x382004_74, .int .i64 x379013_74] (0, 0) (0, 0) _ _ rfl (by (with_reducible repeat (first | apply kb1 | apply kb2 | apply kb3 | refine kb4 ?_ NB379_380.out _ | apply blkPut15_14 | apply blkPut15_13 | apply blkPut15_12 | apply blkPut15_11 | apply blkPut15_10 | apply blkPut15_9 | apply blkPut15_8 | apply blkPut15_7 | apply blkPut15_6 | apply blkPut15_5 | apply blkPut15_4 | apply blkPut15_3 | apply blkPut15_2 | apply blkPut15_1 | apply blkPut15_0)); exact BK379.out) Try.underlying25 rfl (by kernel_rfl) rfl (by (with_reducible repeat (first | apply kb1 | apply kb2 | apply kb3 | apply blkPut6_5 | apply blkPut6_4 | apply blkPut6_3 | apply blkPut6_2 | apply blkPut6_1 | apply blkPut6_0 | refine kb4 ?_ NB380_379.out _)); exact BK380.out) Try.underlying28 rfl (by kernel_rfl)) rfl ?_
     exact ⟨by first | rfl | (simp [errW_none, errW_some] <;> rfl) | (simp [*, errW_none, errW_some] <;> rfl), by repeat (first | (with_reducible first | exact HB.out | apply kc1 | apply kc2 | apply kc3 | refine kc4 ?_ GE378.out | refine kc4 ?_ GE379.out | refine kc4 ?_ GE380.out | refine kc4 ?_ GE381.out) | exact HB.out)⟩

end Go.Proofs.Ytimobafoidplaaa.P
