-- Written by a program of this session out of the translation of the seat: Lean functions and the proofs that the Go functions come to them.
import Derived.Test.YtdddiahgkpfikaaPx0
import Derived.Test.YtdddiahgkpfikaaPx3
import Derived.Test.YtdddiahgkpfikaaPx8
namespace Go.Proofs.Ytdddiahgkpfikaa.P
open Go.RowKit Go.Proofs.YtdddiahgkpfikaaW.PrintWords Go.Proofs.YtdddiahgkpfikaaW.PrintLast Go.Proofs.YtdddiahgkpfikaaW.PrintMore
attribute [local go_sem] max2_int min2_int max_two min_two max_three min_three max_four min_four   -- for this text's walks alone
set_option linter.unusedVariables false
set_option linter.unusedSimpArgs false

/-! ### trivetlaw01_CentsNear: function 6 -/
def trivetlaw01_CentsNear.j0 : Nat → Bool → Int → Option Int → Int → Option Int → Int → Option Int → Int → Option Int → Bool → Option (Bool)
  | 0, _, _, _, _, _, _, _, _, _, _ => none
  | k + 1, x7, x8, x9, x10, x11, x12, x13, x14, x15, x70 => if x70 = true then (some false) else (if x9.isNone = true then (if x11.isNone = true then (if x13.isNone = true then (if x15.isNone = true then (if x7 = true then (if x8 ≤ x10 then (if x8 = x10 then (if x12 = x8 then (if x14 = x8 then (some true) else (some (x14 == x10))) else (if x12 = x10 then (if x14 = x8 then (some true) else (some (x14 == x10))) else (some false))) else (if (wrap64 (x10 - x8)) = 1 then (if x12 = x8 then (if x14 = x8 then (some true) else (some (x14 == x10))) else (if x12 = x10 then (if x14 = x8 then (some true) else (some (x14 == x10))) else (some false))) else (some false))) else (some false)) else (some false)) else (if x7 = true then (some false) else (some false))) else (if x7 = true then (some false) else (some false))) else (if x7 = true then (some true) else (some false))) else (if x7 = true then (some true) else (some false)))
def trivetlaw01_CentsNear.f (k : Nat) (a0 : Int) (a1 : Int) (a2 : Int) : Option (Bool) := (trivetlaw01_up_s.f).bind fun t331 => ((cents_MulDiv_s.f a0 a1 a2 1).bind fun bt332 => ((cents_MulDiv_s.f a0 a1 a2 2).bind fun bt334 => ((cents_MulDiv_s.f a0 a1 a2 3).bind fun bt336 => ((cents_MulDiv_s.f a0 a1 a2 4).bind fun bt338 => ((cents_MulDiv_s.f a0 a1 1 3).bind fun bt340 => ((cents_Mul_s.f a0 a1).bind fun bt342 => (if bt340.2.isNone = true then (if bt342.2.isNone = true then (trivetlaw01_CentsNear.j0 k t331 bt332.1 bt332.2 bt334.1 bt334.2 bt336.1 bt336.2 bt338.1 bt338.2 (bt340.1 != bt342.1)) else (trivetlaw01_CentsNear.j0 k t331 bt332.1 bt332.2 bt334.1 bt334.2 bt336.1 bt336.2 bt338.1 bt338.2 true)) else (if bt342.2.isNone = true then (trivetlaw01_CentsNear.j0 k t331 bt332.1 bt332.2 bt334.1 bt334.2 bt336.1 bt336.2 bt338.1 bt338.2 true) else (trivetlaw01_CentsNear.j0 k t331 bt332.1 bt332.2 bt334.1 bt334.2 bt336.1 bt336.2 bt338.1 bt338.2 (bt340.1 != bt342.1))))))))))
theorem trivetlaw01_CentsNear.mono_l : ∀ k, (∀ y0 y1 y2 y3 y4 y5 y6 y7 y8 y9, LeO (trivetlaw01_CentsNear.j0 k y0 y1 y2 y3 y4 y5 y6 y7 y8 y9) (trivetlaw01_CentsNear.j0 (k + 1) y0 y1 y2 y3 y4 y5 y6 y7 y8 y9))
  | 0 => fun _ _ _ _ _ _ _ _ _ _ r h => by simp [trivetlaw01_CentsNear.j0] at h
  | k + 1 => by
    have ih0 := trivetlaw01_CentsNear.mono_l k
    · intro y0 y1 y2 y3 y4 y5 y6 y7 y8 y9
      unfold trivetlaw01_CentsNear.j0
      repeat' first
      | (with_reducible exact ih0 _ _ _ _ _ _ _ _ _ _)
      | (with_reducible exact LeO.refl _)
      | (with_reducible exact LeO.none _)
      | (with_reducible refine LeO.ite ?_ ?_)
      | (with_reducible refine LeO.bind ?_ (fun _ => ?_))
      | exact ih0 _ _ _ _ _ _ _ _ _ _
      | exact LeO.none _
      | refine LeO.ite ?_ ?_
      | refine LeO.bind ?_ (fun _ => ?_)
theorem trivetlaw01_CentsNear.mono : ∀ a0 a1 a2 k, LeO (trivetlaw01_CentsNear.f k a0 a1 a2) (trivetlaw01_CentsNear.f (k + 1) a0 a1 a2) := by
  intro a0 a1 a2 k
  have ih0 := trivetlaw01_CentsNear.mono_l k
  unfold trivetlaw01_CentsNear.f
  repeat' first
      | (with_reducible exact ih0 _ _ _ _ _ _ _ _ _ _)
      | (with_reducible exact LeO.refl _)
      | (with_reducible exact LeO.none _)
      | (with_reducible refine LeO.ite ?_ ?_)
      | (with_reducible refine LeO.bind ?_ (fun _ => ?_))
      | exact ih0 _ _ _ _ _ _ _ _ _ _
      | exact LeO.none _
      | refine LeO.ite ?_ ?_
      | refine LeO.bind ?_ (fun _ => ?_)
set_option maxHeartbeats 8000000 in
set_option maxRecDepth 100000 in
theorem trivetlaw01_CentsNear.calls (k : Nat) (a0 : Int) (a1 : Int) (a2 : Int) (r : Bool) (w : World) (h : trivetlaw01_CentsNear.f k a0 a1 a2 = some r) :
    Calls Try.prog 6 #[.int .i64 a0, .int .i64 a1, .int .i64 a2] w fun e w' => e = .returned (.bool r) ∧ Drawn0 w w' := by
  have hu24 := Try.underlying24
  have hu27 := Try.underlying27
  have H : ((trivetlaw01_up_s.f).bind fun t331 => ((cents_MulDiv_s.f a0 a1 a2 1).bind fun bt332 => ((cents_MulDiv_s.f a0 a1 a2 2).bind fun bt334 => ((cents_MulDiv_s.f a0 a1 a2 3).bind fun bt336 => ((cents_MulDiv_s.f a0 a1 a2 4).bind fun bt338 => ((cents_MulDiv_s.f a0 a1 1 3).bind fun bt340 => ((cents_Mul_s.f a0 a1).bind fun bt342 => (if bt340.2.isNone = true then (if bt342.2.isNone = true then (trivetlaw01_CentsNear.j0 k t331 bt332.1 bt332.2 bt334.1 bt334.2 bt336.1 bt336.2 bt338.1 bt338.2 (bt340.1 != bt342.1)) else (trivetlaw01_CentsNear.j0 k t331 bt332.1 bt332.2 bt334.1 bt334.2 bt336.1 bt336.2 bt338.1 bt338.2 true)) else (if bt342.2.isNone = true then (trivetlaw01_CentsNear.j0 k t331 bt332.1 bt332.2 bt334.1 bt334.2 bt336.1 bt336.2 bt338.1 bt338.2 true) else (trivetlaw01_CentsNear.j0 k t331 bt332.1 bt332.2 bt334.1 bt334.2 bt336.1 bt336.2 bt338.1 bt338.2 (bt340.1 != bt342.1))))))))))) = some r := h
  clear h
  replace H := Option.bind_eq_some_iff.mp H
  obtain ⟨t331, A40, H⟩ := H
  replace H : ((cents_MulDiv_s.f a0 a1 a2 1).bind fun bt332 => ((cents_MulDiv_s.f a0 a1 a2 2).bind fun bt334 => ((cents_MulDiv_s.f a0 a1 a2 3).bind fun bt336 => ((cents_MulDiv_s.f a0 a1 a2 4).bind fun bt338 => ((cents_MulDiv_s.f a0 a1 1 3).bind fun bt340 => ((cents_Mul_s.f a0 a1).bind fun bt342 => (if bt340.2.isNone = true then (if bt342.2.isNone = true then (trivetlaw01_CentsNear.j0 k t331 bt332.1 bt332.2 bt334.1 bt334.2 bt336.1 bt336.2 bt338.1 bt338.2 (bt340.1 != bt342.1)) else (trivetlaw01_CentsNear.j0 k t331 bt332.1 bt332.2 bt334.1 bt334.2 bt336.1 bt336.2 bt338.1 bt338.2 true)) else (if bt342.2.isNone = true then (trivetlaw01_CentsNear.j0 k t331 bt332.1 bt332.2 bt334.1 bt334.2 bt336.1 bt336.2 bt338.1 bt338.2 true) else (trivetlaw01_CentsNear.j0 k t331 bt332.1 bt332.2 bt334.1 bt334.2 bt336.1 bt336.2 bt338.1 bt338.2 (bt340.1 != bt342.1)))))))))) = some r := H
  have A4 := Aside0.mk A40
  clear A40
  replace H := Option.bind_eq_some_iff.mp H
  obtain ⟨⟨t332, t333⟩, A50, H⟩ := H
  replace H : ((cents_MulDiv_s.f a0 a1 a2 2).bind fun bt334 => ((cents_MulDiv_s.f a0 a1 a2 3).bind fun bt336 => ((cents_MulDiv_s.f a0 a1 a2 4).bind fun bt338 => ((cents_MulDiv_s.f a0 a1 1 3).bind fun bt340 => ((cents_Mul_s.f a0 a1).bind fun bt342 => (if bt340.2.isNone = true then (if bt342.2.isNone = true then (trivetlaw01_CentsNear.j0 k t331 t332 t333 bt334.1 bt334.2 bt336.1 bt336.2 bt338.1 bt338.2 (bt340.1 != bt342.1)) else (trivetlaw01_CentsNear.j0 k t331 t332 t333 bt334.1 bt334.2 bt336.1 bt336.2 bt338.1 bt338.2 true)) else (if bt342.2.isNone = true then (trivetlaw01_CentsNear.j0 k t331 t332 t333 bt334.1 bt334.2 bt336.1 bt336.2 bt338.1 bt338.2 true) else (trivetlaw01_CentsNear.j0 k t331 t332 t333 bt334.1 bt334.2 bt336.1 bt336.2 bt338.1 bt338.2 (bt340.1 != bt342.1))))))))) = some r := H
  have A5 := Aside0.mk A50
  clear A50
  replace H := Option.bind_eq_some_iff.mp H
  obtain ⟨⟨t334, t335⟩, A60, H⟩ := H
  replace H : ((cents_MulDiv_s.f a0 a1 a2 3).bind fun bt336 => ((cents_MulDiv_s.f a0 a1 a2 4).bind fun bt338 => ((cents_MulDiv_s.f a0 a1 1 3).bind fun bt340 => ((cents_Mul_s.f a0 a1).bind fun bt342 => (if bt340.2.isNone = true then (if bt342.2.isNone = true then (trivetlaw01_CentsNear.j0 k t331 t332 t333 t334 t335 bt336.1 bt336.2 bt338.1 bt338.2 (bt340.1 != bt342.1)) else (trivetlaw01_CentsNear.j0 k t331 t332 t333 t334 t335 bt336.1 bt336.2 bt338.1 bt338.2 true)) else (if bt342.2.isNone = true then (trivetlaw01_CentsNear.j0 k t331 t332 t333 t334 t335 bt336.1 bt336.2 bt338.1 bt338.2 true) else (trivetlaw01_CentsNear.j0 k t331 t332 t333 t334 t335 bt336.1 bt336.2 bt338.1 bt338.2 (bt340.1 != bt342.1)))))))) = some r := H
  have A6 := Aside0.mk A60
  clear A60
  replace H := Option.bind_eq_some_iff.mp H
  obtain ⟨⟨t336, t337⟩, A70, H⟩ := H
  replace H : ((cents_MulDiv_s.f a0 a1 a2 4).bind fun bt338 => ((cents_MulDiv_s.f a0 a1 1 3).bind fun bt340 => ((cents_Mul_s.f a0 a1).bind fun bt342 => (if bt340.2.isNone = true then (if bt342.2.isNone = true then (trivetlaw01_CentsNear.j0 k t331 t332 t333 t334 t335 t336 t337 bt338.1 bt338.2 (bt340.1 != bt342.1)) else (trivetlaw01_CentsNear.j0 k t331 t332 t333 t334 t335 t336 t337 bt338.1 bt338.2 true)) else (if bt342.2.isNone = true then (trivetlaw01_CentsNear.j0 k t331 t332 t333 t334 t335 t336 t337 bt338.1 bt338.2 true) else (trivetlaw01_CentsNear.j0 k t331 t332 t333 t334 t335 t336 t337 bt338.1 bt338.2 (bt340.1 != bt342.1))))))) = some r := H
  have A7 := Aside0.mk A70
  clear A70
  replace H := Option.bind_eq_some_iff.mp H
  obtain ⟨⟨t338, t339⟩, A80, H⟩ := H
  replace H : ((cents_MulDiv_s.f a0 a1 1 3).bind fun bt340 => ((cents_Mul_s.f a0 a1).bind fun bt342 => (if bt340.2.isNone = true then (if bt342.2.isNone = true then (trivetlaw01_CentsNear.j0 k t331 t332 t333 t334 t335 t336 t337 t338 t339 (bt340.1 != bt342.1)) else (trivetlaw01_CentsNear.j0 k t331 t332 t333 t334 t335 t336 t337 t338 t339 true)) else (if bt342.2.isNone = true then (trivetlaw01_CentsNear.j0 k t331 t332 t333 t334 t335 t336 t337 t338 t339 true) else (trivetlaw01_CentsNear.j0 k t331 t332 t333 t334 t335 t336 t337 t338 t339 (bt340.1 != bt342.1)))))) = some r := H
  have A8 := Aside0.mk A80
  clear A80
  replace H := Option.bind_eq_some_iff.mp H
  obtain ⟨⟨t340, t341⟩, A90, H⟩ := H
  replace H : ((cents_Mul_s.f a0 a1).bind fun bt342 => (if t341.isNone = true then (if bt342.2.isNone = true then (trivetlaw01_CentsNear.j0 k t331 t332 t333 t334 t335 t336 t337 t338 t339 (t340 != bt342.1)) else (trivetlaw01_CentsNear.j0 k t331 t332 t333 t334 t335 t336 t337 t338 t339 true)) else (if bt342.2.isNone = true then (trivetlaw01_CentsNear.j0 k t331 t332 t333 t334 t335 t336 t337 t338 t339 true) else (trivetlaw01_CentsNear.j0 k t331 t332 t333 t334 t335 t336 t337 t338 t339 (t340 != bt342.1))))) = some r := H
  have A9 := Aside0.mk A90
  clear A90
  replace H := Option.bind_eq_some_iff.mp H
  obtain ⟨⟨t342, t343⟩, A100, H⟩ := H
  replace H : (if t341.isNone = true then (if t343.isNone = true then (trivetlaw01_CentsNear.j0 k t331 t332 t333 t334 t335 t336 t337 t338 t339 (t340 != t342)) else (trivetlaw01_CentsNear.j0 k t331 t332 t333 t334 t335 t336 t337 t338 t339 true)) else (if t343.isNone = true then (trivetlaw01_CentsNear.j0 k t331 t332 t333 t334 t335 t336 t337 t338 t339 true) else (trivetlaw01_CentsNear.j0 k t331 t332 t333 t334 t335 t336 t337 t338 t339 (t340 != t342)))) = some r := H
  have A10 := Aside0.mk A100
  clear A100
  have HC11 := Aside0.mk H
  clear H
  go_enter Try.func6, Try.ntmps6
  go_upto_region 8 with (first | (go_at_call 12; (with_reducible refine (trivetlaw01_up_s.calls  t331 _ A4.out).mono ?_); rintro e w' ⟨rfl, ⟨nd, rfl⟩⟩; (try first | exact ⟨rfl, _, World.drewN_drewN _ _ _⟩ | exact ⟨rfl, _, Eq.trans (World.drewN_drewN _ _ _) (congrArg (World.drewN _) (Nat.add_assoc _ _ _))⟩)) | (go_at_call 13; (with_reducible refine (cents_MulDiv_s.calls a0 a1 a2 1 t332 t333 _ A5.out).mono ?_); rintro e w' ⟨rfl, ⟨nd, rfl⟩⟩; (try simp only [errW_none, errW_some]); (try first | exact ⟨rfl, _, World.drewN_drewN _ _ _⟩ | exact ⟨rfl, _, Eq.trans (World.drewN_drewN _ _ _) (congrArg (World.drewN _) (Nat.add_assoc _ _ _))⟩)) | (go_at_call 13; (with_reducible refine (cents_MulDiv_s.calls a0 a1 a2 2 t334 t335 _ A6.out).mono ?_); rintro e w' ⟨rfl, ⟨nd, rfl⟩⟩; (try simp only [errW_none, errW_some]); (try first | exact ⟨rfl, _, World.drewN_drewN _ _ _⟩ | exact ⟨rfl, _, Eq.trans (World.drewN_drewN _ _ _) (congrArg (World.drewN _) (Nat.add_assoc _ _ _))⟩)) | (go_at_call 13; (with_reducible refine (cents_MulDiv_s.calls a0 a1 a2 3 t336 t337 _ A7.out).mono ?_); rintro e w' ⟨rfl, ⟨nd, rfl⟩⟩; (try simp only [errW_none, errW_some]); (try first | exact ⟨rfl, _, World.drewN_drewN _ _ _⟩ | exact ⟨rfl, _, Eq.trans (World.drewN_drewN _ _ _) (congrArg (World.drewN _) (Nat.add_assoc _ _ _))⟩)) | (go_at_call 13; (with_reducible refine (cents_MulDiv_s.calls a0 a1 a2 4 t338 t339 _ A8.out).mono ?_); rintro e w' ⟨rfl, ⟨nd, rfl⟩⟩; (try simp only [errW_none, errW_some]); (try first | exact ⟨rfl, _, World.drewN_drewN _ _ _⟩ | exact ⟨rfl, _, Eq.trans (World.drewN_drewN _ _ _) (congrArg (World.drewN _) (Nat.add_assoc _ _ _))⟩)) | (go_at_call 13; (with_reducible refine (cents_MulDiv_s.calls a0 a1 1 3 t340 t341 _ A9.out).mono ?_); rintro e w' ⟨rfl, ⟨nd, rfl⟩⟩; (try simp only [errW_none, errW_some]); (try first | exact ⟨rfl, _, World.drewN_drewN _ _ _⟩ | exact ⟨rfl, _, Eq.trans (World.drewN_drewN _ _ _) (congrArg (World.drewN _) (Nat.add_assoc _ _ _))⟩)) | (go_at_call 15; (with_reducible refine (cents_Mul_s.calls a0 a1 t342 t343 _ A10.out).mono ?_); rintro e w' ⟨rfl, ⟨nd, rfl⟩⟩; (try simp only [errW_none, errW_some]); (try first | exact ⟨rfl, _, World.drewN_drewN _ _ _⟩ | exact ⟨rfl, _, Eq.trans (World.drewN_drewN _ _ _) (congrArg (World.drewN _) (Nat.add_assoc _ _ _))⟩)))
  repeat (go_quiet (first | (go_at_call 12; (with_reducible refine (trivetlaw01_up_s.calls  t331 _ A4.out).mono ?_); rintro e w' ⟨rfl, ⟨nd, rfl⟩⟩; (try first | exact ⟨rfl, _, World.drewN_drewN _ _ _⟩ | exact ⟨rfl, _, Eq.trans (World.drewN_drewN _ _ _) (congrArg (World.drewN _) (Nat.add_assoc _ _ _))⟩)) | (go_at_call 13; (with_reducible refine (cents_MulDiv_s.calls a0 a1 a2 1 t332 t333 _ A5.out).mono ?_); rintro e w' ⟨rfl, ⟨nd, rfl⟩⟩; (try simp only [errW_none, errW_some]); (try first | exact ⟨rfl, _, World.drewN_drewN _ _ _⟩ | exact ⟨rfl, _, Eq.trans (World.drewN_drewN _ _ _) (congrArg (World.drewN _) (Nat.add_assoc _ _ _))⟩)) | (go_at_call 13; (with_reducible refine (cents_MulDiv_s.calls a0 a1 a2 2 t334 t335 _ A6.out).mono ?_); rintro e w' ⟨rfl, ⟨nd, rfl⟩⟩; (try simp only [errW_none, errW_some]); (try first | exact ⟨rfl, _, World.drewN_drewN _ _ _⟩ | exact ⟨rfl, _, Eq.trans (World.drewN_drewN _ _ _) (congrArg (World.drewN _) (Nat.add_assoc _ _ _))⟩)) | (go_at_call 13; (with_reducible refine (cents_MulDiv_s.calls a0 a1 a2 3 t336 t337 _ A7.out).mono ?_); rintro e w' ⟨rfl, ⟨nd, rfl⟩⟩; (try simp only [errW_none, errW_some]); (try first | exact ⟨rfl, _, World.drewN_drewN _ _ _⟩ | exact ⟨rfl, _, Eq.trans (World.drewN_drewN _ _ _) (congrArg (World.drewN _) (Nat.add_assoc _ _ _))⟩)) | (go_at_call 13; (with_reducible refine (cents_MulDiv_s.calls a0 a1 a2 4 t338 t339 _ A8.out).mono ?_); rintro e w' ⟨rfl, ⟨nd, rfl⟩⟩; (try simp only [errW_none, errW_some]); (try first | exact ⟨rfl, _, World.drewN_drewN _ _ _⟩ | exact ⟨rfl, _, Eq.trans (World.drewN_drewN _ _ _) (congrArg (World.drewN _) (Nat.add_assoc _ _ _))⟩)) | (go_at_call 13; (with_reducible refine (cents_MulDiv_s.calls a0 a1 1 3 t340 t341 _ A9.out).mono ?_); rintro e w' ⟨rfl, ⟨nd, rfl⟩⟩; (try simp only [errW_none, errW_some]); (try first | exact ⟨rfl, _, World.drewN_drewN _ _ _⟩ | exact ⟨rfl, _, Eq.trans (World.drewN_drewN _ _ _) (congrArg (World.drewN _) (Nat.add_assoc _ _ _))⟩)) | (go_at_call 15; (with_reducible refine (cents_Mul_s.calls a0 a1 t342 t343 _ A10.out).mono ?_); rintro e w' ⟨rfl, ⟨nd, rfl⟩⟩; (try simp only [errW_none, errW_some]); (try first | exact ⟨rfl, _, World.drewN_drewN _ _ _⟩ | exact ⟨rfl, _, Eq.trans (World.drewN_drewN _ _ _) (congrArg (World.drewN _) (Nat.add_assoc _ _ _))⟩))); go_upto_region 8 with (first | (go_at_call 12; (with_reducible refine (trivetlaw01_up_s.calls  t331 _ A4.out).mono ?_); rintro e w' ⟨rfl, ⟨nd, rfl⟩⟩; (try first | exact ⟨rfl, _, World.drewN_drewN _ _ _⟩ | exact ⟨rfl, _, Eq.trans (World.drewN_drewN _ _ _) (congrArg (World.drewN _) (Nat.add_assoc _ _ _))⟩)) | (go_at_call 13; (with_reducible refine (cents_MulDiv_s.calls a0 a1 a2 1 t332 t333 _ A5.out).mono ?_); rintro e w' ⟨rfl, ⟨nd, rfl⟩⟩; (try simp only [errW_none, errW_some]); (try first | exact ⟨rfl, _, World.drewN_drewN _ _ _⟩ | exact ⟨rfl, _, Eq.trans (World.drewN_drewN _ _ _) (congrArg (World.drewN _) (Nat.add_assoc _ _ _))⟩)) | (go_at_call 13; (with_reducible refine (cents_MulDiv_s.calls a0 a1 a2 2 t334 t335 _ A6.out).mono ?_); rintro e w' ⟨rfl, ⟨nd, rfl⟩⟩; (try simp only [errW_none, errW_some]); (try first | exact ⟨rfl, _, World.drewN_drewN _ _ _⟩ | exact ⟨rfl, _, Eq.trans (World.drewN_drewN _ _ _) (congrArg (World.drewN _) (Nat.add_assoc _ _ _))⟩)) | (go_at_call 13; (with_reducible refine (cents_MulDiv_s.calls a0 a1 a2 3 t336 t337 _ A7.out).mono ?_); rintro e w' ⟨rfl, ⟨nd, rfl⟩⟩; (try simp only [errW_none, errW_some]); (try first | exact ⟨rfl, _, World.drewN_drewN _ _ _⟩ | exact ⟨rfl, _, Eq.trans (World.drewN_drewN _ _ _) (congrArg (World.drewN _) (Nat.add_assoc _ _ _))⟩)) | (go_at_call 13; (with_reducible refine (cents_MulDiv_s.calls a0 a1 a2 4 t338 t339 _ A8.out).mono ?_); rintro e w' ⟨rfl, ⟨nd, rfl⟩⟩; (try simp only [errW_none, errW_some]); (try first | exact ⟨rfl, _, World.drewN_drewN _ _ _⟩ | exact ⟨rfl, _, Eq.trans (World.drewN_drewN _ _ _) (congrArg (World.drewN _) (Nat.add_assoc _ _ _))⟩)) | (go_at_call 13; (with_reducible refine (cents_MulDiv_s.calls a0 a1 1 3 t340 t341 _ A9.out).mono ?_); rintro e w' ⟨rfl, ⟨nd, rfl⟩⟩; (try simp only [errW_none, errW_some]); (try first | exact ⟨rfl, _, World.drewN_drewN _ _ _⟩ | exact ⟨rfl, _, Eq.trans (World.drewN_drewN _ _ _) (congrArg (World.drewN _) (Nat.add_assoc _ _ _))⟩)) | (go_at_call 15; (with_reducible refine (cents_Mul_s.calls a0 a1 t342 t343 _ A10.out).mono ?_); rintro e w' ⟨rfl, ⟨nd, rfl⟩⟩; (try simp only [errW_none, errW_some]); (try first | exact ⟨rfl, _, World.drewN_drewN _ _ _⟩ | exact ⟨rfl, _, Eq.trans (World.drewN_drewN _ _ _) (congrArg (World.drewN _) (Nat.add_assoc _ _ _))⟩))))
  (try simp only [Act.put, List.setIfInBounds_toArray, List.set_cons_zero, List.set_cons_succ])
  go_cut [70] (fun v70 wc => ∃ (kq : Nat) (x70_10 : Bool), v70 = .bool x70_10 ∧ Aside0 (trivetlaw01_CentsNear.j0 kq t331 t332 t333 t334 t335 t336 t337 t338 t339 x70_10 = some r) ∧ Aside0 (kq ≤ k) ∧ Drawn0 w wc)
  case first =>
    have H := HC11.out
    clear HC11
    rcases t341 with _ | q344
    · have H1 : (if t343.isNone = true then (trivetlaw01_CentsNear.j0 k t331 t332 t333 t334 t335 t336 t337 t338 t339 (t340 != t342)) else (trivetlaw01_CentsNear.j0 k t331 t332 t333 t334 t335 t336 t337 t338 t339 true)) = some r := by rw [if_pos (show (none : Option Int).isNone = true by rfl)] at H; exact H
      clear H
      have H := H1
      clear H1
      try simp only [errW_none, errW_some]
      rcases t343 with _ | q345
      · have H1 : (trivetlaw01_CentsNear.j0 k t331 t332 t333 t334 t335 t336 t337 t338 t339 (t340 != t342)) = some r := by rw [if_pos (show (none : Option Int).isNone = true by rfl)] at H; exact H
        clear H
        have H := H1
        clear H1
        try simp only [errW_none, errW_some]
        have H' := Aside0.mk H
        clear H
        go_wp2
        repeat (go_quiet (fail); try go_wp2)
        go_meet
        case rel => exact ⟨_, ((t340 != t342)), (by first | rfl | (simp; done) | (simp [*]; done)), H', ⟨by first | omega | exact Nat.le_refl _⟩, by repeat (first | exact Drawn0.refl _ | apply Drawn0.step)⟩
      · have H1 : (trivetlaw01_CentsNear.j0 k t331 t332 t333 t334 t335 t336 t337 t338 t339 true) = some r := by rw [if_neg (show ¬ (some q345).isNone = true by simp)] at H; exact H
        clear H
        have H := H1
        clear H1
        try simp only [errW_none, errW_some]
        have H' := Aside0.mk H
        clear H
        go_wp2
        repeat (go_quiet (fail); try go_wp2)
        go_meet
        case rel => exact ⟨_, (true), (by first | rfl | (simp; done) | (simp [*]; done)), H', ⟨by first | omega | exact Nat.le_refl _⟩, by repeat (first | exact Drawn0.refl _ | apply Drawn0.step)⟩
    · have H1 : (if t343.isNone = true then (trivetlaw01_CentsNear.j0 k t331 t332 t333 t334 t335 t336 t337 t338 t339 true) else (trivetlaw01_CentsNear.j0 k t331 t332 t333 t334 t335 t336 t337 t338 t339 (t340 != t342))) = some r := by rw [if_neg (show ¬ (some q344).isNone = true by simp)] at H; exact H
      clear H
      have H := H1
      clear H1
      try simp only [errW_none, errW_some]
      rcases t343 with _ | q346
      · have H1 : (trivetlaw01_CentsNear.j0 k t331 t332 t333 t334 t335 t336 t337 t338 t339 true) = some r := by rw [if_pos (show (none : Option Int).isNone = true by rfl)] at H; exact H
        clear H
        have H := H1
        clear H1
        try simp only [errW_none, errW_some]
        have H' := Aside0.mk H
        clear H
        go_wp2
        repeat (go_quiet (fail); try go_wp2)
        go_meet
        case rel => exact ⟨_, (true), (by first | rfl | (simp; done) | (simp [*]; done)), H', ⟨by first | omega | exact Nat.le_refl _⟩, by repeat (first | exact Drawn0.refl _ | apply Drawn0.step)⟩
      · have H1 : (trivetlaw01_CentsNear.j0 k t331 t332 t333 t334 t335 t336 t337 t338 t339 (t340 != t342)) = some r := by rw [if_neg (show ¬ (some q346).isNone = true by simp)] at H; exact H
        clear H
        have H := H1
        clear H1
        try simp only [errW_none, errW_some]
        have H' := Aside0.mk H
        clear H
        go_wp2
        repeat (go_quiet (fail); try go_wp2)
        go_meet
        case rel => exact ⟨_, ((t340 != t342)), (by first | rfl | (simp; done) | (simp [*]; done)), H', ⟨by first | omega | exact Nat.le_refl _⟩, by repeat (first | exact Drawn0.refl _ | apply Drawn0.step)⟩
  case rest =>
    clear HC11
    try clear p2
    try clear q3
    try clear c6
    try clear q344
    try clear q345
    try clear q346
    obtain ⟨kq, x70_10, rfl, HA, HJ10, ⟨mc10, rfl⟩⟩ := hcut
    cases kq with
    | zero => exact absurd HA.out (by simp [trivetlaw01_CentsNear.j0])
    | succ kj10 =>
      have H := HA.out
      clear HA
      simp only [trivetlaw01_CentsNear.j0] at H
      by_cases c12 : x70_10 = true
      · subst c12
        have H1 : (some false) = some r := by rw [if_pos rfl] at H; exact H
        clear H
        have H := H1
        clear H1
        obtain rfl := Option.some.inj H
        go_wp2
        repeat (go_quiet (fail); try go_wp2)
        go_ret
        exact ⟨by first | rfl | (simp; done) | (simp [*]; done), by repeat (first | exact Drawn0.refl _ | apply Drawn0.step)⟩
      · replace c12 := Bool.eq_false_iff.mpr c12
        subst c12
        have H1 : (if t333.isNone = true then (if t335.isNone = true then (if t337.isNone = true then (if t339.isNone = true then (if t331 = true then (if t332 ≤ t334 then (if t332 = t334 then (if t336 = t332 then (if t338 = t332 then (some true) else (some (t338 == t334))) else (if t336 = t334 then (if t338 = t332 then (some true) else (some (t338 == t334))) else (some false))) else (if (wrap64 (t334 - t332)) = 1 then (if t336 = t332 then (if t338 = t332 then (some true) else (some (t338 == t334))) else (if t336 = t334 then (if t338 = t332 then (some true) else (some (t338 == t334))) else (some false))) else (some false))) else (some false)) else (some false)) else (if t331 = true then (some false) else (some false))) else (if t331 = true then (some false) else (some false))) else (if t331 = true then (some true) else (some false))) else (if t331 = true then (some true) else (some false))) = some r := by rw [if_neg (show ¬ (false = true) by decide)] at H; exact H
        clear H
        have H := H1
        clear H1
        rcases t333 with _ | q347
        · have H1 : (if t335.isNone = true then (if t337.isNone = true then (if t339.isNone = true then (if t331 = true then (if t332 ≤ t334 then (if t332 = t334 then (if t336 = t332 then (if t338 = t332 then (some true) else (some (t338 == t334))) else (if t336 = t334 then (if t338 = t332 then (some true) else (some (t338 == t334))) else (some false))) else (if (wrap64 (t334 - t332)) = 1 then (if t336 = t332 then (if t338 = t332 then (some true) else (some (t338 == t334))) else (if t336 = t334 then (if t338 = t332 then (some true) else (some (t338 == t334))) else (some false))) else (some false))) else (some false)) else (some false)) else (if t331 = true then (some false) else (some false))) else (if t331 = true then (some false) else (some false))) else (if t331 = true then (some true) else (some false))) = some r := by rw [if_pos (show (none : Option Int).isNone = true by rfl)] at H; exact H
          clear H
          have H := H1
          clear H1
          try simp only [errW_none, errW_some]
          rcases t335 with _ | q348
          · have H1 : (if t337.isNone = true then (if t339.isNone = true then (if t331 = true then (if t332 ≤ t334 then (if t332 = t334 then (if t336 = t332 then (if t338 = t332 then (some true) else (some (t338 == t334))) else (if t336 = t334 then (if t338 = t332 then (some true) else (some (t338 == t334))) else (some false))) else (if (wrap64 (t334 - t332)) = 1 then (if t336 = t332 then (if t338 = t332 then (some true) else (some (t338 == t334))) else (if t336 = t334 then (if t338 = t332 then (some true) else (some (t338 == t334))) else (some false))) else (some false))) else (some false)) else (some false)) else (if t331 = true then (some false) else (some false))) else (if t331 = true then (some false) else (some false))) = some r := by rw [if_pos (show (none : Option Int).isNone = true by rfl)] at H; exact H
            clear H
            have H := H1
            clear H1
            try simp only [errW_none, errW_some]
            rcases t337 with _ | q349
            · have H1 : (if t339.isNone = true then (if t331 = true then (if t332 ≤ t334 then (if t332 = t334 then (if t336 = t332 then (if t338 = t332 then (some true) else (some (t338 == t334))) else (if t336 = t334 then (if t338 = t332 then (some true) else (some (t338 == t334))) else (some false))) else (if (wrap64 (t334 - t332)) = 1 then (if t336 = t332 then (if t338 = t332 then (some true) else (some (t338 == t334))) else (if t336 = t334 then (if t338 = t332 then (some true) else (some (t338 == t334))) else (some false))) else (some false))) else (some false)) else (some false)) else (if t331 = true then (some false) else (some false))) = some r := by rw [if_pos (show (none : Option Int).isNone = true by rfl)] at H; exact H
              clear H
              have H := H1
              clear H1
              try simp only [errW_none, errW_some]
              rcases t339 with _ | q350
              · have H1 : (if t331 = true then (if t332 ≤ t334 then (if t332 = t334 then (if t336 = t332 then (if t338 = t332 then (some true) else (some (t338 == t334))) else (if t336 = t334 then (if t338 = t332 then (some true) else (some (t338 == t334))) else (some false))) else (if (wrap64 (t334 - t332)) = 1 then (if t336 = t332 then (if t338 = t332 then (some true) else (some (t338 == t334))) else (if t336 = t334 then (if t338 = t332 then (some true) else (some (t338 == t334))) else (some false))) else (some false))) else (some false)) else (some false)) = some r := by rw [if_pos (show (none : Option Int).isNone = true by rfl)] at H; exact H
                clear H
                have H := H1
                clear H1
                try simp only [errW_none, errW_some]
                by_cases c13 : t331 = true
                · subst c13
                  have H1 : (if t332 ≤ t334 then (if t332 = t334 then (if t336 = t332 then (if t338 = t332 then (some true) else (some (t338 == t334))) else (if t336 = t334 then (if t338 = t332 then (some true) else (some (t338 == t334))) else (some false))) else (if (wrap64 (t334 - t332)) = 1 then (if t336 = t332 then (if t338 = t332 then (some true) else (some (t338 == t334))) else (if t336 = t334 then (if t338 = t332 then (some true) else (some (t338 == t334))) else (some false))) else (some false))) else (some false)) = some r := by rw [if_pos rfl] at H; exact H
                  clear H
                  have H := H1
                  clear H1
                  by_cases c14 : t332 ≤ t334
                  · rw [if_pos c14] at H
                    have c14b0 : decide (t332 ≤ t334) = true := decide_eq_true c14
                    clear c14
                    by_cases c15 : t332 = t334
                    · rw [if_pos c15] at H
                      have c15b0 : (t332 == t334) = true := beq_iff_eq.mpr c15
                      have c15b1 : (t332 != t334) = false := bne_eq_false_iff_eq.mpr c15
                      clear c15
                      by_cases c16 : t336 = t332
                      · rw [if_pos c16] at H
                        have c16b0 : (t336 == t332) = true := beq_iff_eq.mpr c16
                        have c16b1 : (t336 != t332) = false := bne_eq_false_iff_eq.mpr c16
                        clear c16
                        by_cases c17 : t338 = t332
                        · rw [if_pos c17] at H
                          have c17b0 : (t338 == t332) = true := beq_iff_eq.mpr c17
                          have c17b1 : (t338 != t332) = false := bne_eq_false_iff_eq.mpr c17
                          clear c17
                          obtain rfl := Option.some.inj H
                          go_wp2
                          repeat (go_quiet (fail); try go_wp2)
                          go_ret
                          exact ⟨by first | rfl | (simp; done) | (simp [*]; done), by repeat (first | exact Drawn0.refl _ | apply Drawn0.step)⟩
                        · rw [if_neg c17] at H
                          have c17b0 : (t338 == t332) = false := beq_eq_false_iff_ne.mpr c17
                          have c17b1 : (t338 != t332) = true := bne_iff_ne.mpr c17
                          obtain rfl := Option.some.inj H
                          go_wp2
                          repeat (go_quiet (fail); try go_wp2)
                          go_ret
                          exact ⟨by first | rfl | (simp; done) | (simp [*]; done), by repeat (first | exact Drawn0.refl _ | apply Drawn0.step)⟩
                      · rw [if_neg c16] at H
                        have c16b0 : (t336 == t332) = false := beq_eq_false_iff_ne.mpr c16
                        have c16b1 : (t336 != t332) = true := bne_iff_ne.mpr c16
                        by_cases c18 : t336 = t334
                        · rw [if_pos c18] at H
                          have c18b0 : (t336 == t334) = true := beq_iff_eq.mpr c18
                          have c18b1 : (t336 != t334) = false := bne_eq_false_iff_eq.mpr c18
                          clear c18
                          by_cases c19 : t338 = t332
                          · rw [if_pos c19] at H
                            have c19b0 : (t338 == t332) = true := beq_iff_eq.mpr c19
                            have c19b1 : (t338 != t332) = false := bne_eq_false_iff_eq.mpr c19
                            clear c19
                            obtain rfl := Option.some.inj H
                            go_wp2
                            repeat (go_quiet (fail); try go_wp2)
                            go_ret
                            exact ⟨by first | rfl | (simp; done) | (simp [*]; done), by repeat (first | exact Drawn0.refl _ | apply Drawn0.step)⟩
                          · rw [if_neg c19] at H
                            have c19b0 : (t338 == t332) = false := beq_eq_false_iff_ne.mpr c19
                            have c19b1 : (t338 != t332) = true := bne_iff_ne.mpr c19
                            obtain rfl := Option.some.inj H
                            go_wp2
                            repeat (go_quiet (fail); try go_wp2)
                            go_ret
                            exact ⟨by first | rfl | (simp; done) | (simp [*]; done), by repeat (first | exact Drawn0.refl _ | apply Drawn0.step)⟩
                        · rw [if_neg c18] at H
                          have c18b0 : (t336 == t334) = false := beq_eq_false_iff_ne.mpr c18
                          have c18b1 : (t336 != t334) = true := bne_iff_ne.mpr c18
                          obtain rfl := Option.some.inj H
                          go_wp2
                          repeat (go_quiet (fail); try go_wp2)
                          go_ret
                          exact ⟨by first | rfl | (simp; done) | (simp [*]; done), by repeat (first | exact Drawn0.refl _ | apply Drawn0.step)⟩
                    · rw [if_neg c15] at H
                      have c15b0 : (t332 == t334) = false := beq_eq_false_iff_ne.mpr c15
                      have c15b1 : (t332 != t334) = true := bne_iff_ne.mpr c15
                      by_cases c20 : (wrap64 (t334 - t332)) = 1
                      · rw [if_pos c20] at H
                        have c20b0 : ((wrap64 (t334 - t332)) == 1) = true := beq_iff_eq.mpr c20
                        have c20b1 : ((wrap64 (t334 - t332)) != 1) = false := bne_eq_false_iff_eq.mpr c20
                        clear c20
                        by_cases c21 : t336 = t332
                        · rw [if_pos c21] at H
                          have c21b0 : (t336 == t332) = true := beq_iff_eq.mpr c21
                          have c21b1 : (t336 != t332) = false := bne_eq_false_iff_eq.mpr c21
                          clear c21
                          by_cases c22 : t338 = t332
                          · rw [if_pos c22] at H
                            have c22b0 : (t338 == t332) = true := beq_iff_eq.mpr c22
                            have c22b1 : (t338 != t332) = false := bne_eq_false_iff_eq.mpr c22
                            clear c22
                            obtain rfl := Option.some.inj H
                            go_wp2
                            repeat (go_quiet (fail); try go_wp2)
                            go_ret
                            exact ⟨by first | rfl | (simp; done) | (simp [*]; done), by repeat (first | exact Drawn0.refl _ | apply Drawn0.step)⟩
                          · rw [if_neg c22] at H
                            have c22b0 : (t338 == t332) = false := beq_eq_false_iff_ne.mpr c22
                            have c22b1 : (t338 != t332) = true := bne_iff_ne.mpr c22
                            obtain rfl := Option.some.inj H
                            go_wp2
                            repeat (go_quiet (fail); try go_wp2)
                            go_ret
                            exact ⟨by first | rfl | (simp; done) | (simp [*]; done), by repeat (first | exact Drawn0.refl _ | apply Drawn0.step)⟩
                        · rw [if_neg c21] at H
                          have c21b0 : (t336 == t332) = false := beq_eq_false_iff_ne.mpr c21
                          have c21b1 : (t336 != t332) = true := bne_iff_ne.mpr c21
                          by_cases c23 : t336 = t334
                          · rw [if_pos c23] at H
                            have c23b0 : (t336 == t334) = true := beq_iff_eq.mpr c23
                            have c23b1 : (t336 != t334) = false := bne_eq_false_iff_eq.mpr c23
                            clear c23
                            by_cases c24 : t338 = t332
                            · rw [if_pos c24] at H
                              have c24b0 : (t338 == t332) = true := beq_iff_eq.mpr c24
                              have c24b1 : (t338 != t332) = false := bne_eq_false_iff_eq.mpr c24
                              clear c24
                              obtain rfl := Option.some.inj H
                              go_wp2
                              repeat (go_quiet (fail); try go_wp2)
                              go_ret
                              exact ⟨by first | rfl | (simp; done) | (simp [*]; done), by repeat (first | exact Drawn0.refl _ | apply Drawn0.step)⟩
                            · rw [if_neg c24] at H
                              have c24b0 : (t338 == t332) = false := beq_eq_false_iff_ne.mpr c24
                              have c24b1 : (t338 != t332) = true := bne_iff_ne.mpr c24
                              obtain rfl := Option.some.inj H
                              go_wp2
                              repeat (go_quiet (fail); try go_wp2)
                              go_ret
                              exact ⟨by first | rfl | (simp; done) | (simp [*]; done), by repeat (first | exact Drawn0.refl _ | apply Drawn0.step)⟩
                          · rw [if_neg c23] at H
                            have c23b0 : (t336 == t334) = false := beq_eq_false_iff_ne.mpr c23
                            have c23b1 : (t336 != t334) = true := bne_iff_ne.mpr c23
                            obtain rfl := Option.some.inj H
                            go_wp2
                            repeat (go_quiet (fail); try go_wp2)
                            go_ret
                            exact ⟨by first | rfl | (simp; done) | (simp [*]; done), by repeat (first | exact Drawn0.refl _ | apply Drawn0.step)⟩
                      · rw [if_neg c20] at H
                        have c20b0 : ((wrap64 (t334 - t332)) == 1) = false := beq_eq_false_iff_ne.mpr c20
                        have c20b1 : ((wrap64 (t334 - t332)) != 1) = true := bne_iff_ne.mpr c20
                        obtain rfl := Option.some.inj H
                        go_wp2
                        repeat (go_quiet (fail); try go_wp2)
                        go_ret
                        exact ⟨by first | rfl | (simp; done) | (simp [*]; done), by repeat (first | exact Drawn0.refl _ | apply Drawn0.step)⟩
                  · rw [if_neg c14] at H
                    have c14b0 : decide (t332 ≤ t334) = false := decide_eq_false c14
                    clear c14
                    obtain rfl := Option.some.inj H
                    go_wp2
                    repeat (go_quiet (fail); try go_wp2)
                    go_ret
                    exact ⟨by first | rfl | (simp; done) | (simp [*]; done), by repeat (first | exact Drawn0.refl _ | apply Drawn0.step)⟩
                · replace c13 := Bool.eq_false_iff.mpr c13
                  subst c13
                  have H1 : (some false) = some r := by rw [if_neg (show ¬ (false = true) by decide)] at H; exact H
                  clear H
                  have H := H1
                  clear H1
                  obtain rfl := Option.some.inj H
                  go_wp2
                  repeat (go_quiet (fail); try go_wp2)
                  go_ret
                  exact ⟨by first | rfl | (simp; done) | (simp [*]; done), by repeat (first | exact Drawn0.refl _ | apply Drawn0.step)⟩
              · have H1 : (if t331 = true then (some false) else (some false)) = some r := by rw [if_neg (show ¬ (some q350).isNone = true by simp)] at H; exact H
                clear H
                have H := H1
                clear H1
                try simp only [errW_none, errW_some]
                by_cases c25 : t331 = true
                · subst c25
                  have H1 : (some false) = some r := by rw [if_pos rfl] at H; exact H
                  clear H
                  have H := H1
                  clear H1
                  obtain rfl := Option.some.inj H
                  go_wp2
                  repeat (go_quiet (fail); try go_wp2)
                  go_ret
                  exact ⟨by first | rfl | (simp; done) | (simp [*]; done), by repeat (first | exact Drawn0.refl _ | apply Drawn0.step)⟩
                · replace c25 := Bool.eq_false_iff.mpr c25
                  subst c25
                  have H1 : (some false) = some r := by rw [if_neg (show ¬ (false = true) by decide)] at H; exact H
                  clear H
                  have H := H1
                  clear H1
                  obtain rfl := Option.some.inj H
                  go_wp2
                  repeat (go_quiet (fail); try go_wp2)
                  go_ret
                  exact ⟨by first | rfl | (simp; done) | (simp [*]; done), by repeat (first | exact Drawn0.refl _ | apply Drawn0.step)⟩
            · have H1 : (if t331 = true then (some false) else (some false)) = some r := by rw [if_neg (show ¬ (some q349).isNone = true by simp)] at H; exact H
              clear H
              have H := H1
              clear H1
              try simp only [errW_none, errW_some]
              by_cases c26 : t331 = true
              · subst c26
                have H1 : (some false) = some r := by rw [if_pos rfl] at H; exact H
                clear H
                have H := H1
                clear H1
                obtain rfl := Option.some.inj H
                go_wp2
                repeat (go_quiet (fail); try go_wp2)
                go_ret
                exact ⟨by first | rfl | (simp; done) | (simp [*]; done), by repeat (first | exact Drawn0.refl _ | apply Drawn0.step)⟩
              · replace c26 := Bool.eq_false_iff.mpr c26
                subst c26
                have H1 : (some false) = some r := by rw [if_neg (show ¬ (false = true) by decide)] at H; exact H
                clear H
                have H := H1
                clear H1
                obtain rfl := Option.some.inj H
                go_wp2
                repeat (go_quiet (fail); try go_wp2)
                go_ret
                exact ⟨by first | rfl | (simp; done) | (simp [*]; done), by repeat (first | exact Drawn0.refl _ | apply Drawn0.step)⟩
          · have H1 : (if t331 = true then (some true) else (some false)) = some r := by rw [if_neg (show ¬ (some q348).isNone = true by simp)] at H; exact H
            clear H
            have H := H1
            clear H1
            try simp only [errW_none, errW_some]
            by_cases c27 : t331 = true
            · subst c27
              have H1 : (some true) = some r := by rw [if_pos rfl] at H; exact H
              clear H
              have H := H1
              clear H1
              obtain rfl := Option.some.inj H
              go_wp2
              repeat (go_quiet (fail); try go_wp2)
              go_ret
              exact ⟨by first | rfl | (simp; done) | (simp [*]; done), by repeat (first | exact Drawn0.refl _ | apply Drawn0.step)⟩
            · replace c27 := Bool.eq_false_iff.mpr c27
              subst c27
              have H1 : (some false) = some r := by rw [if_neg (show ¬ (false = true) by decide)] at H; exact H
              clear H
              have H := H1
              clear H1
              obtain rfl := Option.some.inj H
              go_wp2
              repeat (go_quiet (fail); try go_wp2)
              go_ret
              exact ⟨by first | rfl | (simp; done) | (simp [*]; done), by repeat (first | exact Drawn0.refl _ | apply Drawn0.step)⟩
        · have H1 : (if t331 = true then (some true) else (some false)) = some r := by rw [if_neg (show ¬ (some q347).isNone = true by simp)] at H; exact H
          clear H
          have H := H1
          clear H1
          try simp only [errW_none, errW_some]
          by_cases c28 : t331 = true
          · subst c28
            have H1 : (some true) = some r := by rw [if_pos rfl] at H; exact H
            clear H
            have H := H1
            clear H1
            obtain rfl := Option.some.inj H
            go_wp2
            repeat (go_quiet (fail); try go_wp2)
            go_ret
            exact ⟨by first | rfl | (simp; done) | (simp [*]; done), by repeat (first | exact Drawn0.refl _ | apply Drawn0.step)⟩
          · replace c28 := Bool.eq_false_iff.mpr c28
            subst c28
            have H1 : (some false) = some r := by rw [if_neg (show ¬ (false = true) by decide)] at H; exact H
            clear H
            have H := H1
            clear H1
            obtain rfl := Option.some.inj H
            go_wp2
            repeat (go_quiet (fail); try go_wp2)
            go_ret
            exact ⟨by first | rfl | (simp; done) | (simp [*]; done), by repeat (first | exact Drawn0.refl _ | apply Drawn0.step)⟩

/-- THE ONE PURE STATEMENT of trivetlaw01_CentsNear: yours. -/
def trivetlaw01_CentsNear.Pure : Prop := ∀ (a0 : Int) (a1 : Int) (a2 : Int), (Lit.int .i64 a0).wf = true → (Lit.int .i64 a1).wf = true → (Lit.int .i64 a2).wf = true → ∃ k, trivetlaw01_CentsNear.f k a0 a1 a2 = some true
theorem trivetlaw01_CentsNear.walk (P : trivetlaw01_CentsNear.Pure) (a0 : Int) (a1 : Int) (a2 : Int) (w : World) (w0 : (Lit.int .i64 a0).wf = true) (w1 : (Lit.int .i64 a1).wf = true) (w2 : (Lit.int .i64 a2).wf = true) :
    Calls Try.prog 6 #[.int .i64 a0, .int .i64 a1, .int .i64 a2] w fun e w' => e = .returned (.bool true) ∧ Below w.heap.size w w' := by
  obtain ⟨k, h⟩ := P a0 a1 a2 w0 w1 w2
  refine (trivetlaw01_CentsNear.calls k a0 a1 a2 true w h).mono ?_
  rintro e w' ⟨rfl, hd⟩
  exact ⟨rfl, hd.below⟩

/-! ### cents_Add: function 16 -/
def cents_Add.f (a0 : Int) (a1 : Int) : Option (Int × Option Int) := if ((decide ((wrap64 (a0 + a1)) > a0)) == (decide (a1 > 0))) = true then (some (wrap64 (a0 + a1), none)) else (if a1 = 0 then (some (wrap64 (a0 + a1), none)) else (some (0, some 3)))
set_option maxHeartbeats 8000000 in
set_option maxRecDepth 100000 in
theorem cents_Add.calls (a0 : Int) (a1 : Int) (r1 : Int) (r2 : Option Int) (w : World) (h : cents_Add.f a0 a1 = some (r1, r2)) :
    Calls Try.prog 16 #[.int .i64 a0, .int .i64 a1] w fun e w' => e = .returned (.tuple #[.int .i64 r1, errW r2]) ∧ Drawn0 w w' := by
  have hu24 := Try.underlying24
  have hu27 := Try.underlying27
  have H : (if ((decide ((wrap64 (a0 + a1)) > a0)) == (decide (a1 > 0))) = true then (some (wrap64 (a0 + a1), none)) else (if a1 = 0 then (some (wrap64 (a0 + a1), none)) else (some (0, some 3)))) = some (r1, r2) := h
  clear h
  by_cases c3 : ((decide ((wrap64 (a0 + a1)) > a0)) == (decide (a1 > 0))) = true
  · rw [if_pos c3] at H
    have c3b0 : ((decide ((wrap64 (a0 + a1)) > a0)) == (decide (a1 > 0))) = true := c3
    (try (have c3b1 : decide ((decide ((wrap64 (a0 + a1)) > a0)) = (decide (a1 > 0))) = true := by simpa using c3))
    (try (have c3b2 : ((decide ((wrap64 (a0 + a1)) > a0)) == (decide (a1 > 0))) = true := by simpa using c3))
    clear c3
    simp only [Option.some.injEq, Prod.mk.injEq] at H
    obtain ⟨rfl, rfl⟩ := H
    go_enter Try.func16, Try.ntmps16
    go_wp2
    go_ret2
    exact ⟨by first | rfl | (simp; done) | (simp [*]; done), by repeat (first | exact Drawn0.refl _ | apply Drawn0.step)⟩
  · rw [if_neg c3] at H
    have c3b0 : ((decide ((wrap64 (a0 + a1)) > a0)) == (decide (a1 > 0))) = false := by simpa using c3
    (try (have c3b1 : decide ((decide ((wrap64 (a0 + a1)) > a0)) = (decide (a1 > 0))) = false := by simpa using c3))
    (try (have c3b2 : ((decide ((wrap64 (a0 + a1)) > a0)) == (decide (a1 > 0))) = false := by simpa using c3))
    (try (have c3b3 : ¬ ((decide ((wrap64 (a0 + a1)) > a0)) = (decide (a1 > 0))) := by simpa using c3))
    clear c3
    by_cases c4 : a1 = 0
    · rw [if_pos c4] at H
      have c4b0 : (a1 == 0) = true := beq_iff_eq.mpr c4
      have c4b1 : (a1 != 0) = false := bne_eq_false_iff_eq.mpr c4
      clear c4
      simp only [Option.some.injEq, Prod.mk.injEq] at H
      obtain ⟨rfl, rfl⟩ := H
      go_enter Try.func16, Try.ntmps16
      go_wp2
      go_ret2
      exact ⟨by first | rfl | (simp; done) | (simp [*]; done), by repeat (first | exact Drawn0.refl _ | apply Drawn0.step)⟩
    · rw [if_neg c4] at H
      have c4b0 : (a1 == 0) = false := beq_eq_false_iff_ne.mpr c4
      have c4b1 : (a1 != 0) = true := bne_iff_ne.mpr c4
      simp only [Option.some.injEq, Prod.mk.injEq] at H
      obtain ⟨rfl, rfl⟩ := H
      go_enter Try.func16, Try.ntmps16
      go_wp2
      go_ret2
      exact ⟨by first | rfl | (simp; done) | (simp [*]; done), by repeat (first | exact Drawn0.refl _ | apply Drawn0.step)⟩

/-! ### cents_Add_s: function 16, told plainly -/
theorem cents_Add.tells (a b : Int) (ha : M.In a) (hb : M.In b) : cents_Add.f a b = some (M.told (a + b)) := by
  unfold cents_Add.f
  have hw : wrap64 (a + b) = a + b ∨ ¬ M.In (a + b) := by
    by_cases h : M.In (a + b)
    · exact .inl (M.w64_id h.1 h.2)
    · exact .inr h
  rcases hw with hw | hw
  · rw [hw, M.told_in (by rw [← hw]; unfold M.In wrap64; omega)]
    by_cases h0 : b = 0
    · subst h0; simp
    · by_cases h1 : b > 0 <;> simp [h0, h1] <;> omega
  · rw [M.told_out hw]
    have h0 : b ≠ 0 := by rintro rfl; exact hw (by simpa using ha)
    unfold M.In at *
    have h2 : (wrap64 (a + b) > a) ↔ ¬ (b > 0) := by unfold wrap64; omega
    by_cases h1 : b > 0
    · have h3 : ¬ (wrap64 (a + b) > a) := fun h => h2.mp h h1
      simp only [decide_eq_true h1, decide_eq_false h3]
      simp [h0]
    · have h3 := h2.mpr h1
      simp only [decide_eq_false h1, decide_eq_true h3]
      simp [h0]
def cents_Add_s.f (a b : Int) : Option (Int × Option Int) := if M.In a ∧ M.In b then some (M.told (a + b)) else none
theorem cents_Add_s.calls (a0 : Int) (a1 : Int) (r1 : Int) (r2 : Option Int) (w : World) (h : cents_Add_s.f a0 a1 = some (r1, r2)) :
    Calls Try.prog 16 #[.int .i64 a0, .int .i64 a1] w fun e w' => e = .returned (.tuple #[.int .i64 r1, errW r2]) ∧ Drawn0 w w' := by
  unfold cents_Add_s.f at h
  split at h
  · rename_i hr
    exact cents_Add.calls a0 a1 r1 r2 w ((cents_Add.tells a0 a1 hr.1 hr.2).trans h)
  · cases h
theorem cents_Add_s.at_ {a b : Int} (ha : M.In a) (hb : M.In b) : cents_Add_s.f a b = some (M.told (a + b)) := by unfold cents_Add_s.f; rw [if_pos ⟨ha, hb⟩]

/-! ### cents_Sub: function 17 -/
def cents_Sub.f (a0 : Int) (a1 : Int) : Option (Int × Option Int) := if ((decide ((wrap64 (a0 - a1)) < a0)) == (decide (a1 > 0))) = true then (some (wrap64 (a0 - a1), none)) else (if a1 = 0 then (some (wrap64 (a0 - a1), none)) else (some (0, some 3)))
set_option maxHeartbeats 8000000 in
set_option maxRecDepth 100000 in
theorem cents_Sub.calls (a0 : Int) (a1 : Int) (r1 : Int) (r2 : Option Int) (w : World) (h : cents_Sub.f a0 a1 = some (r1, r2)) :
    Calls Try.prog 17 #[.int .i64 a0, .int .i64 a1] w fun e w' => e = .returned (.tuple #[.int .i64 r1, errW r2]) ∧ Drawn0 w w' := by
  have hu24 := Try.underlying24
  have hu27 := Try.underlying27
  have H : (if ((decide ((wrap64 (a0 - a1)) < a0)) == (decide (a1 > 0))) = true then (some (wrap64 (a0 - a1), none)) else (if a1 = 0 then (some (wrap64 (a0 - a1), none)) else (some (0, some 3)))) = some (r1, r2) := h
  clear h
  by_cases c3 : ((decide ((wrap64 (a0 - a1)) < a0)) == (decide (a1 > 0))) = true
  · rw [if_pos c3] at H
    have c3b0 : ((decide ((wrap64 (a0 - a1)) < a0)) == (decide (a1 > 0))) = true := c3
    (try (have c3b1 : decide ((decide ((wrap64 (a0 - a1)) < a0)) = (decide (a1 > 0))) = true := by simpa using c3))
    (try (have c3b2 : ((decide ((wrap64 (a0 - a1)) < a0)) == (decide (a1 > 0))) = true := by simpa using c3))
    clear c3
    simp only [Option.some.injEq, Prod.mk.injEq] at H
    obtain ⟨rfl, rfl⟩ := H
    go_enter Try.func17, Try.ntmps17
    go_wp2
    go_ret2
    exact ⟨by first | rfl | (simp; done) | (simp [*]; done), by repeat (first | exact Drawn0.refl _ | apply Drawn0.step)⟩
  · rw [if_neg c3] at H
    have c3b0 : ((decide ((wrap64 (a0 - a1)) < a0)) == (decide (a1 > 0))) = false := by simpa using c3
    (try (have c3b1 : decide ((decide ((wrap64 (a0 - a1)) < a0)) = (decide (a1 > 0))) = false := by simpa using c3))
    (try (have c3b2 : ((decide ((wrap64 (a0 - a1)) < a0)) == (decide (a1 > 0))) = false := by simpa using c3))
    (try (have c3b3 : ¬ ((decide ((wrap64 (a0 - a1)) < a0)) = (decide (a1 > 0))) := by simpa using c3))
    clear c3
    by_cases c4 : a1 = 0
    · rw [if_pos c4] at H
      have c4b0 : (a1 == 0) = true := beq_iff_eq.mpr c4
      have c4b1 : (a1 != 0) = false := bne_eq_false_iff_eq.mpr c4
      clear c4
      simp only [Option.some.injEq, Prod.mk.injEq] at H
      obtain ⟨rfl, rfl⟩ := H
      go_enter Try.func17, Try.ntmps17
      go_wp2
      go_ret2
      exact ⟨by first | rfl | (simp; done) | (simp [*]; done), by repeat (first | exact Drawn0.refl _ | apply Drawn0.step)⟩
    · rw [if_neg c4] at H
      have c4b0 : (a1 == 0) = false := beq_eq_false_iff_ne.mpr c4
      have c4b1 : (a1 != 0) = true := bne_iff_ne.mpr c4
      simp only [Option.some.injEq, Prod.mk.injEq] at H
      obtain ⟨rfl, rfl⟩ := H
      go_enter Try.func17, Try.ntmps17
      go_wp2
      go_ret2
      exact ⟨by first | rfl | (simp; done) | (simp [*]; done), by repeat (first | exact Drawn0.refl _ | apply Drawn0.step)⟩

/-! ### cents_Sub_s: function 17, told plainly -/
theorem cents_Sub.tells (a b : Int) (ha : M.In a) (hb : M.In b) : cents_Sub.f a b = some (M.told (a - b)) := by
  unfold cents_Sub.f
  have hw : wrap64 (a - b) = a - b ∨ ¬ M.In (a - b) := by
    by_cases h : M.In (a - b)
    · exact .inl (M.w64_id h.1 h.2)
    · exact .inr h
  rcases hw with hw | hw
  · rw [hw, M.told_in (by rw [← hw]; unfold M.In wrap64; omega)]
    by_cases h0 : b = 0
    · subst h0; simp
    · by_cases h1 : b > 0 <;> simp [h0, h1] <;> omega
  · rw [M.told_out hw]
    have h0 : b ≠ 0 := by rintro rfl; exact hw (by simpa using ha)
    unfold M.In at *
    have h2 : (wrap64 (a - b) < a) ↔ ¬ (b > 0) := by unfold wrap64; omega
    by_cases h1 : b > 0
    · have h3 : ¬ (wrap64 (a - b) < a) := fun h => h2.mp h h1
      simp only [decide_eq_true h1, decide_eq_false h3]
      simp [h0]
    · have h3 := h2.mpr h1
      simp only [decide_eq_false h1, decide_eq_true h3]
      simp [h0]
def cents_Sub_s.f (a b : Int) : Option (Int × Option Int) := if M.In a ∧ M.In b then some (M.told (a - b)) else none
theorem cents_Sub_s.calls (a0 : Int) (a1 : Int) (r1 : Int) (r2 : Option Int) (w : World) (h : cents_Sub_s.f a0 a1 = some (r1, r2)) :
    Calls Try.prog 17 #[.int .i64 a0, .int .i64 a1] w fun e w' => e = .returned (.tuple #[.int .i64 r1, errW r2]) ∧ Drawn0 w w' := by
  unfold cents_Sub_s.f at h
  split at h
  · rename_i hr
    exact cents_Sub.calls a0 a1 r1 r2 w ((cents_Sub.tells a0 a1 hr.1 hr.2).trans h)
  · cases h
theorem cents_Sub_s.at_ {a b : Int} (ha : M.In a) (hb : M.In b) : cents_Sub_s.f a b = some (M.told (a - b)) := by unfold cents_Sub_s.f; rw [if_pos ⟨ha, hb⟩]

/-! ### trivetlaw01_CentsBack: function 7 -/
def trivetlaw01_CentsBack.f (a0 : Int) (a1 : Int) : Option (Bool) := (trivetlaw01_up_s.f).bind fun t351 => ((cents_Add_s.f a0 a1).bind fun bt352 => (if bt352.2.isNone = true then ((cents_Sub_s.f bt352.1 a1).bind fun bt355 => (if bt355.2.isNone = true then (if bt355.1 = a0 then ((cents_Sub_s.f a0 a1).bind fun bt358 => (if bt358.2.isNone = true then ((cents_Add_s.f bt358.1 a1).bind fun bt361 => (if t351 = true then (if bt361.2.isNone = true then (some (bt361.1 == a0)) else (some false)) else (some false))) else (some t351))) else (some false)) else (some false))) else ((cents_Sub_s.f a0 a1).bind fun bt364 => (if bt364.2.isNone = true then ((cents_Add_s.f bt364.1 a1).bind fun bt367 => (if t351 = true then (if bt367.2.isNone = true then (some (bt367.1 == a0)) else (some false)) else (some false))) else (some t351)))))
set_option maxHeartbeats 8000000 in
set_option maxRecDepth 100000 in
theorem trivetlaw01_CentsBack.calls (a0 : Int) (a1 : Int) (r : Bool) (w : World) (h : trivetlaw01_CentsBack.f a0 a1 = some r) :
    Calls Try.prog 7 #[.int .i64 a0, .int .i64 a1] w fun e w' => e = .returned (.bool r) ∧ Drawn0 w w' := by
  have hu24 := Try.underlying24
  have hu27 := Try.underlying27
  have H : ((trivetlaw01_up_s.f).bind fun t351 => ((cents_Add_s.f a0 a1).bind fun bt352 => (if bt352.2.isNone = true then ((cents_Sub_s.f bt352.1 a1).bind fun bt355 => (if bt355.2.isNone = true then (if bt355.1 = a0 then ((cents_Sub_s.f a0 a1).bind fun bt358 => (if bt358.2.isNone = true then ((cents_Add_s.f bt358.1 a1).bind fun bt361 => (if t351 = true then (if bt361.2.isNone = true then (some (bt361.1 == a0)) else (some false)) else (some false))) else (some t351))) else (some false)) else (some false))) else ((cents_Sub_s.f a0 a1).bind fun bt364 => (if bt364.2.isNone = true then ((cents_Add_s.f bt364.1 a1).bind fun bt367 => (if t351 = true then (if bt367.2.isNone = true then (some (bt367.1 == a0)) else (some false)) else (some false))) else (some t351)))))) = some r := h
  clear h
  replace H := Option.bind_eq_some_iff.mp H
  obtain ⟨t351, A30, H⟩ := H
  replace H : ((cents_Add_s.f a0 a1).bind fun bt352 => (if bt352.2.isNone = true then ((cents_Sub_s.f bt352.1 a1).bind fun bt355 => (if bt355.2.isNone = true then (if bt355.1 = a0 then ((cents_Sub_s.f a0 a1).bind fun bt358 => (if bt358.2.isNone = true then ((cents_Add_s.f bt358.1 a1).bind fun bt361 => (if t351 = true then (if bt361.2.isNone = true then (some (bt361.1 == a0)) else (some false)) else (some false))) else (some t351))) else (some false)) else (some false))) else ((cents_Sub_s.f a0 a1).bind fun bt364 => (if bt364.2.isNone = true then ((cents_Add_s.f bt364.1 a1).bind fun bt367 => (if t351 = true then (if bt367.2.isNone = true then (some (bt367.1 == a0)) else (some false)) else (some false))) else (some t351))))) = some r := H
  have A3 := Aside0.mk A30
  clear A30
  replace H := Option.bind_eq_some_iff.mp H
  obtain ⟨⟨t352, t353⟩, A40, H⟩ := H
  replace H : (if t353.isNone = true then ((cents_Sub_s.f t352 a1).bind fun bt355 => (if bt355.2.isNone = true then (if bt355.1 = a0 then ((cents_Sub_s.f a0 a1).bind fun bt358 => (if bt358.2.isNone = true then ((cents_Add_s.f bt358.1 a1).bind fun bt361 => (if t351 = true then (if bt361.2.isNone = true then (some (bt361.1 == a0)) else (some false)) else (some false))) else (some t351))) else (some false)) else (some false))) else ((cents_Sub_s.f a0 a1).bind fun bt364 => (if bt364.2.isNone = true then ((cents_Add_s.f bt364.1 a1).bind fun bt367 => (if t351 = true then (if bt367.2.isNone = true then (some (bt367.1 == a0)) else (some false)) else (some false))) else (some t351)))) = some r := H
  have A4 := Aside0.mk A40
  clear A40
  rcases t353 with _ | q354
  · have H1 : ((cents_Sub_s.f t352 a1).bind fun bt355 => (if bt355.2.isNone = true then (if bt355.1 = a0 then ((cents_Sub_s.f a0 a1).bind fun bt358 => (if bt358.2.isNone = true then ((cents_Add_s.f bt358.1 a1).bind fun bt361 => (if t351 = true then (if bt361.2.isNone = true then (some (bt361.1 == a0)) else (some false)) else (some false))) else (some t351))) else (some false)) else (some false))) = some r := by rw [if_pos (show (none : Option Int).isNone = true by rfl)] at H; exact H
    clear H
    have H := H1
    clear H1
    try simp only [errW_none, errW_some]
    replace H := Option.bind_eq_some_iff.mp H
    obtain ⟨⟨t355, t356⟩, A50, H⟩ := H
    replace H : (if t356.isNone = true then (if t355 = a0 then ((cents_Sub_s.f a0 a1).bind fun bt358 => (if bt358.2.isNone = true then ((cents_Add_s.f bt358.1 a1).bind fun bt361 => (if t351 = true then (if bt361.2.isNone = true then (some (bt361.1 == a0)) else (some false)) else (some false))) else (some t351))) else (some false)) else (some false)) = some r := H
    have A5 := Aside0.mk A50
    clear A50
    rcases t356 with _ | q357
    · have H1 : (if t355 = a0 then ((cents_Sub_s.f a0 a1).bind fun bt358 => (if bt358.2.isNone = true then ((cents_Add_s.f bt358.1 a1).bind fun bt361 => (if t351 = true then (if bt361.2.isNone = true then (some (bt361.1 == a0)) else (some false)) else (some false))) else (some t351))) else (some false)) = some r := by rw [if_pos (show (none : Option Int).isNone = true by rfl)] at H; exact H
      clear H
      have H := H1
      clear H1
      try simp only [errW_none, errW_some]
      by_cases c6 : t355 = a0
      · rw [if_pos c6] at H
        have c6b0 : (t355 == a0) = true := beq_iff_eq.mpr c6
        have c6b1 : (t355 != a0) = false := bne_eq_false_iff_eq.mpr c6
        clear c6
        replace H := Option.bind_eq_some_iff.mp H
        obtain ⟨⟨t358, t359⟩, A70, H⟩ := H
        replace H : (if t359.isNone = true then ((cents_Add_s.f t358 a1).bind fun bt361 => (if t351 = true then (if bt361.2.isNone = true then (some (bt361.1 == a0)) else (some false)) else (some false))) else (some t351)) = some r := H
        have A7 := Aside0.mk A70
        clear A70
        rcases t359 with _ | q360
        · have H1 : ((cents_Add_s.f t358 a1).bind fun bt361 => (if t351 = true then (if bt361.2.isNone = true then (some (bt361.1 == a0)) else (some false)) else (some false))) = some r := by rw [if_pos (show (none : Option Int).isNone = true by rfl)] at H; exact H
          clear H
          have H := H1
          clear H1
          try simp only [errW_none, errW_some]
          replace H := Option.bind_eq_some_iff.mp H
          obtain ⟨⟨t361, t362⟩, A80, H⟩ := H
          replace H : (if t351 = true then (if t362.isNone = true then (some (t361 == a0)) else (some false)) else (some false)) = some r := H
          have A8 := Aside0.mk A80
          clear A80
          by_cases c9 : t351 = true
          · subst c9
            have H1 : (if t362.isNone = true then (some (t361 == a0)) else (some false)) = some r := by rw [if_pos rfl] at H; exact H
            clear H
            have H := H1
            clear H1
            rcases t362 with _ | q363
            · have H1 : (some (t361 == a0)) = some r := by rw [if_pos (show (none : Option Int).isNone = true by rfl)] at H; exact H
              clear H
              have H := H1
              clear H1
              try simp only [errW_none, errW_some]
              obtain rfl := Option.some.inj H
              go_enter Try.func7, Try.ntmps7
              go_wp2_with (first | ((with_reducible refine gate_callee (f := 12) rfl ?_); refine goesL_ (some 14) rfl rfl Try.func12 (by kernel_rfl) rfl #[] rfl (by (try simp only [List.map_toArray, List.map_cons, List.map_nil]); first | done | rfl | (simp only [List.length_drop, List.length_take]; rfl)) ?_; (with_reducible refine (trivetlaw01_up_s.calls  true _ A3.out).mono ?_); rintro e w' ⟨rfl, ⟨nd, rfl⟩⟩; refine ⟨_, rfl, ?_⟩) | ((with_reducible refine gate_callee (f := 16) rfl ?_); refine goesL_ (some 18) rfl rfl Try.func16 (by kernel_rfl) rfl #[.int .i64 a0, .int .i64 a1] rfl (by (try simp only [List.map_toArray, List.map_cons, List.map_nil]); first | done | rfl | (simp only [List.length_drop, List.length_take]; rfl)) ?_; (with_reducible refine (cents_Add_s.calls a0 a1 t352 none _ A4.out).mono ?_); rintro e w' ⟨rfl, ⟨nd, rfl⟩⟩; refine ⟨_, rfl, ?_⟩; (try simp only [errW_none, errW_some])) | ((with_reducible refine gate_callee (f := 17) rfl ?_); refine goesL_ (some 26) rfl rfl Try.func17 (by kernel_rfl) rfl #[.int .i64 t352, .int .i64 a1] rfl (by (try simp only [List.map_toArray, List.map_cons, List.map_nil]); first | done | rfl | (simp only [List.length_drop, List.length_take]; rfl)) ?_; (with_reducible refine (cents_Sub_s.calls t352 a1 t355 none _ A5.out).mono ?_); rintro e w' ⟨rfl, ⟨nd, rfl⟩⟩; refine ⟨_, rfl, ?_⟩; (try simp only [errW_none, errW_some])) | ((with_reducible refine gate_callee (f := 17) rfl ?_); refine goesL_ (some 39) rfl rfl Try.func17 (by kernel_rfl) rfl #[.int .i64 a0, .int .i64 a1] rfl (by (try simp only [List.map_toArray, List.map_cons, List.map_nil]); first | done | rfl | (simp only [List.length_drop, List.length_take]; rfl)) ?_; (with_reducible refine (cents_Sub_s.calls a0 a1 t358 none _ A7.out).mono ?_); rintro e w' ⟨rfl, ⟨nd, rfl⟩⟩; refine ⟨_, rfl, ?_⟩; (try simp only [errW_none, errW_some])) | ((with_reducible refine gate_callee (f := 16) rfl ?_); refine goesL_ (some 48) rfl rfl Try.func16 (by kernel_rfl) rfl #[.int .i64 t358, .int .i64 a1] rfl (by (try simp only [List.map_toArray, List.map_cons, List.map_nil]); first | done | rfl | (simp only [List.length_drop, List.length_take]; rfl)) ?_; (with_reducible refine (cents_Add_s.calls t358 a1 t361 none _ A8.out).mono ?_); rintro e w' ⟨rfl, ⟨nd, rfl⟩⟩; refine ⟨_, rfl, ?_⟩; (try simp only [errW_none, errW_some])))
              go_ret
              exact ⟨by first | rfl | (simp; done) | (simp [*]; done), by repeat (first | exact Drawn0.refl _ | apply Drawn0.step)⟩
            · have H1 : (some false) = some r := by rw [if_neg (show ¬ (some q363).isNone = true by simp)] at H; exact H
              clear H
              have H := H1
              clear H1
              try simp only [errW_none, errW_some]
              obtain rfl := Option.some.inj H
              go_enter Try.func7, Try.ntmps7
              go_wp2_with (first | ((with_reducible refine gate_callee (f := 12) rfl ?_); refine goesL_ (some 14) rfl rfl Try.func12 (by kernel_rfl) rfl #[] rfl (by (try simp only [List.map_toArray, List.map_cons, List.map_nil]); first | done | rfl | (simp only [List.length_drop, List.length_take]; rfl)) ?_; (with_reducible refine (trivetlaw01_up_s.calls  true _ A3.out).mono ?_); rintro e w' ⟨rfl, ⟨nd, rfl⟩⟩; refine ⟨_, rfl, ?_⟩) | ((with_reducible refine gate_callee (f := 16) rfl ?_); refine goesL_ (some 18) rfl rfl Try.func16 (by kernel_rfl) rfl #[.int .i64 a0, .int .i64 a1] rfl (by (try simp only [List.map_toArray, List.map_cons, List.map_nil]); first | done | rfl | (simp only [List.length_drop, List.length_take]; rfl)) ?_; (with_reducible refine (cents_Add_s.calls a0 a1 t352 none _ A4.out).mono ?_); rintro e w' ⟨rfl, ⟨nd, rfl⟩⟩; refine ⟨_, rfl, ?_⟩; (try simp only [errW_none, errW_some])) | ((with_reducible refine gate_callee (f := 17) rfl ?_); refine goesL_ (some 26) rfl rfl Try.func17 (by kernel_rfl) rfl #[.int .i64 t352, .int .i64 a1] rfl (by (try simp only [List.map_toArray, List.map_cons, List.map_nil]); first | done | rfl | (simp only [List.length_drop, List.length_take]; rfl)) ?_; (with_reducible refine (cents_Sub_s.calls t352 a1 t355 none _ A5.out).mono ?_); rintro e w' ⟨rfl, ⟨nd, rfl⟩⟩; refine ⟨_, rfl, ?_⟩; (try simp only [errW_none, errW_some])) | ((with_reducible refine gate_callee (f := 17) rfl ?_); refine goesL_ (some 39) rfl rfl Try.func17 (by kernel_rfl) rfl #[.int .i64 a0, .int .i64 a1] rfl (by (try simp only [List.map_toArray, List.map_cons, List.map_nil]); first | done | rfl | (simp only [List.length_drop, List.length_take]; rfl)) ?_; (with_reducible refine (cents_Sub_s.calls a0 a1 t358 none _ A7.out).mono ?_); rintro e w' ⟨rfl, ⟨nd, rfl⟩⟩; refine ⟨_, rfl, ?_⟩; (try simp only [errW_none, errW_some])) | ((with_reducible refine gate_callee (f := 16) rfl ?_); refine goesL_ (some 48) rfl rfl Try.func16 (by kernel_rfl) rfl #[.int .i64 t358, .int .i64 a1] rfl (by (try simp only [List.map_toArray, List.map_cons, List.map_nil]); first | done | rfl | (simp only [List.length_drop, List.length_take]; rfl)) ?_; (with_reducible refine (cents_Add_s.calls t358 a1 t361 (some q363) _ A8.out).mono ?_); rintro e w' ⟨rfl, ⟨nd, rfl⟩⟩; refine ⟨_, rfl, ?_⟩; (try simp only [errW_none, errW_some])))
              go_ret
              exact ⟨by first | rfl | (simp; done) | (simp [*]; done), by repeat (first | exact Drawn0.refl _ | apply Drawn0.step)⟩
          · replace c9 := Bool.eq_false_iff.mpr c9
            subst c9
            have H1 : (some false) = some r := by rw [if_neg (show ¬ (false = true) by decide)] at H; exact H
            clear H
            have H := H1
            clear H1
            obtain rfl := Option.some.inj H
            go_enter Try.func7, Try.ntmps7
            go_wp2_with (first | ((with_reducible refine gate_callee (f := 12) rfl ?_); refine goesL_ (some 14) rfl rfl Try.func12 (by kernel_rfl) rfl #[] rfl (by (try simp only [List.map_toArray, List.map_cons, List.map_nil]); first | done | rfl | (simp only [List.length_drop, List.length_take]; rfl)) ?_; (with_reducible refine (trivetlaw01_up_s.calls  false _ A3.out).mono ?_); rintro e w' ⟨rfl, ⟨nd, rfl⟩⟩; refine ⟨_, rfl, ?_⟩) | ((with_reducible refine gate_callee (f := 16) rfl ?_); refine goesL_ (some 18) rfl rfl Try.func16 (by kernel_rfl) rfl #[.int .i64 a0, .int .i64 a1] rfl (by (try simp only [List.map_toArray, List.map_cons, List.map_nil]); first | done | rfl | (simp only [List.length_drop, List.length_take]; rfl)) ?_; (with_reducible refine (cents_Add_s.calls a0 a1 t352 none _ A4.out).mono ?_); rintro e w' ⟨rfl, ⟨nd, rfl⟩⟩; refine ⟨_, rfl, ?_⟩; (try simp only [errW_none, errW_some])) | ((with_reducible refine gate_callee (f := 17) rfl ?_); refine goesL_ (some 26) rfl rfl Try.func17 (by kernel_rfl) rfl #[.int .i64 t352, .int .i64 a1] rfl (by (try simp only [List.map_toArray, List.map_cons, List.map_nil]); first | done | rfl | (simp only [List.length_drop, List.length_take]; rfl)) ?_; (with_reducible refine (cents_Sub_s.calls t352 a1 t355 none _ A5.out).mono ?_); rintro e w' ⟨rfl, ⟨nd, rfl⟩⟩; refine ⟨_, rfl, ?_⟩; (try simp only [errW_none, errW_some])) | ((with_reducible refine gate_callee (f := 17) rfl ?_); refine goesL_ (some 39) rfl rfl Try.func17 (by kernel_rfl) rfl #[.int .i64 a0, .int .i64 a1] rfl (by (try simp only [List.map_toArray, List.map_cons, List.map_nil]); first | done | rfl | (simp only [List.length_drop, List.length_take]; rfl)) ?_; (with_reducible refine (cents_Sub_s.calls a0 a1 t358 none _ A7.out).mono ?_); rintro e w' ⟨rfl, ⟨nd, rfl⟩⟩; refine ⟨_, rfl, ?_⟩; (try simp only [errW_none, errW_some])) | ((with_reducible refine gate_callee (f := 16) rfl ?_); refine goesL_ (some 48) rfl rfl Try.func16 (by kernel_rfl) rfl #[.int .i64 t358, .int .i64 a1] rfl (by (try simp only [List.map_toArray, List.map_cons, List.map_nil]); first | done | rfl | (simp only [List.length_drop, List.length_take]; rfl)) ?_; (with_reducible refine (cents_Add_s.calls t358 a1 t361 t362 _ A8.out).mono ?_); rintro e w' ⟨rfl, ⟨nd, rfl⟩⟩; refine ⟨_, rfl, ?_⟩; (try simp only [errW_none, errW_some])))
            go_ret
            exact ⟨by first | rfl | (simp; done) | (simp [*]; done), by repeat (first | exact Drawn0.refl _ | apply Drawn0.step)⟩
        · have H1 : (some t351) = some r := by rw [if_neg (show ¬ (some q360).isNone = true by simp)] at H; exact H
          clear H
          have H := H1
          clear H1
          try simp only [errW_none, errW_some]
          obtain rfl := Option.some.inj H
          go_enter Try.func7, Try.ntmps7
          go_wp2_with (first | ((with_reducible refine gate_callee (f := 12) rfl ?_); refine goesL_ (some 14) rfl rfl Try.func12 (by kernel_rfl) rfl #[] rfl (by (try simp only [List.map_toArray, List.map_cons, List.map_nil]); first | done | rfl | (simp only [List.length_drop, List.length_take]; rfl)) ?_; (with_reducible refine (trivetlaw01_up_s.calls  t351 _ A3.out).mono ?_); rintro e w' ⟨rfl, ⟨nd, rfl⟩⟩; refine ⟨_, rfl, ?_⟩) | ((with_reducible refine gate_callee (f := 16) rfl ?_); refine goesL_ (some 18) rfl rfl Try.func16 (by kernel_rfl) rfl #[.int .i64 a0, .int .i64 a1] rfl (by (try simp only [List.map_toArray, List.map_cons, List.map_nil]); first | done | rfl | (simp only [List.length_drop, List.length_take]; rfl)) ?_; (with_reducible refine (cents_Add_s.calls a0 a1 t352 none _ A4.out).mono ?_); rintro e w' ⟨rfl, ⟨nd, rfl⟩⟩; refine ⟨_, rfl, ?_⟩; (try simp only [errW_none, errW_some])) | ((with_reducible refine gate_callee (f := 17) rfl ?_); refine goesL_ (some 26) rfl rfl Try.func17 (by kernel_rfl) rfl #[.int .i64 t352, .int .i64 a1] rfl (by (try simp only [List.map_toArray, List.map_cons, List.map_nil]); first | done | rfl | (simp only [List.length_drop, List.length_take]; rfl)) ?_; (with_reducible refine (cents_Sub_s.calls t352 a1 t355 none _ A5.out).mono ?_); rintro e w' ⟨rfl, ⟨nd, rfl⟩⟩; refine ⟨_, rfl, ?_⟩; (try simp only [errW_none, errW_some])) | ((with_reducible refine gate_callee (f := 17) rfl ?_); refine goesL_ (some 39) rfl rfl Try.func17 (by kernel_rfl) rfl #[.int .i64 a0, .int .i64 a1] rfl (by (try simp only [List.map_toArray, List.map_cons, List.map_nil]); first | done | rfl | (simp only [List.length_drop, List.length_take]; rfl)) ?_; (with_reducible refine (cents_Sub_s.calls a0 a1 t358 (some q360) _ A7.out).mono ?_); rintro e w' ⟨rfl, ⟨nd, rfl⟩⟩; refine ⟨_, rfl, ?_⟩; (try simp only [errW_none, errW_some])))
          go_ret
          exact ⟨by first | rfl | (simp; done) | (simp [*]; done), by repeat (first | exact Drawn0.refl _ | apply Drawn0.step)⟩
      · rw [if_neg c6] at H
        have c6b0 : (t355 == a0) = false := beq_eq_false_iff_ne.mpr c6
        have c6b1 : (t355 != a0) = true := bne_iff_ne.mpr c6
        obtain rfl := Option.some.inj H
        go_enter Try.func7, Try.ntmps7
        go_wp2_with (first | ((with_reducible refine gate_callee (f := 12) rfl ?_); refine goesL_ (some 14) rfl rfl Try.func12 (by kernel_rfl) rfl #[] rfl (by (try simp only [List.map_toArray, List.map_cons, List.map_nil]); first | done | rfl | (simp only [List.length_drop, List.length_take]; rfl)) ?_; (with_reducible refine (trivetlaw01_up_s.calls  t351 _ A3.out).mono ?_); rintro e w' ⟨rfl, ⟨nd, rfl⟩⟩; refine ⟨_, rfl, ?_⟩) | ((with_reducible refine gate_callee (f := 16) rfl ?_); refine goesL_ (some 18) rfl rfl Try.func16 (by kernel_rfl) rfl #[.int .i64 a0, .int .i64 a1] rfl (by (try simp only [List.map_toArray, List.map_cons, List.map_nil]); first | done | rfl | (simp only [List.length_drop, List.length_take]; rfl)) ?_; (with_reducible refine (cents_Add_s.calls a0 a1 t352 none _ A4.out).mono ?_); rintro e w' ⟨rfl, ⟨nd, rfl⟩⟩; refine ⟨_, rfl, ?_⟩; (try simp only [errW_none, errW_some])) | ((with_reducible refine gate_callee (f := 17) rfl ?_); refine goesL_ (some 26) rfl rfl Try.func17 (by kernel_rfl) rfl #[.int .i64 t352, .int .i64 a1] rfl (by (try simp only [List.map_toArray, List.map_cons, List.map_nil]); first | done | rfl | (simp only [List.length_drop, List.length_take]; rfl)) ?_; (with_reducible refine (cents_Sub_s.calls t352 a1 t355 none _ A5.out).mono ?_); rintro e w' ⟨rfl, ⟨nd, rfl⟩⟩; refine ⟨_, rfl, ?_⟩; (try simp only [errW_none, errW_some])))
        go_ret
        exact ⟨by first | rfl | (simp; done) | (simp [*]; done), by repeat (first | exact Drawn0.refl _ | apply Drawn0.step)⟩
    · have H1 : (some false) = some r := by rw [if_neg (show ¬ (some q357).isNone = true by simp)] at H; exact H
      clear H
      have H := H1
      clear H1
      try simp only [errW_none, errW_some]
      obtain rfl := Option.some.inj H
      go_enter Try.func7, Try.ntmps7
      go_wp2_with (first | ((with_reducible refine gate_callee (f := 12) rfl ?_); refine goesL_ (some 14) rfl rfl Try.func12 (by kernel_rfl) rfl #[] rfl (by (try simp only [List.map_toArray, List.map_cons, List.map_nil]); first | done | rfl | (simp only [List.length_drop, List.length_take]; rfl)) ?_; (with_reducible refine (trivetlaw01_up_s.calls  t351 _ A3.out).mono ?_); rintro e w' ⟨rfl, ⟨nd, rfl⟩⟩; refine ⟨_, rfl, ?_⟩) | ((with_reducible refine gate_callee (f := 16) rfl ?_); refine goesL_ (some 18) rfl rfl Try.func16 (by kernel_rfl) rfl #[.int .i64 a0, .int .i64 a1] rfl (by (try simp only [List.map_toArray, List.map_cons, List.map_nil]); first | done | rfl | (simp only [List.length_drop, List.length_take]; rfl)) ?_; (with_reducible refine (cents_Add_s.calls a0 a1 t352 none _ A4.out).mono ?_); rintro e w' ⟨rfl, ⟨nd, rfl⟩⟩; refine ⟨_, rfl, ?_⟩; (try simp only [errW_none, errW_some])) | ((with_reducible refine gate_callee (f := 17) rfl ?_); refine goesL_ (some 26) rfl rfl Try.func17 (by kernel_rfl) rfl #[.int .i64 t352, .int .i64 a1] rfl (by (try simp only [List.map_toArray, List.map_cons, List.map_nil]); first | done | rfl | (simp only [List.length_drop, List.length_take]; rfl)) ?_; (with_reducible refine (cents_Sub_s.calls t352 a1 t355 (some q357) _ A5.out).mono ?_); rintro e w' ⟨rfl, ⟨nd, rfl⟩⟩; refine ⟨_, rfl, ?_⟩; (try simp only [errW_none, errW_some])))
      go_ret
      exact ⟨by first | rfl | (simp; done) | (simp [*]; done), by repeat (first | exact Drawn0.refl _ | apply Drawn0.step)⟩
  · have H1 : ((cents_Sub_s.f a0 a1).bind fun bt364 => (if bt364.2.isNone = true then ((cents_Add_s.f bt364.1 a1).bind fun bt367 => (if t351 = true then (if bt367.2.isNone = true then (some (bt367.1 == a0)) else (some false)) else (some false))) else (some t351))) = some r := by rw [if_neg (show ¬ (some q354).isNone = true by simp)] at H; exact H
    clear H
    have H := H1
    clear H1
    try simp only [errW_none, errW_some]
    replace H := Option.bind_eq_some_iff.mp H
    obtain ⟨⟨t364, t365⟩, A100, H⟩ := H
    replace H : (if t365.isNone = true then ((cents_Add_s.f t364 a1).bind fun bt367 => (if t351 = true then (if bt367.2.isNone = true then (some (bt367.1 == a0)) else (some false)) else (some false))) else (some t351)) = some r := H
    have A10 := Aside0.mk A100
    clear A100
    rcases t365 with _ | q366
    · have H1 : ((cents_Add_s.f t364 a1).bind fun bt367 => (if t351 = true then (if bt367.2.isNone = true then (some (bt367.1 == a0)) else (some false)) else (some false))) = some r := by rw [if_pos (show (none : Option Int).isNone = true by rfl)] at H; exact H
      clear H
      have H := H1
      clear H1
      try simp only [errW_none, errW_some]
      replace H := Option.bind_eq_some_iff.mp H
      obtain ⟨⟨t367, t368⟩, A110, H⟩ := H
      replace H : (if t351 = true then (if t368.isNone = true then (some (t367 == a0)) else (some false)) else (some false)) = some r := H
      have A11 := Aside0.mk A110
      clear A110
      by_cases c12 : t351 = true
      · subst c12
        have H1 : (if t368.isNone = true then (some (t367 == a0)) else (some false)) = some r := by rw [if_pos rfl] at H; exact H
        clear H
        have H := H1
        clear H1
        rcases t368 with _ | q369
        · have H1 : (some (t367 == a0)) = some r := by rw [if_pos (show (none : Option Int).isNone = true by rfl)] at H; exact H
          clear H
          have H := H1
          clear H1
          try simp only [errW_none, errW_some]
          obtain rfl := Option.some.inj H
          go_enter Try.func7, Try.ntmps7
          go_wp2_with (first | ((with_reducible refine gate_callee (f := 12) rfl ?_); refine goesL_ (some 14) rfl rfl Try.func12 (by kernel_rfl) rfl #[] rfl (by (try simp only [List.map_toArray, List.map_cons, List.map_nil]); first | done | rfl | (simp only [List.length_drop, List.length_take]; rfl)) ?_; (with_reducible refine (trivetlaw01_up_s.calls  true _ A3.out).mono ?_); rintro e w' ⟨rfl, ⟨nd, rfl⟩⟩; refine ⟨_, rfl, ?_⟩) | ((with_reducible refine gate_callee (f := 16) rfl ?_); refine goesL_ (some 18) rfl rfl Try.func16 (by kernel_rfl) rfl #[.int .i64 a0, .int .i64 a1] rfl (by (try simp only [List.map_toArray, List.map_cons, List.map_nil]); first | done | rfl | (simp only [List.length_drop, List.length_take]; rfl)) ?_; (with_reducible refine (cents_Add_s.calls a0 a1 t352 (some q354) _ A4.out).mono ?_); rintro e w' ⟨rfl, ⟨nd, rfl⟩⟩; refine ⟨_, rfl, ?_⟩; (try simp only [errW_none, errW_some])) | ((with_reducible refine gate_callee (f := 17) rfl ?_); refine goesL_ (some 39) rfl rfl Try.func17 (by kernel_rfl) rfl #[.int .i64 a0, .int .i64 a1] rfl (by (try simp only [List.map_toArray, List.map_cons, List.map_nil]); first | done | rfl | (simp only [List.length_drop, List.length_take]; rfl)) ?_; (with_reducible refine (cents_Sub_s.calls a0 a1 t364 none _ A10.out).mono ?_); rintro e w' ⟨rfl, ⟨nd, rfl⟩⟩; refine ⟨_, rfl, ?_⟩; (try simp only [errW_none, errW_some])) | ((with_reducible refine gate_callee (f := 16) rfl ?_); refine goesL_ (some 48) rfl rfl Try.func16 (by kernel_rfl) rfl #[.int .i64 t364, .int .i64 a1] rfl (by (try simp only [List.map_toArray, List.map_cons, List.map_nil]); first | done | rfl | (simp only [List.length_drop, List.length_take]; rfl)) ?_; (with_reducible refine (cents_Add_s.calls t364 a1 t367 none _ A11.out).mono ?_); rintro e w' ⟨rfl, ⟨nd, rfl⟩⟩; refine ⟨_, rfl, ?_⟩; (try simp only [errW_none, errW_some])))
          go_ret
          exact ⟨by first | rfl | (simp; done) | (simp [*]; done), by repeat (first | exact Drawn0.refl _ | apply Drawn0.step)⟩
        · have H1 : (some false) = some r := by rw [if_neg (show ¬ (some q369).isNone = true by simp)] at H; exact H
          clear H
          have H := H1
          clear H1
          try simp only [errW_none, errW_some]
          obtain rfl := Option.some.inj H
          go_enter Try.func7, Try.ntmps7
          go_wp2_with (first | ((with_reducible refine gate_callee (f := 12) rfl ?_); refine goesL_ (some 14) rfl rfl Try.func12 (by kernel_rfl) rfl #[] rfl (by (try simp only [List.map_toArray, List.map_cons, List.map_nil]); first | done | rfl | (simp only [List.length_drop, List.length_take]; rfl)) ?_; (with_reducible refine (trivetlaw01_up_s.calls  true _ A3.out).mono ?_); rintro e w' ⟨rfl, ⟨nd, rfl⟩⟩; refine ⟨_, rfl, ?_⟩) | ((with_reducible refine gate_callee (f := 16) rfl ?_); refine goesL_ (some 18) rfl rfl Try.func16 (by kernel_rfl) rfl #[.int .i64 a0, .int .i64 a1] rfl (by (try simp only [List.map_toArray, List.map_cons, List.map_nil]); first | done | rfl | (simp only [List.length_drop, List.length_take]; rfl)) ?_; (with_reducible refine (cents_Add_s.calls a0 a1 t352 (some q354) _ A4.out).mono ?_); rintro e w' ⟨rfl, ⟨nd, rfl⟩⟩; refine ⟨_, rfl, ?_⟩; (try simp only [errW_none, errW_some])) | ((with_reducible refine gate_callee (f := 17) rfl ?_); refine goesL_ (some 39) rfl rfl Try.func17 (by kernel_rfl) rfl #[.int .i64 a0, .int .i64 a1] rfl (by (try simp only [List.map_toArray, List.map_cons, List.map_nil]); first | done | rfl | (simp only [List.length_drop, List.length_take]; rfl)) ?_; (with_reducible refine (cents_Sub_s.calls a0 a1 t364 none _ A10.out).mono ?_); rintro e w' ⟨rfl, ⟨nd, rfl⟩⟩; refine ⟨_, rfl, ?_⟩; (try simp only [errW_none, errW_some])) | ((with_reducible refine gate_callee (f := 16) rfl ?_); refine goesL_ (some 48) rfl rfl Try.func16 (by kernel_rfl) rfl #[.int .i64 t364, .int .i64 a1] rfl (by (try simp only [List.map_toArray, List.map_cons, List.map_nil]); first | done | rfl | (simp only [List.length_drop, List.length_take]; rfl)) ?_; (with_reducible refine (cents_Add_s.calls t364 a1 t367 (some q369) _ A11.out).mono ?_); rintro e w' ⟨rfl, ⟨nd, rfl⟩⟩; refine ⟨_, rfl, ?_⟩; (try simp only [errW_none, errW_some])))
          go_ret
          exact ⟨by first | rfl | (simp; done) | (simp [*]; done), by repeat (first | exact Drawn0.refl _ | apply Drawn0.step)⟩
      · replace c12 := Bool.eq_false_iff.mpr c12
        subst c12
        have H1 : (some false) = some r := by rw [if_neg (show ¬ (false = true) by decide)] at H; exact H
        clear H
        have H := H1
        clear H1
        obtain rfl := Option.some.inj H
        go_enter Try.func7, Try.ntmps7
        go_wp2_with (first | ((with_reducible refine gate_callee (f := 12) rfl ?_); refine goesL_ (some 14) rfl rfl Try.func12 (by kernel_rfl) rfl #[] rfl (by (try simp only [List.map_toArray, List.map_cons, List.map_nil]); first | done | rfl | (simp only [List.length_drop, List.length_take]; rfl)) ?_; (with_reducible refine (trivetlaw01_up_s.calls  false _ A3.out).mono ?_); rintro e w' ⟨rfl, ⟨nd, rfl⟩⟩; refine ⟨_, rfl, ?_⟩) | ((with_reducible refine gate_callee (f := 16) rfl ?_); refine goesL_ (some 18) rfl rfl Try.func16 (by kernel_rfl) rfl #[.int .i64 a0, .int .i64 a1] rfl (by (try simp only [List.map_toArray, List.map_cons, List.map_nil]); first | done | rfl | (simp only [List.length_drop, List.length_take]; rfl)) ?_; (with_reducible refine (cents_Add_s.calls a0 a1 t352 (some q354) _ A4.out).mono ?_); rintro e w' ⟨rfl, ⟨nd, rfl⟩⟩; refine ⟨_, rfl, ?_⟩; (try simp only [errW_none, errW_some])) | ((with_reducible refine gate_callee (f := 17) rfl ?_); refine goesL_ (some 39) rfl rfl Try.func17 (by kernel_rfl) rfl #[.int .i64 a0, .int .i64 a1] rfl (by (try simp only [List.map_toArray, List.map_cons, List.map_nil]); first | done | rfl | (simp only [List.length_drop, List.length_take]; rfl)) ?_; (with_reducible refine (cents_Sub_s.calls a0 a1 t364 none _ A10.out).mono ?_); rintro e w' ⟨rfl, ⟨nd, rfl⟩⟩; refine ⟨_, rfl, ?_⟩; (try simp only [errW_none, errW_some])) | ((with_reducible refine gate_callee (f := 16) rfl ?_); refine goesL_ (some 48) rfl rfl Try.func16 (by kernel_rfl) rfl #[.int .i64 t364, .int .i64 a1] rfl (by (try simp only [List.map_toArray, List.map_cons, List.map_nil]); first | done | rfl | (simp only [List.length_drop, List.length_take]; rfl)) ?_; (with_reducible refine (cents_Add_s.calls t364 a1 t367 t368 _ A11.out).mono ?_); rintro e w' ⟨rfl, ⟨nd, rfl⟩⟩; refine ⟨_, rfl, ?_⟩; (try simp only [errW_none, errW_some])))
        go_ret
        exact ⟨by first | rfl | (simp; done) | (simp [*]; done), by repeat (first | exact Drawn0.refl _ | apply Drawn0.step)⟩
    · have H1 : (some t351) = some r := by rw [if_neg (show ¬ (some q366).isNone = true by simp)] at H; exact H
      clear H
      have H := H1
      clear H1
      try simp only [errW_none, errW_some]
      obtain rfl := Option.some.inj H
      go_enter Try.func7, Try.ntmps7
      go_wp2_with (first | ((with_reducible refine gate_callee (f := 12) rfl ?_); refine goesL_ (some 14) rfl rfl Try.func12 (by kernel_rfl) rfl #[] rfl (by (try simp only [List.map_toArray, List.map_cons, List.map_nil]); first | done | rfl | (simp only [List.length_drop, List.length_take]; rfl)) ?_; (with_reducible refine (trivetlaw01_up_s.calls  t351 _ A3.out).mono ?_); rintro e w' ⟨rfl, ⟨nd, rfl⟩⟩; refine ⟨_, rfl, ?_⟩) | ((with_reducible refine gate_callee (f := 16) rfl ?_); refine goesL_ (some 18) rfl rfl Try.func16 (by kernel_rfl) rfl #[.int .i64 a0, .int .i64 a1] rfl (by (try simp only [List.map_toArray, List.map_cons, List.map_nil]); first | done | rfl | (simp only [List.length_drop, List.length_take]; rfl)) ?_; (with_reducible refine (cents_Add_s.calls a0 a1 t352 (some q354) _ A4.out).mono ?_); rintro e w' ⟨rfl, ⟨nd, rfl⟩⟩; refine ⟨_, rfl, ?_⟩; (try simp only [errW_none, errW_some])) | ((with_reducible refine gate_callee (f := 17) rfl ?_); refine goesL_ (some 39) rfl rfl Try.func17 (by kernel_rfl) rfl #[.int .i64 a0, .int .i64 a1] rfl (by (try simp only [List.map_toArray, List.map_cons, List.map_nil]); first | done | rfl | (simp only [List.length_drop, List.length_take]; rfl)) ?_; (with_reducible refine (cents_Sub_s.calls a0 a1 t364 (some q366) _ A10.out).mono ?_); rintro e w' ⟨rfl, ⟨nd, rfl⟩⟩; refine ⟨_, rfl, ?_⟩; (try simp only [errW_none, errW_some])))
      go_ret
      exact ⟨by first | rfl | (simp; done) | (simp [*]; done), by repeat (first | exact Drawn0.refl _ | apply Drawn0.step)⟩

/-- THE ONE PURE STATEMENT of trivetlaw01_CentsBack: yours. -/
def trivetlaw01_CentsBack.Pure : Prop := ∀ (a0 : Int) (a1 : Int), (Lit.int .i64 a0).wf = true → (Lit.int .i64 a1).wf = true → trivetlaw01_CentsBack.f a0 a1 = some true
theorem trivetlaw01_CentsBack.walk (P : trivetlaw01_CentsBack.Pure) (a0 : Int) (a1 : Int) (w : World) (w0 : (Lit.int .i64 a0).wf = true) (w1 : (Lit.int .i64 a1).wf = true) :
    Calls Try.prog 7 #[.int .i64 a0, .int .i64 a1] w fun e w' => e = .returned (.bool true) ∧ Below w.heap.size w w' := by
  have h := P a0 a1 w0 w1
  refine (trivetlaw01_CentsBack.calls a0 a1 true w h).mono ?_
  rintro e w' ⟨rfl, hd⟩
  exact ⟨rfl, hd.below⟩

end Go.Proofs.Ytdddiahgkpfikaa.P
