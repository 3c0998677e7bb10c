-- Written by a program of this session out of the translation of the seat: Lean functions and the proofs that the Go functions come to them.
import Derived.Test.YtdddiahgkpfikaaPx0
import Derived.Test.YtdddiahgkpfikaaPx3
import Derived.Test.YtdddiahgkpfikaaPx4
import Derived.Test.YtdddiahgkpfikaaPx6
import Derived.Test.YtdddiahgkpfikaaPx7
namespace Go.Proofs.Ytdddiahgkpfikaa.P
open Go.RowKit Go.Proofs.YtdddiahgkpfikaaW.PrintWords Go.Proofs.YtdddiahgkpfikaaW.PrintLast Go.Proofs.YtdddiahgkpfikaaW.PrintMore
attribute [local go_sem] max2_int min2_int max_two min_two max_three min_three max_four min_four   -- for this text's walks alone
set_option linter.unusedVariables false
set_option linter.unusedSimpArgs false

/-! ### trivetlaw01_CentsTwo: function 8 -/
def trivetlaw01_CentsTwo.f (k : Nat) (a0 : Int) (a1 : Int) : Option (Bool) := (trivetlaw01_up_s.f).bind fun t222 => ((trivetref01_Of.f k a0).bind fun bt223 => ((trivetref01_Of.f k a1).bind fun bt228 => ((cents_Add_s.f a0 a1).bind fun bt233 => ((cents_Sub_s.f a0 a1).bind fun bt235 => ((cents_Mul_s.f a0 a1).bind fun bt237 => (if t222 = true then ((trivetref01_Add.f k bt223.1 bt223.2 bt228.1 bt228.2).bind fun bt239 => ((trivetlaw01_told.f k bt233.1 bt233.2 bt239.1 bt239.2).bind fun t243 => (if t243 = true then ((trivetref01_Neg.f k bt228.1 bt228.2).bind fun bt244 => ((trivetref01_Add.f k bt223.1 bt223.2 bt244.1 bt244.2).bind fun bt248 => ((trivetlaw01_told.f k bt235.1 bt235.2 bt248.1 bt248.2).bind fun t252 => (if t252 = true then ((trivetref01_Mul.f k bt223.1 bt223.2 bt228.1 bt228.2).bind fun bt253 => ((trivetlaw01_told.f k bt237.1 bt237.2 bt253.1 bt253.2).bind fun t257 => (some t257))) else (none))))) else (none)))) else (none)))))))
theorem trivetlaw01_CentsTwo.mono : ∀ a0 a1 k, LeO (trivetlaw01_CentsTwo.f k a0 a1) (trivetlaw01_CentsTwo.f (k + 1) a0 a1) := by
 intro a0 a1 k
 unfold trivetlaw01_CentsTwo.f
 repeat' first
   | (with_reducible exact trivetlaw01_told.mono _ _ _ _ _)
   | (with_reducible exact trivetref01_Add.mono _ _ _ _ _)
   | (with_reducible exact trivetref01_Mul.mono _ _ _ _ _)
   | (with_reducible exact trivetref01_Neg.mono _ _ _)
   | (with_reducible exact trivetref01_Of.mono _ _)
   | (with_reducible exact LeO.refl _)
   | (with_reducible exact LeO.none _)
   | (with_reducible refine LeO.ite ?_ ?_)
   | (with_reducible refine LeO.bind ?_ (fun _ => ?_))
   | exact trivetlaw01_told.mono _ _ _ _ _
   | exact trivetref01_Add.mono _ _ _ _ _
   | exact trivetref01_Mul.mono _ _ _ _ _
   | exact trivetref01_Neg.mono _ _ _
   | exact trivetref01_Of.mono _ _
   | exact LeO.none _
   | refine LeO.ite ?_ ?_
   | refine LeO.bind ?_ (fun _ => ?_)
def trivetlaw01_CentsTwo.T7 : Bool × List (List Nat × List Nat) := (true, [([], []), ([0], [0]), ([1], [1]), ([1], [1]), ([1], [1]), ([1], [1]), ([4, 5, 1, 1], [1, 4, 5]), ([2, 3, 6, 6, 1], [1, 2, 3, 6]), ([1, 7], [1, 7]), ([8, 7], [8]), ([9], [9]), ([9], [9]), ([9], [9]), ([9], [9]), ([13, 9, 9], [9, 13]), ([12, 14, 14, 9], [9, 12, 14]), ([10, 11, 15, 15, 9], [9, 10, 11, 15]), ([9, 16], [9, 16]), ([17, 16], [17]), ([18], [18]), ([18], [18]), ([18], [18]), ([18], [18]), ([21, 22, 18, 18], [18, 21, 22]), ([19, 20, 23, 23, 18], [18, 19, 20, 23]), ([18, 24], [18, 24]), ([25, 24, 0, 1, 2, 3, 4, 5, 6, 7, 8, 9, 10, 11, 12, 13, 14, 15, 16, 17, 18, 19, 20, 21, 22, 23, 24, 25], [25])])
def trivetlaw01_CentsTwo.B7 : List Nat := [0, 1, 3, 3, 3, 3, 51, 127, 255, 511, 1023, 1023, 1023, 1023, 9215, 29695, 65535, 131071, 262143, 524287, 524287, 524287, 524287, 6815743, 16777215, 33554431, 67108863]
theorem trivetlaw01_CentsTwo.tab7 : rtab .any (opsOf Try.f8 7) = trivetlaw01_CentsTwo.T7 := by kernel_rfl
theorem trivetlaw01_CentsTwo.bits7 : waitsOk trivetlaw01_CentsTwo.T7.2 trivetlaw01_CentsTwo.B7 = true := by kernel_rfl
set_option maxHeartbeats 8000000 in
set_option maxRecDepth 100000 in
theorem trivetlaw01_CentsTwo.calls (k : Nat) (a0 : Int) (a1 : Int) (r : Bool) (w : World) (h : trivetlaw01_CentsTwo.f k a0 a1 = some r) :
  Calls Try.prog 8 #[.int .i64 a0, .int .i64 a1] w fun e w' => e = .returned (.bool r) ∧ Below w.heap.size w w' := by
 have hu37 := Try.underlying37
 have HB := ka (Below.refl w.heap.size w)
 have H : ((trivetlaw01_up_s.f).bind fun t222 => ((trivetref01_Of.f k a0).bind fun bt223 => ((trivetref01_Of.f k a1).bind fun bt228 => ((cents_Add_s.f a0 a1).bind fun bt233 => ((cents_Sub_s.f a0 a1).bind fun bt235 => ((cents_Mul_s.f a0 a1).bind fun bt237 => (if t222 = true then ((trivetref01_Add.f k bt223.1 bt223.2 bt228.1 bt228.2).bind fun bt239 => ((trivetlaw01_told.f k bt233.1 bt233.2 bt239.1 bt239.2).bind fun t243 => (if t243 = true then ((trivetref01_Neg.f k bt228.1 bt228.2).bind fun bt244 => ((trivetref01_Add.f k bt223.1 bt223.2 bt244.1 bt244.2).bind fun bt248 => ((trivetlaw01_told.f k bt235.1 bt235.2 bt248.1 bt248.2).bind fun t252 => (if t252 = true then ((trivetref01_Mul.f k bt223.1 bt223.2 bt228.1 bt228.2).bind fun bt253 => ((trivetlaw01_told.f k bt237.1 bt237.2 bt253.1 bt253.2).bind fun t257 => (some t257))) else (none))))) else (none)))) else (none)))))))) = some r := h
 clear h
 replace H := Option.bind_eq_some_iff.mp H
 obtain ⟨t222, A30, H⟩ := H
 replace H : ((trivetref01_Of.f k a0).bind fun bt223 => ((trivetref01_Of.f k a1).bind fun bt228 => ((cents_Add_s.f a0 a1).bind fun bt233 => ((cents_Sub_s.f a0 a1).bind fun bt235 => ((cents_Mul_s.f a0 a1).bind fun bt237 => (if t222 = true then ((trivetref01_Add.f k bt223.1 bt223.2 bt228.1 bt228.2).bind fun bt239 => ((trivetlaw01_told.f k bt233.1 bt233.2 bt239.1 bt239.2).bind fun t243 => (if t243 = true then ((trivetref01_Neg.f k bt228.1 bt228.2).bind fun bt244 => ((trivetref01_Add.f k bt223.1 bt223.2 bt244.1 bt244.2).bind fun bt248 => ((trivetlaw01_told.f k bt235.1 bt235.2 bt248.1 bt248.2).bind fun t252 => (if t252 = true then ((trivetref01_Mul.f k bt223.1 bt223.2 bt228.1 bt228.2).bind fun bt253 => ((trivetlaw01_told.f k bt237.1 bt237.2 bt253.1 bt253.2).bind fun t257 => (some t257))) else (none))))) else (none)))) else (none))))))) = some r := H
 have A3 := ka A30
 clear A30
 replace H := Option.bind_eq_some_iff.mp H
 obtain ⟨⟨t223, t226⟩, A40, H⟩ := H
 replace H : ((trivetref01_Of.f k a1).bind fun bt228 => ((cents_Add_s.f a0 a1).bind fun bt233 => ((cents_Sub_s.f a0 a1).bind fun bt235 => ((cents_Mul_s.f a0 a1).bind fun bt237 => (if t222 = true then ((trivetref01_Add.f k t223 t226 bt228.1 bt228.2).bind fun bt239 => ((trivetlaw01_told.f k bt233.1 bt233.2 bt239.1 bt239.2).bind fun t243 => (if t243 = true then ((trivetref01_Neg.f k bt228.1 bt228.2).bind fun bt244 => ((trivetref01_Add.f k t223 t226 bt244.1 bt244.2).bind fun bt248 => ((trivetlaw01_told.f k bt235.1 bt235.2 bt248.1 bt248.2).bind fun t252 => (if t252 = true then ((trivetref01_Mul.f k t223 t226 bt228.1 bt228.2).bind fun bt253 => ((trivetlaw01_told.f k bt237.1 bt237.2 bt253.1 bt253.2).bind fun t257 => (some t257))) else (none))))) else (none)))) else (none)))))) = some r := H
 have A4 := ka A40
 clear A40
 replace H := Option.bind_eq_some_iff.mp H
 obtain ⟨⟨t228, t231⟩, A50, H⟩ := H
 replace H : ((cents_Add_s.f a0 a1).bind fun bt233 => ((cents_Sub_s.f a0 a1).bind fun bt235 => ((cents_Mul_s.f a0 a1).bind fun bt237 => (if t222 = true then ((trivetref01_Add.f k t223 t226 t228 t231).bind fun bt239 => ((trivetlaw01_told.f k bt233.1 bt233.2 bt239.1 bt239.2).bind fun t243 => (if t243 = true then ((trivetref01_Neg.f k t228 t231).bind fun bt244 => ((trivetref01_Add.f k t223 t226 bt244.1 bt244.2).bind fun bt248 => ((trivetlaw01_told.f k bt235.1 bt235.2 bt248.1 bt248.2).bind fun t252 => (if t252 = true then ((trivetref01_Mul.f k t223 t226 t228 t231).bind fun bt253 => ((trivetlaw01_told.f k bt237.1 bt237.2 bt253.1 bt253.2).bind fun t257 => (some t257))) else (none))))) else (none)))) else (none))))) = some r := H
 have A5 := ka A50
 clear A50
 replace H := Option.bind_eq_some_iff.mp H
 obtain ⟨⟨t233, t234⟩, A60, H⟩ := H
 replace H : ((cents_Sub_s.f a0 a1).bind fun bt235 => ((cents_Mul_s.f a0 a1).bind fun bt237 => (if t222 = true then ((trivetref01_Add.f k t223 t226 t228 t231).bind fun bt239 => ((trivetlaw01_told.f k t233 t234 bt239.1 bt239.2).bind fun t243 => (if t243 = true then ((trivetref01_Neg.f k t228 t231).bind fun bt244 => ((trivetref01_Add.f k t223 t226 bt244.1 bt244.2).bind fun bt248 => ((trivetlaw01_told.f k bt235.1 bt235.2 bt248.1 bt248.2).bind fun t252 => (if t252 = true then ((trivetref01_Mul.f k t223 t226 t228 t231).bind fun bt253 => ((trivetlaw01_told.f k bt237.1 bt237.2 bt253.1 bt253.2).bind fun t257 => (some t257))) else (none))))) else (none)))) else (none)))) = some r := H
 have A6 := ka A60
 clear A60
 replace H := Option.bind_eq_some_iff.mp H
 obtain ⟨⟨t235, t236⟩, A70, H⟩ := H
 replace H : ((cents_Mul_s.f a0 a1).bind fun bt237 => (if t222 = true then ((trivetref01_Add.f k t223 t226 t228 t231).bind fun bt239 => ((trivetlaw01_told.f k t233 t234 bt239.1 bt239.2).bind fun t243 => (if t243 = true then ((trivetref01_Neg.f k t228 t231).bind fun bt244 => ((trivetref01_Add.f k t223 t226 bt244.1 bt244.2).bind fun bt248 => ((trivetlaw01_told.f k t235 t236 bt248.1 bt248.2).bind fun t252 => (if t252 = true then ((trivetref01_Mul.f k t223 t226 t228 t231).bind fun bt253 => ((trivetlaw01_told.f k bt237.1 bt237.2 bt253.1 bt253.2).bind fun t257 => (some t257))) else (none))))) else (none)))) else (none))) = some r := H
 have A7 := ka A70
 clear A70
 replace H := Option.bind_eq_some_iff.mp H
 obtain ⟨⟨t237, t238⟩, A80, H⟩ := H
 replace H : (if t222 = true then ((trivetref01_Add.f k t223 t226 t228 t231).bind fun bt239 => ((trivetlaw01_told.f k t233 t234 bt239.1 bt239.2).bind fun t243 => (if t243 = true then ((trivetref01_Neg.f k t228 t231).bind fun bt244 => ((trivetref01_Add.f k t223 t226 bt244.1 bt244.2).bind fun bt248 => ((trivetlaw01_told.f k t235 t236 bt248.1 bt248.2).bind fun t252 => (if t252 = true then ((trivetref01_Mul.f k t223 t226 t228 t231).bind fun bt253 => ((trivetlaw01_told.f k t237 t238 bt253.1 bt253.2).bind fun t257 => (some t257))) else (none))))) else (none)))) else (none)) = some r := H
 have A8 := ka A80
 clear A80
 by_cases c9 : t222 = true
 ·subst c9
  have H1 : ((trivetref01_Add.f k t223 t226 t228 t231).bind fun bt239 => ((trivetlaw01_told.f k t233 t234 bt239.1 bt239.2).bind fun t243 => (if t243 = true then ((trivetref01_Neg.f k t228 t231).bind fun bt244 => ((trivetref01_Add.f k t223 t226 bt244.1 bt244.2).bind fun bt248 => ((trivetlaw01_told.f k t235 t236 bt248.1 bt248.2).bind fun t252 => (if t252 = true then ((trivetref01_Mul.f k t223 t226 t228 t231).bind fun bt253 => ((trivetlaw01_told.f k t237 t238 bt253.1 bt253.2).bind fun t257 => (some t257))) else (none))))) else (none)))) = some r := by rw [if_pos rfl] at H; exact H
  clear H
  have H := H1
  clear H1
  replace H := Option.bind_eq_some_iff.mp H
  obtain ⟨⟨t239, t242⟩, A100, H⟩ := H
  replace H : ((trivetlaw01_told.f k t233 t234 t239 t242).bind fun t243 => (if t243 = true then ((trivetref01_Neg.f k t228 t231).bind fun bt244 => ((trivetref01_Add.f k t223 t226 bt244.1 bt244.2).bind fun bt248 => ((trivetlaw01_told.f k t235 t236 bt248.1 bt248.2).bind fun t252 => (if t252 = true then ((trivetref01_Mul.f k t223 t226 t228 t231).bind fun bt253 => ((trivetlaw01_told.f k t237 t238 bt253.1 bt253.2).bind fun t257 => (some t257))) else (none))))) else (none))) = some r := H
  have A10 := ka A100
  clear A100
  replace H := Option.bind_eq_some_iff.mp H
  obtain ⟨t243, A110, H⟩ := H
  replace H : (if t243 = true then ((trivetref01_Neg.f k t228 t231).bind fun bt244 => ((trivetref01_Add.f k t223 t226 bt244.1 bt244.2).bind fun bt248 => ((trivetlaw01_told.f k t235 t236 bt248.1 bt248.2).bind fun t252 => (if t252 = true then ((trivetref01_Mul.f k t223 t226 t228 t231).bind fun bt253 => ((trivetlaw01_told.f k t237 t238 bt253.1 bt253.2).bind fun t257 => (some t257))) else (none))))) else (none)) = some r := H
  have A11 := ka A110
  clear A110
  by_cases c12 : t243 = true
  ·subst c12
   have H1 : ((trivetref01_Neg.f k t228 t231).bind fun bt244 => ((trivetref01_Add.f k t223 t226 bt244.1 bt244.2).bind fun bt248 => ((trivetlaw01_told.f k t235 t236 bt248.1 bt248.2).bind fun t252 => (if t252 = true then ((trivetref01_Mul.f k t223 t226 t228 t231).bind fun bt253 => ((trivetlaw01_told.f k t237 t238 bt253.1 bt253.2).bind fun t257 => (some t257))) else (none))))) = some r := by rw [if_pos rfl] at H; exact H
   clear H
   have H := H1
   clear H1
   replace H := Option.bind_eq_some_iff.mp H
   obtain ⟨⟨t244, t247⟩, A130, H⟩ := H
   replace H : ((trivetref01_Add.f k t223 t226 t244 t247).bind fun bt248 => ((trivetlaw01_told.f k t235 t236 bt248.1 bt248.2).bind fun t252 => (if t252 = true then ((trivetref01_Mul.f k t223 t226 t228 t231).bind fun bt253 => ((trivetlaw01_told.f k t237 t238 bt253.1 bt253.2).bind fun t257 => (some t257))) else (none)))) = some r := H
   have A13 := ka A130
   clear A130
   replace H := Option.bind_eq_some_iff.mp H
   obtain ⟨⟨t248, t251⟩, A140, H⟩ := H
   replace H : ((trivetlaw01_told.f k t235 t236 t248 t251).bind fun t252 => (if t252 = true then ((trivetref01_Mul.f k t223 t226 t228 t231).bind fun bt253 => ((trivetlaw01_told.f k t237 t238 bt253.1 bt253.2).bind fun t257 => (some t257))) else (none))) = some r := H
   have A14 := ka A140
   clear A140
   replace H := Option.bind_eq_some_iff.mp H
   obtain ⟨t252, A150, H⟩ := H
   replace H : (if t252 = true then ((trivetref01_Mul.f k t223 t226 t228 t231).bind fun bt253 => ((trivetlaw01_told.f k t237 t238 bt253.1 bt253.2).bind fun t257 => (some t257))) else (none)) = some r := H
   have A15 := ka A150
   clear A150
   by_cases c16 : t252 = true
   ·subst c16
    have H1 : ((trivetref01_Mul.f k t223 t226 t228 t231).bind fun bt253 => ((trivetlaw01_told.f k t237 t238 bt253.1 bt253.2).bind fun t257 => (some t257))) = some r := by rw [if_pos rfl] at H; exact H
    clear H
    have H := H1
    clear H1
    replace H := Option.bind_eq_some_iff.mp H
    obtain ⟨⟨t253, t256⟩, A170, H⟩ := H
    replace H : ((trivetlaw01_told.f k t237 t238 t253 t256).bind fun t257 => (some t257)) = some r := H
    have A17 := ka A170
    clear A170
    replace H := Option.bind_eq_some_iff.mp H
    obtain ⟨t257, A180, H⟩ := H
    replace H : (some t257) = some r := H
    have A18 := ka A180
    clear A180
    obtain rfl := Option.some.inj H
    go_enter Try.func8, Try.ntmps8
    try go_wp2_with (first | ((with_reducible refine gate_callee (f := 12) rfl ?_); refine kg (some 14) rfl rfl Try.func12 (by kernel_rfl) rfl #[] rfl ?_; (with_reducible refine (trivetlaw01_up_s.calls  true _ A3.out).mono ?_); rintro e w' ⟨rfl, ⟨nd, rfl⟩⟩; refine ⟨_, rfl, ?_⟩) | ((with_reducible refine gate_callee (f := 18) rfl ?_); refine kg (some 16) rfl rfl Try.func18 (by kernel_rfl) rfl #[.int .i64 a0] rfl ?_; (with_reducible refine (trivetref01_Of.calls k a0 t223 t226 _ A4.out).mono ?_); rintro e w19 ⟨v224, rfl, ho0, hb⟩; refine ⟨_, rfl, ?_⟩; have n0_ := ka (Kd.V_lower (Kd.V_mono (ok' := fun k_ => True) ho0 (fun k_ hk_ => trivial)) (below_size (kw HB.out))); have n1_ := ka (below_step (kw HB.out) hb); clear HB; have HO225 := n0_; have HB := n1_; clear n0_ n1_; (try clear hb); (try clear hb2); (try clear hk); (try clear hi); (try clear ho0)) | ((with_reducible refine gate_dst (N := 6) rfl ?_); refine kx (N := 6) (cs := #[.slice none 0 0, .bool false]) (t := 37) ?_; intro gb227 hg w20 hbox hb; have n0_ := ka (Kd.V_below (Kd.V_elderB (by (with_reducible repeat (first | apply Kd.V_alloc | apply Kd.V_drewN | apply Kd.V_drew)); exact HO225.out) gb227 (Nat.le_of_eq hg.symm)) hb); have n1_ := ka (below_step (kw HB.out) hb); have n2_ := ka (hbox); have n3_ := ka ((by rw [hg]; exact (below_size (kw HB.out)) : w.heap.size ≤ gb227)); have n4_ := n3_; clear HO225; clear HB; have HO225 := n0_; have HB := n1_; have BK227 := n2_; have GW227 := n3_; have GE227 := n4_; clear n0_ n1_ n2_ n3_ n4_; clear hb hbox hg; obtain ⟨Ao21, co21, eo21⟩ := Kd.V_slice HO225.out; subst eo21; have hcz22 := blkAll2 BK227.out) | ((with_reducible refine gate_callee (f := 18) rfl ?_); refine kg (some 18) rfl rfl Try.func18 (by kernel_rfl) rfl #[.int .i64 a1] rfl ?_; (with_reducible refine (trivetref01_Of.calls k a1 t228 t231 _ A5.out).mono ?_); rintro e w23 ⟨v229, rfl, ho0, hb⟩; refine ⟨_, rfl, ?_⟩; have n0_ := ka (Kd.V_below (by (with_reducible repeat (first | apply Kd.V_alloc | apply Kd.V_drewN | apply Kd.V_drew)); exact (Kd.V_mono (Kd.V_far (p := ⟨gb227, 1, none⟩) (Kd.V_far (p := ⟨gb227, 0, none⟩) (Kd.V_mono HO225.out (fun k_ hk => (⟨hk, hk.2⟩ : _ ∧ k_ ≠ gb227))) (fun _ hk => hk.2) (.slice Ao21 t223.length co21)) (fun _ hk => hk.2) (.bool t226)) (fun _ h_ => h_.1))) hb); have n1_ := ka (Kd.V_lower (Kd.V_mono (ok' := fun k_ => k_ ≠ gb227) ho0 (fun k_ hk_ => (Kd.freshB (g := gb227) (o := .cells #[.slice Ao21 t223.length co21, .bool t226] 37 (0, 0)) (by (with_reducible repeat (first | apply kb1 | apply kb2 | apply kb3 | apply blkPut2_1 | apply blkPut2_0)); exact BK227.out) k_ hk_))) (below_size (kw HB.out))); have n2_ := ka (blk_below (g := gb227) (o := .cells #[.slice Ao21 t223.length co21, .bool t226] 37 (0, 0)) (by (with_reducible repeat (first | apply kb1 | apply kb2 | apply kb3 | apply blkPut2_1 | apply blkPut2_0)); exact BK227.out) hb); have n3_ := ka (below_step (kw HB.out) hb); clear HO225; clear BK227; clear HB; have HO225 := n0_; have HO230 := n1_; have BK227 := n2_; have HB := n3_; clear n0_ n1_ n2_ n3_; (try clear hb); (try clear hb2); (try clear hk); (try clear hi); (try clear ho0)) | ((with_reducible refine gate_dst (N := 7) rfl ?_); refine kx (N := 7) (cs := #[.slice none 0 0, .bool false]) (t := 37) ?_; intro gb232 hg w24 hbox hb; have n0_ := ka (Kd.V_below (Kd.V_elderB (by (with_reducible repeat (first | apply Kd.V_alloc | apply Kd.V_drewN | apply Kd.V_drew)); exact HO225.out) gb232 (Nat.le_of_eq hg.symm)) hb); have n1_ := ka (Kd.V_below (Kd.V_elderB (by (with_reducible repeat (first | apply Kd.V_alloc | apply Kd.V_drewN | apply Kd.V_drew)); exact HO230.out) gb232 (Nat.le_of_eq hg.symm)) hb); have n2_ := ka (blk_below (g := gb227) (kz BK227.out) hb); have n3_ := ka (below_step (kw HB.out) hb); have n4_ := ka (hbox); have n5_ := ka ((by rw [hg]; exact (below_size (kw HB.out)) : w.heap.size ≤ gb232)); have n6_ := n5_; have n7_ := ka ((by rw [hg]; exact Nat.ne_of_lt (blk_lt (g := gb227) (kz BK227.out)) : gb227 ≠ gb232)); have n8_ := ka n7_.out.symm; clear HO225; clear HO230; clear BK227; clear HB; have HO225 := n0_; have HO230 := n1_; have BK227 := n2_; have HB := n3_; have BK232 := n4_; have GW232 := n5_; have GE232 := n6_; have NB227_232 := n7_; have NB232_227 := n8_; clear n0_ n1_ n2_ n3_ n4_ n5_ n6_ n7_ n8_; clear hb hbox hg; obtain ⟨Ao25, co25, eo25⟩ := Kd.V_slice HO230.out; subst eo25; have hnb26 := NB232_227.out; have hnc26 := NB227_232.out; have hcz27 := blkAll2 BK232.out) | ((with_reducible refine gate_callee (f := 16) rfl ?_); refine kg (some 22) rfl rfl Try.func16 (by kernel_rfl) rfl #[.int .i64 a0, .int .i64 a1] rfl ?_; (with_reducible refine (cents_Add_s.calls a0 a1 t233 t234 _ A6.out).mono ?_); rintro e w' ⟨rfl, ⟨nd, rfl⟩⟩; refine ⟨_, rfl, ?_⟩; (try simp only [errW_none, errW_some])) | ((with_reducible refine gate_callee (f := 17) rfl ?_); refine kg (some 28) rfl rfl Try.func17 (by kernel_rfl) rfl #[.int .i64 a0, .int .i64 a1] rfl ?_; (with_reducible refine (cents_Sub_s.calls a0 a1 t235 t236 _ A7.out).mono ?_); rintro e w' ⟨rfl, ⟨nd, rfl⟩⟩; refine ⟨_, rfl, ?_⟩; (try simp only [errW_none, errW_some])) | ((with_reducible refine gate_callee (f := 15) rfl ?_); refine kg (some 34) rfl rfl Try.func15 (by kernel_rfl) rfl #[.int .i64 a0, .int .i64 a1] rfl ?_; (with_reducible refine (cents_Mul_s.calls a0 a1 t237 t238 _ A8.out).mono ?_); rintro e w' ⟨rfl, ⟨nd, rfl⟩⟩; refine ⟨_, rfl, ?_⟩; (try simp only [errW_none, errW_some])))
    have n0_ : Aside0 (Kd.V (Kd.int .u64) 46 ((w24.setCell ⟨gb232, 0, none⟩ (.slice Ao25 t228.length co25)).setCell ⟨gb232, 1, none⟩ (.bool t231)) w.heap.size (fun k_ => k_ ≠ gb227 ∧ k_ ≠ gb232) (.slice Ao21 t223.length co21) t223) := ⟨by (with_reducible repeat (first | apply Kd.V_alloc | apply Kd.V_drewN | apply Kd.V_drew)); exact Kd.V_mono (Kd.V_far (p := ⟨gb232, 1, none⟩) (Kd.V_far (p := ⟨gb232, 0, none⟩) (Kd.V_mono HO225.out (fun k_ hk => (⟨hk, hk.2⟩ : _ ∧ k_ ≠ gb232))) (fun _ hk => hk.2) (.slice Ao25 t228.length co25)) (fun _ hk => hk.2) (.bool t231)) (fun _ hk => ⟨hk.1.1.2, hk.1.2⟩)⟩
    have n1_ : Aside0 (Kd.V (Kd.int .u64) 46 ((w24.setCell ⟨gb232, 0, none⟩ (.slice Ao25 t228.length co25)).setCell ⟨gb232, 1, none⟩ (.bool t231)) w.heap.size (fun k_ => k_ ≠ gb227 ∧ k_ ≠ gb232) (.slice Ao25 t228.length co25) t228) := ⟨by (with_reducible repeat (first | apply Kd.V_alloc | apply Kd.V_drewN | apply Kd.V_drew)); exact Kd.V_mono (Kd.V_far (p := ⟨gb232, 1, none⟩) (Kd.V_far (p := ⟨gb232, 0, none⟩) (Kd.V_mono HO230.out (fun k_ hk => (⟨hk, hk.2⟩ : _ ∧ k_ ≠ gb232))) (fun _ hk => hk.2) (.slice Ao25 t228.length co25)) (fun _ hk => hk.2) (.bool t231)) (fun _ hk => ⟨hk.1.1, hk.1.2⟩)⟩
    have n2_ : Aside0 (((w24.setCell ⟨gb232, 0, none⟩ (.slice Ao25 t228.length co25)).setCell ⟨gb232, 1, none⟩ (.bool t231)).heap[gb227]? = some (.cells #[.slice Ao21 t223.length co21, .bool t226] 37 (0, 0))) := ⟨by (with_reducible repeat (first | apply kb1 | apply kb2 | apply kb3 | refine kb4 ?_ NB227_232.out _)); exact BK227.out⟩
    have n3_ : Aside0 (((w24.setCell ⟨gb232, 0, none⟩ (.slice Ao25 t228.length co25)).setCell ⟨gb232, 1, none⟩ (.bool t231)).heap[gb232]? = some (.cells #[.slice Ao25 t228.length co25, .bool t231] 37 (0, 0))) := ⟨by (with_reducible repeat (first | apply kb1 | apply kb2 | apply kb3 | apply blkPut2_1 | apply blkPut2_0)); exact BK232.out⟩
    have n4_ : Aside0 (Below w.heap.size w ((w24.setCell ⟨gb232, 0, none⟩ (.slice Ao25 t228.length co25)).setCell ⟨gb232, 1, none⟩ (.bool t231))) := ⟨by repeat (first | (with_reducible first | exact HB.out | apply kc1 | apply kc2 | apply kc3 | refine kc4 ?_ GE227.out | refine kc4 ?_ GE232.out) | exact HB.out)⟩
    (try clear HO225)
    (try clear HO230)
    (try clear BK227)
    (try clear BK232)
    (try clear HB)
    generalize ((w24.setCell ⟨gb232, 0, none⟩ (.slice Ao25 t228.length co25)).setCell ⟨gb232, 1, none⟩ (.bool t231)) = w28 at n0_ n1_ n2_ n3_ n4_ ⊢
    have HO225 := n0_
    have HO230 := n1_
    have BK227 := n2_
    have BK232 := n3_
    have HB := n4_
    clear n0_ n1_ n2_ n3_ n4_
    (try (rw [drewN_self w28]; generalize hq_ : World.drewN w28 _ = w28; have n0_ : Aside0 (Kd.V (Kd.int .u64) 46 w28 w.heap.size (fun k_ => k_ ≠ gb227 ∧ k_ ≠ gb232) (.slice Ao21 t223.length co21) t223) := ⟨by rw [← hq_]; exact (by (with_reducible repeat (first | apply Kd.V_alloc | apply Kd.V_drewN | apply Kd.V_drew)); exact HO225.out)⟩; have n1_ : Aside0 (Kd.V (Kd.int .u64) 46 w28 w.heap.size (fun k_ => k_ ≠ gb227 ∧ k_ ≠ gb232) (.slice Ao25 t228.length co25) t228) := ⟨by rw [← hq_]; exact (by (with_reducible repeat (first | apply Kd.V_alloc | apply Kd.V_drewN | apply Kd.V_drew)); exact HO230.out)⟩; have n2_ : Aside0 (w28.heap[gb227]? = some (.cells #[.slice Ao21 t223.length co21, .bool t226] 37 (0, 0))) := ⟨by rw [← hq_]; exact (kz BK227.out)⟩; have n3_ : Aside0 (w28.heap[gb232]? = some (.cells #[.slice Ao25 t228.length co25, .bool t231] 37 (0, 0))) := ⟨by rw [← hq_]; exact (kz BK232.out)⟩; have n4_ : Aside0 (Below w.heap.size w w28) := ⟨by rw [← hq_]; exact (kw HB.out)⟩; clear HO225 HO230 BK227 BK232 HB hq_; have HO225 := n0_; have HO230 := n1_; have BK227 := n2_; have BK232 := n3_; have HB := n4_; clear n0_ n1_ n2_ n3_ n4_))
    have n0_ := ka (Kd.V_drew HO225.out)
    have n1_ := ka (Kd.V_drew HO230.out)
    have n2_ := ka (blk_drew BK227.out)
    have n3_ := ka (blk_drew BK232.out)
    have n4_ := ka (below_drew1 HB.out)
    clear HO225
    clear HO230
    clear BK227
    clear BK232
    clear HB
    have HO225 := n0_
    have HO230 := n1_
    have BK227 := n2_
    have BK232 := n3_
    have HB := n4_
    clear n0_ n1_ n2_ n3_ n4_
    refine start_ (n := 27) (S := fun w' => w'.cell? ⟨gb227, 0, none⟩ = some (.slice Ao21 t223.length co21) ∧ w'.cell? ⟨gb227, 1, none⟩ = some (.bool t226) ∧ w'.cell? ⟨gb232, 0, none⟩ = some (.slice Ao25 t228.length co25) ∧ w'.cell? ⟨gb232, 1, none⟩ = some (.bool t231)) (ds := []) #[false, false, false, false, false, false, false, false, false, false, false, false, false, false, false, false, false, false, false, false, false, false, false, false, false, false, false] (by kernel_rfl) rfl rfl ⟨(blk_cell BK227.out 0).trans rfl, (blk_cell BK227.out 1).trans rfl, (blk_cell BK232.out 0).trans rfl, (blk_cell BK232.out 1).trans rfl⟩ (fun hHeld => ?_); refine with_tabW trivetlaw01_CentsTwo.tab7 trivetlaw01_CentsTwo.bits7 (fun HT_ HW_ => ?_)
    generalize w28.drew = w29 at HO225 HO230 BK227 BK232 HB hHeld ⊢
    refine pure_ (i := 0) (N := some 37) (v := ?_) (a' := ?_) #[true, false, false, false, false, false, false, false, false, false, false, false, false, false, false, false, false, false, false, false, false, false, false, false, false, false, false] rfl rfl (any_of HT_.out (by kernel_rfl)) (fun _ _ _ h => h) (Or.inl ⟨by rfl, ?_⟩) ?_ ?_
    rotate_left
    ·intro w'
     go_simp
     with_reducible rfl
    rotate_left
    ·simp only [Act.put, List.setIfInBounds_toArray, List.set_cons_zero, List.set_cons_succ, i64_w, i32_w]
     rfl
    refine pure_ (i := 1) (N := some 38) (v := ?_) (a' := ?_) #[true, true, false, false, false, false, false, false, false, false, false, false, false, false, false, false, false, false, false, false, false, false, false, false, false, false, false] rfl rfl (any_of HT_.out (by kernel_rfl)) (fun _ _ _ h => h) (Or.inl ⟨by rfl, ?_⟩) ?_ ?_
    rotate_left
    ·intro w'
     go_simp
     with_reducible rfl
    rotate_left
    ·simp only [Act.put, List.setIfInBounds_toArray, List.set_cons_zero, List.set_cons_succ, i64_w, i32_w]
     rfl
    refine pure_ (i := 2) (N := some 39) (v := ?_) (a' := ?_) #[true, true, true, false, false, false, false, false, false, false, false, false, false, false, false, false, false, false, false, false, false, false, false, false, false, false, false] rfl rfl (any_of HT_.out (by kernel_rfl)) (fun _ _ _ h => h) (Or.inl ⟨by rfl, ?_⟩) ?_ ?_
    rotate_left
    ·intro w'
     go_simp
     with_reducible rfl
    rotate_left
    ·simp only [Act.put, List.setIfInBounds_toArray, List.set_cons_zero, List.set_cons_succ, i64_w, i32_w]
     rfl
    refine pure_ (i := 3) (N := some 40) (v := ?_) (a' := ?_) #[true, true, true, true, false, false, false, false, false, false, false, false, false, false, false, false, false, false, false, false, false, false, false, false, false, false, false] rfl rfl (any_of HT_.out (by kernel_rfl)) (fun _ _ _ h => h) (Or.inl ⟨by rfl, ?_⟩) ?_ ?_
    rotate_left
    ·intro w'
     go_simp
     with_reducible rfl
    rotate_left
    ·simp only [Act.put, List.setIfInBounds_toArray, List.set_cons_zero, List.set_cons_succ, i64_w, i32_w]
     rfl
    refine take_ (i := 4) (N := some 41) (v := ?_) (a' := ?_) #[true, true, true, true, true, false, false, false, false, false, false, false, false, false, false, false, false, false, false, false, false, false, false, false, false, false, false] rfl rfl (take_ofW HT_.out HW_.out (by kernel_rfl)) (fun _ _ _ h => h) (Or.inl ⟨by rfl, ?_⟩) hHeld ?_ ?_
    rotate_left
    ·rintro w' ⟨s0, s1, s2, s3⟩
     go_simp
     with_reducible rfl
    rotate_left
    ·simp only [Act.put, List.setIfInBounds_toArray, List.set_cons_zero, List.set_cons_succ, i64_w, i32_w]
     rfl
    refine take_ (i := 5) (N := some 42) (v := ?_) (a' := ?_) #[true, true, true, true, true, true, false, false, false, false, false, false, false, false, false, false, false, false, false, false, false, false, false, false, false, false, false] rfl rfl (take_ofW HT_.out HW_.out (by kernel_rfl)) (fun _ _ _ h => h) (Or.inl ⟨by rfl, ?_⟩) hHeld ?_ ?_
    rotate_left
    ·rintro w' ⟨s0, s1, s2, s3⟩
     go_simp
     with_reducible rfl
    rotate_left
    ·simp only [Act.put, List.setIfInBounds_toArray, List.set_cons_zero, List.set_cons_succ, i64_w, i32_w]
     rfl
    refine one_ (i := 6) (N := some 43) #[true, true, true, true, true, true, true, false, false, false, false, false, false, false, false, false, false, false, false, false, false, false, false, false, false, false, false] rfl rfl (one_of HT_.out (by kernel_rfl)) (by decide) (fun K hK => ?_)
    refine goes_ Try.func20 (by kernel_rfl) rfl #[.agg #[.slice Ao21 t223.length co21, .bool t226], .agg #[.slice Ao25 t228.length co25, .bool t231]] (by rfl) rfl rfl (by (try simp only [List.map_toArray, List.map_cons, List.map_nil]); first | done | rfl | (simp only [List.length_drop, List.length_take]; rfl)) ?_
    with_reducible refine (trivetref01_Add.calls k _ _ t223 t226 _ _ t228 t231 t239 t242 _ ?side1 ?side2 ?side3 ?side4 A10.out).mono ?_
    (case side1 => repeat (first | exact (Kd.V_reads' HO225.out).2.2 | (with_reducible refine Kd.C_alloc ?_ _) | (with_reducible refine Kd.C_drewN ?_ _) | (with_reducible refine Kd.C_drew ?_)))
    (case side2 => exact (Kd.V_reads' HO225.out).2.1)
    (case side3 => repeat (first | exact (Kd.V_reads' HO230.out).2.2 | (with_reducible refine Kd.C_alloc ?_ _) | (with_reducible refine Kd.C_drewN ?_ _) | (with_reducible refine Kd.C_drew ?_)))
    (case side4 => exact (Kd.V_reads' HO230.out).2.1)
    rintro e w30 ⟨v240, rfl, ho0, hb⟩
    refine ⟨_, rfl, ?_⟩
    have n0_ := ka (Kd.V_below (by (with_reducible repeat (first | apply Kd.V_alloc | apply Kd.V_drewN | apply Kd.V_drew)); exact HO225.out) hb)
    have n1_ := ka (Kd.V_below (by (with_reducible repeat (first | apply Kd.V_alloc | apply Kd.V_drewN | apply Kd.V_drew)); exact HO230.out) hb)
    have n2_ := ka (Kd.V_lower (Kd.V_mono (ok' := fun k_ => k_ ≠ gb227 ∧ k_ ≠ gb232) ho0 (fun k_ hk_ => ⟨(Kd.freshB (g := gb227) (kz BK227.out) k_ hk_), (Kd.freshB (g := gb232) (kz BK232.out) k_ hk_)⟩)) (below_size (kw HB.out)))
    have n3_ := ka (blk_below (g := gb227) (kz BK227.out) hb)
    have n4_ := ka (blk_below (g := gb232) (kz BK232.out) hb)
    have n5_ := ka (below_step (kw HB.out) hb)
    clear HO225
    clear HO230
    clear BK227
    clear BK232
    clear HB
    have HO225 := n0_
    have HO230 := n1_
    have HO241 := n2_
    have BK227 := n3_
    have BK232 := n4_
    have HB := n5_
    clear n0_ n1_ n2_ n3_ n4_ n5_
    (try clear hb)
    (try clear hb2)
    (try clear hk)
    (try clear hi)
    (try clear ho0)
    obtain ⟨Ao31, co31, eo31⟩ := Kd.V_slice HO241.out
    (first | subst eo31 | (injection eo31 with f1_ f2_ f3_; have f4_ := f1_.symm; have f5_ := f3_.symm; clear f1_ f2_ f3_; subst f4_; subst f5_))
    refine hK.out _ _ ⟨(blk_cell BK227.out 0).trans rfl, (blk_cell BK227.out 1).trans rfl, (blk_cell BK232.out 0).trans rfl, (blk_cell BK232.out 1).trans rfl⟩ (fun hHeld => ?_)
    clear hK K
    refine norm_ (a' := ?_) ?_ ?_
    rotate_left
    ·show Act.put _ (some 43) _ = _
     simp only [Act.put, List.setIfInBounds_toArray, List.set_cons_zero, List.set_cons_succ, i64_w, i32_w]
     rfl
    refine one_ (i := 7) (N := some 44) #[true, true, true, true, true, true, true, true, false, false, false, false, false, false, false, false, false, false, false, false, false, false, false, false, false, false, false] rfl rfl (one_of HT_.out (by kernel_rfl)) (by decide) (fun K hK => ?_)
    refine goes_ Try.func19 (by kernel_rfl) rfl #[.int .i64 t233, errW t234, .agg #[.slice Ao31 t239.length co31, .bool t242]] (by rfl) rfl rfl (by (try simp only [List.map_toArray, List.map_cons, List.map_nil]); first | done | rfl | (simp only [List.length_drop, List.length_take]; rfl)) ?_
    with_reducible refine (trivetlaw01_told.calls k t233 t234 _ _ t239 t242 true _ ?side1 ?side2 A11.out).mono ?_
    (case side1 => repeat (first | exact (Kd.V_reads' HO241.out).2.2 | (with_reducible refine Kd.C_alloc ?_ _) | (with_reducible refine Kd.C_drewN ?_ _) | (with_reducible refine Kd.C_drew ?_)))
    (case side2 => exact (Kd.V_reads' HO241.out).2.1)
    rintro e w32 ⟨rfl, hb⟩
    refine ⟨_, rfl, ?_⟩
    have n0_ := ka (Kd.V_below (by (with_reducible repeat (first | apply Kd.V_alloc | apply Kd.V_drewN | apply Kd.V_drew)); exact HO225.out) hb)
    have n1_ := ka (Kd.V_below (by (with_reducible repeat (first | apply Kd.V_alloc | apply Kd.V_drewN | apply Kd.V_drew)); exact HO230.out) hb)
    have n2_ := ka (Kd.V_below (by (with_reducible repeat (first | apply Kd.V_alloc | apply Kd.V_drewN | apply Kd.V_drew)); exact HO241.out) hb)
    have n3_ := ka (blk_below (g := gb227) (kz BK227.out) hb)
    have n4_ := ka (blk_below (g := gb232) (kz BK232.out) hb)
    have n5_ := ka (below_step (kw HB.out) hb)
    clear HO225
    clear HO230
    clear HO241
    clear BK227
    clear BK232
    clear HB
    have HO225 := n0_
    have HO230 := n1_
    have HO241 := n2_
    have BK227 := n3_
    have BK232 := n4_
    have HB := n5_
    clear n0_ n1_ n2_ n3_ n4_ n5_
    (try clear hb)
    (try clear hb2)
    (try clear hk)
    (try clear hi)
    refine hK.out _ _ ⟨(blk_cell BK227.out 0).trans rfl, (blk_cell BK227.out 1).trans rfl, (blk_cell BK232.out 0).trans rfl, (blk_cell BK232.out 1).trans rfl⟩ (fun hHeld => ?_)
    clear hK K
    refine norm_ (a' := ?_) ?_ ?_
    rotate_left
    ·show Act.put _ (some 44) _ = _
     simp only [Act.put, List.setIfInBounds_toArray, List.set_cons_zero, List.set_cons_succ, i64_w, i32_w]
     rfl
    refine pure_ (i := 8) (N := some 45) (v := ?_) (a' := ?_) #[true, true, true, true, true, true, true, true, true, false, false, false, false, false, false, false, false, false, false, false, false, false, false, false, false, false, false] rfl rfl (any_of HT_.out (by kernel_rfl)) (fun _ _ _ h => h) (Or.inl ⟨by rfl, ?_⟩) ?_ ?_
    rotate_left
    ·intro w'
     go_simp
     with_reducible rfl
    rotate_left
    ·simp only [Act.put, List.setIfInBounds_toArray, List.set_cons_zero, List.set_cons_succ, i64_w, i32_w]
     rfl
    refine pure_ (i := 9) (N := some 46) (v := ?_) (a' := ?_) #[true, true, true, true, true, true, true, true, true, true, false, false, false, false, false, false, false, false, false, false, false, false, false, false, false, false, false] rfl rfl (any_of HT_.out (by kernel_rfl)) (fun _ _ _ h => h) (Or.inl ⟨by rfl, ?_⟩) ?_ ?_
    rotate_left
    ·intro w'
     go_simp
     with_reducible rfl
    rotate_left
    ·simp only [Act.put, List.setIfInBounds_toArray, List.set_cons_zero, List.set_cons_succ, i64_w, i32_w]
     rfl
    refine pure_ (i := 10) (N := some 47) (v := ?_) (a' := ?_) #[true, true, true, true, true, true, true, true, true, true, true, false, false, false, false, false, false, false, false, false, false, false, false, false, false, false, false] rfl rfl (any_of HT_.out (by kernel_rfl)) (fun _ _ _ h => h) (Or.inl ⟨by rfl, ?_⟩) ?_ ?_
    rotate_left
    ·intro w'
     go_simp
     with_reducible rfl
    rotate_left
    ·simp only [Act.put, List.setIfInBounds_toArray, List.set_cons_zero, List.set_cons_succ, i64_w, i32_w]
     rfl
    refine pure_ (i := 11) (N := some 48) (v := ?_) (a' := ?_) #[true, true, true, true, true, true, true, true, true, true, true, true, false, false, false, false, false, false, false, false, false, false, false, false, false, false, false] rfl rfl (any_of HT_.out (by kernel_rfl)) (fun _ _ _ h => h) (Or.inl ⟨by rfl, ?_⟩) ?_ ?_
    rotate_left
    ·intro w'
     go_simp
     with_reducible rfl
    rotate_left
    ·simp only [Act.put, List.setIfInBounds_toArray, List.set_cons_zero, List.set_cons_succ, i64_w, i32_w]
     rfl
    refine take_ (i := 12) (N := some 49) (v := ?_) (a' := ?_) #[true, true, true, true, true, true, true, true, true, true, true, true, true, false, false, false, false, false, false, false, false, false, false, false, false, false, false] rfl rfl (take_ofW HT_.out HW_.out (by kernel_rfl)) (fun _ _ _ h => h) (Or.inl ⟨by rfl, ?_⟩) hHeld ?_ ?_
    rotate_left
    ·rintro w' ⟨s0, s1, s2, s3⟩
     go_simp
     with_reducible rfl
    rotate_left
    ·simp only [Act.put, List.setIfInBounds_toArray, List.set_cons_zero, List.set_cons_succ, i64_w, i32_w]
     rfl
    refine take_ (i := 13) (N := some 50) (v := ?_) (a' := ?_) #[true, true, true, true, true, true, true, true, true, true, true, true, true, true, false, false, false, false, false, false, false, false, false, false, false, false, false] rfl rfl (take_ofW HT_.out HW_.out (by kernel_rfl)) (fun _ _ _ h => h) (Or.inl ⟨by rfl, ?_⟩) hHeld ?_ ?_
    rotate_left
    ·rintro w' ⟨s0, s1, s2, s3⟩
     go_simp
     with_reducible rfl
    rotate_left
    ·simp only [Act.put, List.setIfInBounds_toArray, List.set_cons_zero, List.set_cons_succ, i64_w, i32_w]
     rfl
    refine one_ (i := 14) (N := some 51) #[true, true, true, true, true, true, true, true, true, true, true, true, true, true, true, false, false, false, false, false, false, false, false, false, false, false, false] rfl rfl (one_of HT_.out (by kernel_rfl)) (by decide) (fun K hK => ?_)
    refine goes_ Try.func21 (by kernel_rfl) rfl #[.agg #[.slice Ao25 t228.length co25, .bool t231]] (by rfl) rfl rfl (by (try simp only [List.map_toArray, List.map_cons, List.map_nil]); first | done | rfl | (simp only [List.length_drop, List.length_take]; rfl)) ?_
    with_reducible refine (trivetref01_Neg.calls k (fun k_ => (k_ ≠ gb227 ∧ k_ ≠ gb232)) _ _ t228 t231 t244 t247 _ ?side1 A13.out).mono ?_
    (case side1 => exact HO230.out)
    rintro e w33 ⟨v245, rfl, ho0, hb⟩
    refine ⟨_, rfl, ?_⟩
    have n0_ := ka (Kd.V_below (by (with_reducible repeat (first | apply Kd.V_alloc | apply Kd.V_drewN | apply Kd.V_drew)); exact HO225.out) hb)
    have n1_ := ka (Kd.V_below (by (with_reducible repeat (first | apply Kd.V_alloc | apply Kd.V_drewN | apply Kd.V_drew)); exact HO230.out) hb)
    have n2_ := ka (Kd.V_below (by (with_reducible repeat (first | apply Kd.V_alloc | apply Kd.V_drewN | apply Kd.V_drew)); exact HO241.out) hb)
    have n3_ := ka (Kd.V_lower (Kd.V_mono (ok' := fun k_ => k_ ≠ gb227 ∧ k_ ≠ gb232) ho0 (fun k_ hk_ => ⟨Or.elim hk_ (fun hs_ => hs_.1) (fun hn_ => (Kd.freshB (g := gb227) (kz BK227.out) k_ hn_)), Or.elim hk_ (fun hs_ => hs_.2) (fun hn_ => (Kd.freshB (g := gb232) (kz BK232.out) k_ hn_))⟩)) (below_size (kw HB.out)))
    have n4_ := ka (blk_below (g := gb227) (kz BK227.out) hb)
    have n5_ := ka (blk_below (g := gb232) (kz BK232.out) hb)
    have n6_ := ka (below_step (kw HB.out) hb)
    clear HO225
    clear HO230
    clear HO241
    clear BK227
    clear BK232
    clear HB
    have HO225 := n0_
    have HO230 := n1_
    have HO241 := n2_
    have HO246 := n3_
    have BK227 := n4_
    have BK232 := n5_
    have HB := n6_
    clear n0_ n1_ n2_ n3_ n4_ n5_ n6_
    (try clear hb)
    (try clear hb2)
    (try clear hk)
    (try clear hi)
    (try clear ho0)
    obtain ⟨Ao34, co34, eo34⟩ := Kd.V_slice HO246.out
    (first | subst eo34 | (injection eo34 with f1_ f2_ f3_; have f4_ := f1_.symm; have f5_ := f3_.symm; clear f1_ f2_ f3_; subst f4_; subst f5_))
    refine hK.out _ _ ⟨(blk_cell BK227.out 0).trans rfl, (blk_cell BK227.out 1).trans rfl, (blk_cell BK232.out 0).trans rfl, (blk_cell BK232.out 1).trans rfl⟩ (fun hHeld => ?_)
    clear hK K
    refine norm_ (a' := ?_) ?_ ?_
    rotate_left
    ·show Act.put _ (some 51) _ = _
     simp only [Act.put, List.setIfInBounds_toArray, List.set_cons_zero, List.set_cons_succ, i64_w, i32_w]
     rfl
    refine one_ (i := 15) (N := some 52) #[true, true, true, true, true, true, true, true, true, true, true, true, true, true, true, true, false, false, false, false, false, false, false, false, false, false, false] rfl rfl (one_of HT_.out (by kernel_rfl)) (by decide) (fun K hK => ?_)
    refine goes_ Try.func20 (by kernel_rfl) rfl #[.agg #[.slice Ao21 t223.length co21, .bool t226], .agg #[.slice Ao34 t244.length co34, .bool t247]] (by rfl) rfl rfl (by (try simp only [List.map_toArray, List.map_cons, List.map_nil]); first | done | rfl | (simp only [List.length_drop, List.length_take]; rfl)) ?_
    with_reducible refine (trivetref01_Add.calls k _ _ t223 t226 _ _ t244 t247 t248 t251 _ ?side1 ?side2 ?side3 ?side4 A14.out).mono ?_
    (case side1 => repeat (first | exact (Kd.V_reads' HO225.out).2.2 | (with_reducible refine Kd.C_alloc ?_ _) | (with_reducible refine Kd.C_drewN ?_ _) | (with_reducible refine Kd.C_drew ?_)))
    (case side2 => exact (Kd.V_reads' HO225.out).2.1)
    (case side3 => repeat (first | exact (Kd.V_reads' HO246.out).2.2 | (with_reducible refine Kd.C_alloc ?_ _) | (with_reducible refine Kd.C_drewN ?_ _) | (with_reducible refine Kd.C_drew ?_)))
    (case side4 => exact (Kd.V_reads' HO246.out).2.1)
    rintro e w35 ⟨v249, rfl, ho0, hb⟩
    refine ⟨_, rfl, ?_⟩
    have n0_ := ka (Kd.V_below (by (with_reducible repeat (first | apply Kd.V_alloc | apply Kd.V_drewN | apply Kd.V_drew)); exact HO225.out) hb)
    have n1_ := ka (Kd.V_below (by (with_reducible repeat (first | apply Kd.V_alloc | apply Kd.V_drewN | apply Kd.V_drew)); exact HO230.out) hb)
    have n2_ := ka (Kd.V_below (by (with_reducible repeat (first | apply Kd.V_alloc | apply Kd.V_drewN | apply Kd.V_drew)); exact HO241.out) hb)
    have n3_ := ka (Kd.V_below (by (with_reducible repeat (first | apply Kd.V_alloc | apply Kd.V_drewN | apply Kd.V_drew)); exact HO246.out) hb)
    have n4_ := ka (Kd.V_lower (Kd.V_mono (ok' := fun k_ => k_ ≠ gb227 ∧ k_ ≠ gb232) ho0 (fun k_ hk_ => ⟨(Kd.freshB (g := gb227) (kz BK227.out) k_ hk_), (Kd.freshB (g := gb232) (kz BK232.out) k_ hk_)⟩)) (below_size (kw HB.out)))
    have n5_ := ka (blk_below (g := gb227) (kz BK227.out) hb)
    have n6_ := ka (blk_below (g := gb232) (kz BK232.out) hb)
    have n7_ := ka (below_step (kw HB.out) hb)
    clear HO225
    clear HO230
    clear HO241
    clear HO246
    clear BK227
    clear BK232
    clear HB
    have HO225 := n0_
    have HO230 := n1_
    have HO241 := n2_
    have HO246 := n3_
    have HO250 := n4_
    have BK227 := n5_
    have BK232 := n6_
    have HB := n7_
    clear n0_ n1_ n2_ n3_ n4_ n5_ n6_ n7_
    (try clear hb)
    (try clear hb2)
    (try clear hk)
    (try clear hi)
    (try clear ho0)
    obtain ⟨Ao36, co36, eo36⟩ := Kd.V_slice HO250.out
    (first | subst eo36 | (injection eo36 with f1_ f2_ f3_; have f4_ := f1_.symm; have f5_ := f3_.symm; clear f1_ f2_ f3_; subst f4_; subst f5_))
    refine hK.out _ _ ⟨(blk_cell BK227.out 0).trans rfl, (blk_cell BK227.out 1).trans rfl, (blk_cell BK232.out 0).trans rfl, (blk_cell BK232.out 1).trans rfl⟩ (fun hHeld => ?_)
    clear hK K
    refine norm_ (a' := ?_) ?_ ?_
    rotate_left
    ·show Act.put _ (some 52) _ = _
     simp only [Act.put, List.setIfInBounds_toArray, List.set_cons_zero, List.set_cons_succ, i64_w, i32_w]
     rfl
    refine one_ (i := 16) (N := some 53) #[true, true, true, true, true, true, true, true, true, true, true, true, true, true, true, true, true, false, false, false, false, false, false, false, false, false, false] rfl rfl (one_of HT_.out (by kernel_rfl)) (by decide) (fun K hK => ?_)
    refine goes_ Try.func19 (by kernel_rfl) rfl #[.int .i64 t235, errW t236, .agg #[.slice Ao36 t248.length co36, .bool t251]] (by rfl) rfl rfl (by (try simp only [List.map_toArray, List.map_cons, List.map_nil]); first | done | rfl | (simp only [List.length_drop, List.length_take]; rfl)) ?_
    with_reducible refine (trivetlaw01_told.calls k t235 t236 _ _ t248 t251 true _ ?side1 ?side2 A15.out).mono ?_
    (case side1 => repeat (first | exact (Kd.V_reads' HO250.out).2.2 | (with_reducible refine Kd.C_alloc ?_ _) | (with_reducible refine Kd.C_drewN ?_ _) | (with_reducible refine Kd.C_drew ?_)))
    (case side2 => exact (Kd.V_reads' HO250.out).2.1)
    rintro e w37 ⟨rfl, hb⟩
    refine ⟨_, rfl, ?_⟩
    have n0_ := ka (Kd.V_below (by (with_reducible repeat (first | apply Kd.V_alloc | apply Kd.V_drewN | apply Kd.V_drew)); exact HO225.out) hb)
    have n1_ := ka (Kd.V_below (by (with_reducible repeat (first | apply Kd.V_alloc | apply Kd.V_drewN | apply Kd.V_drew)); exact HO230.out) hb)
    have n2_ := ka (Kd.V_below (by (with_reducible repeat (first | apply Kd.V_alloc | apply Kd.V_drewN | apply Kd.V_drew)); exact HO241.out) hb)
    have n3_ := ka (Kd.V_below (by (with_reducible repeat (first | apply Kd.V_alloc | apply Kd.V_drewN | apply Kd.V_drew)); exact HO246.out) hb)
    have n4_ := ka (Kd.V_below (by (with_reducible repeat (first | apply Kd.V_alloc | apply Kd.V_drewN | apply Kd.V_drew)); exact HO250.out) hb)
    have n5_ := ka (blk_below (g := gb227) (kz BK227.out) hb)
    have n6_ := ka (blk_below (g := gb232) (kz BK232.out) hb)
    have n7_ := ka (below_step (kw HB.out) hb)
    clear HO225
    clear HO230
    clear HO241
    clear HO246
    clear HO250
    clear BK227
    clear BK232
    clear HB
    have HO225 := n0_
    have HO230 := n1_
    have HO241 := n2_
    have HO246 := n3_
    have HO250 := n4_
    have BK227 := n5_
    have BK232 := n6_
    have HB := n7_
    clear n0_ n1_ n2_ n3_ n4_ n5_ n6_ n7_
    (try clear hb)
    (try clear hb2)
    (try clear hk)
    (try clear hi)
    refine hK.out _ _ ⟨(blk_cell BK227.out 0).trans rfl, (blk_cell BK227.out 1).trans rfl, (blk_cell BK232.out 0).trans rfl, (blk_cell BK232.out 1).trans rfl⟩ (fun hHeld => ?_)
    clear hK K
    refine norm_ (a' := ?_) ?_ ?_
    rotate_left
    ·show Act.put _ (some 53) _ = _
     simp only [Act.put, List.setIfInBounds_toArray, List.set_cons_zero, List.set_cons_succ, i64_w, i32_w]
     rfl
    refine pure_ (i := 17) (N := some 54) (v := ?_) (a' := ?_) #[true, true, true, true, true, true, true, true, true, true, true, true, true, true, true, true, true, true, false, false, false, false, false, false, false, false, false] rfl rfl (any_of HT_.out (by kernel_rfl)) (fun _ _ _ h => h) (Or.inl ⟨by rfl, ?_⟩) ?_ ?_
    rotate_left
    ·intro w'
     go_simp
     with_reducible rfl
    rotate_left
    ·simp only [Act.put, List.setIfInBounds_toArray, List.set_cons_zero, List.set_cons_succ, i64_w, i32_w]
     rfl
    refine pure_ (i := 18) (N := some 55) (v := ?_) (a' := ?_) #[true, true, true, true, true, true, true, true, true, true, true, true, true, true, true, true, true, true, true, false, false, false, false, false, false, false, false] rfl rfl (any_of HT_.out (by kernel_rfl)) (fun _ _ _ h => h) (Or.inl ⟨by rfl, ?_⟩) ?_ ?_
    rotate_left
    ·intro w'
     go_simp
     with_reducible rfl
    rotate_left
    ·simp only [Act.put, List.setIfInBounds_toArray, List.set_cons_zero, List.set_cons_succ, i64_w, i32_w]
     rfl
    refine pure_ (i := 19) (N := some 56) (v := ?_) (a' := ?_) #[true, true, true, true, true, true, true, true, true, true, true, true, true, true, true, true, true, true, true, true, false, false, false, false, false, false, false] rfl rfl (any_of HT_.out (by kernel_rfl)) (fun _ _ _ h => h) (Or.inl ⟨by rfl, ?_⟩) ?_ ?_
    rotate_left
    ·intro w'
     go_simp
     with_reducible rfl
    rotate_left
    ·simp only [Act.put, List.setIfInBounds_toArray, List.set_cons_zero, List.set_cons_succ, i64_w, i32_w]
     rfl
    refine pure_ (i := 20) (N := some 57) (v := ?_) (a' := ?_) #[true, true, true, true, true, true, true, true, true, true, true, true, true, true, true, true, true, true, true, true, true, false, false, false, false, false, false] rfl rfl (any_of HT_.out (by kernel_rfl)) (fun _ _ _ h => h) (Or.inl ⟨by rfl, ?_⟩) ?_ ?_
    rotate_left
    ·intro w'
     go_simp
     with_reducible rfl
    rotate_left
    ·simp only [Act.put, List.setIfInBounds_toArray, List.set_cons_zero, List.set_cons_succ, i64_w, i32_w]
     rfl
    refine take_ (i := 21) (N := some 58) (v := ?_) (a' := ?_) #[true, true, true, true, true, true, true, true, true, true, true, true, true, true, true, true, true, true, true, true, true, true, false, false, false, false, false] rfl rfl (take_ofW HT_.out HW_.out (by kernel_rfl)) (fun _ _ _ h => h) (Or.inl ⟨by rfl, ?_⟩) hHeld ?_ ?_
    rotate_left
    ·rintro w' ⟨s0, s1, s2, s3⟩
     go_simp
     with_reducible rfl
    rotate_left
    ·simp only [Act.put, List.setIfInBounds_toArray, List.set_cons_zero, List.set_cons_succ, i64_w, i32_w]
     rfl
    refine take_ (i := 22) (N := some 59) (v := ?_) (a' := ?_) #[true, true, true, true, true, true, true, true, true, true, true, true, true, true, true, true, true, true, true, true, true, true, true, false, false, false, false] rfl rfl (take_ofW HT_.out HW_.out (by kernel_rfl)) (fun _ _ _ h => h) (Or.inl ⟨by rfl, ?_⟩) hHeld ?_ ?_
    rotate_left
    ·rintro w' ⟨s0, s1, s2, s3⟩
     go_simp
     with_reducible rfl
    rotate_left
    ·simp only [Act.put, List.setIfInBounds_toArray, List.set_cons_zero, List.set_cons_succ, i64_w, i32_w]
     rfl
    refine one_ (i := 23) (N := some 60) #[true, true, true, true, true, true, true, true, true, true, true, true, true, true, true, true, true, true, true, true, true, true, true, true, false, false, false] rfl rfl (one_of HT_.out (by kernel_rfl)) (by decide) (fun K hK => ?_)
    refine goes_ Try.func22 (by kernel_rfl) rfl #[.agg #[.slice Ao21 t223.length co21, .bool t226], .agg #[.slice Ao25 t228.length co25, .bool t231]] (by rfl) rfl rfl (by (try simp only [List.map_toArray, List.map_cons, List.map_nil]); first | done | rfl | (simp only [List.length_drop, List.length_take]; rfl)) ?_
    with_reducible refine (trivetref01_Mul.calls k _ _ t223 t226 _ _ t228 t231 t253 t256 _ ?side1 ?side2 ?side3 ?side4 A17.out).mono ?_
    (case side1 => repeat (first | exact (Kd.V_reads' HO225.out).2.2 | (with_reducible refine Kd.C_alloc ?_ _) | (with_reducible refine Kd.C_drewN ?_ _) | (with_reducible refine Kd.C_drew ?_)))
    (case side2 => exact (Kd.V_reads' HO225.out).2.1)
    (case side3 => repeat (first | exact (Kd.V_reads' HO230.out).2.2 | (with_reducible refine Kd.C_alloc ?_ _) | (with_reducible refine Kd.C_drewN ?_ _) | (with_reducible refine Kd.C_drew ?_)))
    (case side4 => exact (Kd.V_reads' HO230.out).2.1)
    rintro e w38 ⟨v254, rfl, ho0, hb⟩
    refine ⟨_, rfl, ?_⟩
    have n0_ := ka (Kd.V_below (by (with_reducible repeat (first | apply Kd.V_alloc | apply Kd.V_drewN | apply Kd.V_drew)); exact HO225.out) hb)
    have n1_ := ka (Kd.V_below (by (with_reducible repeat (first | apply Kd.V_alloc | apply Kd.V_drewN | apply Kd.V_drew)); exact HO230.out) hb)
    have n2_ := ka (Kd.V_below (by (with_reducible repeat (first | apply Kd.V_alloc | apply Kd.V_drewN | apply Kd.V_drew)); exact HO241.out) hb)
    have n3_ := ka (Kd.V_below (by (with_reducible repeat (first | apply Kd.V_alloc | apply Kd.V_drewN | apply Kd.V_drew)); exact HO246.out) hb)
    have n4_ := ka (Kd.V_below (by (with_reducible repeat (first | apply Kd.V_alloc | apply Kd.V_drewN | apply Kd.V_drew)); exact HO250.out) hb)
    have n5_ := ka (Kd.V_lower (Kd.V_mono (ok' := fun k_ => k_ ≠ gb227 ∧ k_ ≠ gb232) ho0 (fun k_ hk_ => ⟨(Kd.freshB (g := gb227) (kz BK227.out) k_ hk_), (Kd.freshB (g := gb232) (kz BK232.out) k_ hk_)⟩)) (below_size (kw HB.out)))
    have n6_ := ka (blk_below (g := gb227) (kz BK227.out) hb)
    have n7_ := ka (blk_below (g := gb232) (kz BK232.out) hb)
    have n8_ := ka (below_step (kw HB.out) hb)
    clear HO225
    clear HO230
    clear HO241
    clear HO246
    clear HO250
    clear BK227
    clear BK232
    clear HB
    have HO225 := n0_
    have HO230 := n1_
    have HO241 := n2_
    have HO246 := n3_
    have HO250 := n4_
    have HO255 := n5_
    have BK227 := n6_
    have BK232 := n7_
    have HB := n8_
    clear n0_ n1_ n2_ n3_ n4_ n5_ n6_ n7_ n8_
    (try clear hb)
    (try clear hb2)
    (try clear hk)
    (try clear hi)
    (try clear ho0)
    obtain ⟨Ao39, co39, eo39⟩ := Kd.V_slice HO255.out
    (first | subst eo39 | (injection eo39 with f1_ f2_ f3_; have f4_ := f1_.symm; have f5_ := f3_.symm; clear f1_ f2_ f3_; subst f4_; subst f5_))
    refine hK.out _ _ ⟨(blk_cell BK227.out 0).trans rfl, (blk_cell BK227.out 1).trans rfl, (blk_cell BK232.out 0).trans rfl, (blk_cell BK232.out 1).trans rfl⟩ (fun hHeld => ?_)
    clear hK K
    refine norm_ (a' := ?_) ?_ ?_
    rotate_left
    ·show Act.put _ (some 60) _ = _
     simp only [Act.put, List.setIfInBounds_toArray, List.set_cons_zero, List.set_cons_succ, i64_w, i32_w]
     rfl
    refine one_ (i := 24) (N := some 61) #[true, true, true, true, true, true, true, true, true, true, true, true, true, true, true, true, true, true, true, true, true, true, true, true, true, false, false] rfl rfl (one_of HT_.out (by kernel_rfl)) (by decide) (fun K hK => ?_)
    refine goes_ Try.func19 (by kernel_rfl) rfl #[.int .i64 t237, errW t238, .agg #[.slice Ao39 t253.length co39, .bool t256]] (by rfl) rfl rfl (by (try simp only [List.map_toArray, List.map_cons, List.map_nil]); first | done | rfl | (simp only [List.length_drop, List.length_take]; rfl)) ?_
    with_reducible refine (trivetlaw01_told.calls k t237 t238 _ _ t253 t256 t257 _ ?side1 ?side2 A18.out).mono ?_
    (case side1 => repeat (first | exact (Kd.V_reads' HO255.out).2.2 | (with_reducible refine Kd.C_alloc ?_ _) | (with_reducible refine Kd.C_drewN ?_ _) | (with_reducible refine Kd.C_drew ?_)))
    (case side2 => exact (Kd.V_reads' HO255.out).2.1)
    rintro e w40 ⟨rfl, hb⟩
    refine ⟨_, rfl, ?_⟩
    have n0_ := ka (Kd.V_below (by (with_reducible repeat (first | apply Kd.V_alloc | apply Kd.V_drewN | apply Kd.V_drew)); exact HO225.out) hb)
    have n1_ := ka (Kd.V_below (by (with_reducible repeat (first | apply Kd.V_alloc | apply Kd.V_drewN | apply Kd.V_drew)); exact HO230.out) hb)
    have n2_ := ka (Kd.V_below (by (with_reducible repeat (first | apply Kd.V_alloc | apply Kd.V_drewN | apply Kd.V_drew)); exact HO241.out) hb)
    have n3_ := ka (Kd.V_below (by (with_reducible repeat (first | apply Kd.V_alloc | apply Kd.V_drewN | apply Kd.V_drew)); exact HO246.out) hb)
    have n4_ := ka (Kd.V_below (by (with_reducible repeat (first | apply Kd.V_alloc | apply Kd.V_drewN | apply Kd.V_drew)); exact HO250.out) hb)
    have n5_ := ka (Kd.V_below (by (with_reducible repeat (first | apply Kd.V_alloc | apply Kd.V_drewN | apply Kd.V_drew)); exact HO255.out) hb)
    have n6_ := ka (blk_below (g := gb227) (kz BK227.out) hb)
    have n7_ := ka (blk_below (g := gb232) (kz BK232.out) hb)
    have n8_ := ka (below_step (kw HB.out) hb)
    clear HO225
    clear HO230
    clear HO241
    clear HO246
    clear HO250
    clear HO255
    clear BK227
    clear BK232
    clear HB
    have HO225 := n0_
    have HO230 := n1_
    have HO241 := n2_
    have HO246 := n3_
    have HO250 := n4_
    have HO255 := n5_
    have BK227 := n6_
    have BK232 := n7_
    have HB := n8_
    clear n0_ n1_ n2_ n3_ n4_ n5_ n6_ n7_ n8_
    (try clear hb)
    (try clear hb2)
    (try clear hk)
    (try clear hi)
    refine hK.out _ _ ⟨(blk_cell BK227.out 0).trans rfl, (blk_cell BK227.out 1).trans rfl, (blk_cell BK232.out 0).trans rfl, (blk_cell BK232.out 1).trans rfl⟩ (fun hHeld => ?_)
    clear hK K
    refine norm_ (a' := ?_) ?_ ?_
    rotate_left
    ·show Act.put _ (some 61) _ = _
     simp only [Act.put, List.setIfInBounds_toArray, List.set_cons_zero, List.set_cons_succ, i64_w, i32_w]
     rfl
    refine pure_ (i := 25) (N := some 62) (v := ?_) (a' := ?_) #[true, true, true, true, true, true, true, true, true, true, true, true, true, true, true, true, true, true, true, true, true, true, true, true, true, true, false] rfl rfl (any_of HT_.out (by kernel_rfl)) (fun _ _ _ h => h) (Or.inl ⟨by rfl, ?_⟩) ?_ ?_
    rotate_left
    ·intro w'
     go_simp
     with_reducible rfl
    rotate_left
    ·simp only [Act.put, List.setIfInBounds_toArray, List.set_cons_zero, List.set_cons_succ, i64_w, i32_w]
     rfl
    refine pure_ (i := 26) (N := some 4) (v := ?_) (a' := ?_) #[true, true, true, true, true, true, true, true, true, true, true, true, true, true, true, true, true, true, true, true, true, true, true, true, true, true, true] rfl rfl (any_of HT_.out (by kernel_rfl)) (fun _ _ _ h => h) (Or.inl ⟨by rfl, ?_⟩) ?_ ?_
    rotate_left
    ·intro w'
     go_simp
     with_reducible rfl
    rotate_left
    ·simp only [Act.put, List.setIfInBounds_toArray, List.set_cons_zero, List.set_cons_succ, i64_w, i32_w]
     rfl
    refine done_ (done_of HT_.out (by kernel_rfl)) ?_
    try go_wp2
    go_ret
    exact ⟨by first | rfl | (simp [errW_none, errW_some] <;> rfl) | (simp [*, errW_none, errW_some] <;> rfl), by repeat (first | (with_reducible first | exact HB.out | apply kc1 | apply kc2 | apply kc3 | refine kc4 ?_ GE227.out | refine kc4 ?_ GE232.out) | exact HB.out)⟩
   ·replace c16 := Bool.eq_false_iff.mpr c16
    subst c16
    have H1 : (none) = some r := by rw [if_neg (show ¬ (false = true) by decide)] at H; exact H
    clear H
    have H := H1
    clear H1
    exact absurd H (by simp)
  ·replace c12 := Bool.eq_false_iff.mpr c12
   subst c12
   have H1 : (none) = some r := by rw [if_neg (show ¬ (false = true) by decide)] at H; exact H
   clear H
   have H := H1
   clear H1
   exact absurd H (by simp)
 ·replace c9 := Bool.eq_false_iff.mpr c9
  subst c9
  have H1 : (none) = some r := by rw [if_neg (show ¬ (false = true) by decide)] at H; exact H
  clear H
  have H := H1
  clear H1
  exact absurd H (by simp)

/-- THE ONE PURE STATEMENT of trivetlaw01_CentsTwo: yours. -/
def trivetlaw01_CentsTwo.Pure : Prop := ∀ (a0 : Int) (a1 : Int), (Lit.int .i64 a0).wf = true → (Lit.int .i64 a1).wf = true → ∃ k, trivetlaw01_CentsTwo.f k a0 a1 = some true
theorem trivetlaw01_CentsTwo.walk (P : trivetlaw01_CentsTwo.Pure) (a0 : Int) (a1 : Int) (w : World) (w0 : (Lit.int .i64 a0).wf = true) (w1 : (Lit.int .i64 a1).wf = true) :
  Calls Try.prog 8 #[.int .i64 a0, .int .i64 a1] w fun e w' => e = .returned (.bool true) ∧ Below w.heap.size w w' := by
 obtain ⟨k, h⟩ := P a0 a1 w0 w1
 refine (trivetlaw01_CentsTwo.calls k a0 a1 true w h).mono ?_
 rintro e w' ⟨rfl, hd⟩
 exact ⟨rfl, hd⟩

end Go.Proofs.Ytdddiahgkpfikaa.P
