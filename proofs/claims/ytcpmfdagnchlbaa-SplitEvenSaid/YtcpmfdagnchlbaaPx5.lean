-- Written by a program of this session out of the translation of the seat: Lean functions and the proofs that the Go functions come to them.
import Derived.Test.YtcpmfdagnchlbaaPx0
import Derived.Test.YtcpmfdagnchlbaaPx4
namespace Go.Proofs.Ytcpmfdagnchlbaa.P
open Go.RowKit Go.Proofs.YtcpmfdagnchlbaaW.PrintWords Go.Proofs.YtcpmfdagnchlbaaW.PrintLast Go.Proofs.YtcpmfdagnchlbaaW.PrintMore
attribute [local go_sem] max2_int min2_int max_two min_two max_three min_three max_four min_four   -- for this text's walks alone
set_option linter.unusedVariables false
set_option linter.unusedSimpArgs false

/-! ### trivetlaw03_SplitEven: function 8 -/
mutual
def trivetlaw03_SplitEven.j0 : Nat → Int → Int → Bool → List Int → Option Int → Bool → Option (Bool)
 | 0, _, _, _, _, _, _ => none
 | k + 1, x0, x1, x5, x6, x7, x30 => if x30 = true then (if x5 = true then (if x7.isNone = true then (none) else (if (x7.getD 0) = 1 then (some ((x6.length : Int) == 0)) else (none))) else (none)) else (if x7.isNone = true then (trivetlaw03_SplitEven.j1 k x0 x1 x5 x6 ((x6.length : Int) != x1)) else (trivetlaw03_SplitEven.j1 k x0 x1 x5 x6 true))
def trivetlaw03_SplitEven.j1 : Nat → Int → Int → Bool → List Int → Bool → Option (Bool)
 | 0, _, _, _, _, _ => none
 | k + 1, x0, x1, x5, x6, x49 => if x49 = true then (none) else (trivetlaw03_SplitEven.l0 k x0 x1 x5 x6 0)
def trivetlaw03_SplitEven.l0 : Nat → Int → Int → Bool → List Int → Int → Option (Bool)
 | 0, _, _, _, _, _ => none
 | k + 1, x0, x1, x5, x6, x8 => if x8 < x1 then (if x1 = 0 then (none) else (if x8 < (Int.tmod x0 x1) then (if 0 ≤ x8 then (if x8 < (x6.length : Int) then (if (rd x6 x8) = (wrap64 ((wrap64 (Int.tdiv x0 x1)) + 1)) then (trivetlaw03_SplitEven.l0 k x0 x1 x5 x6 (wrap64 (x8 + 1))) else (none)) else (none)) else (none)) else (if 0 ≤ x8 then (if x8 < (x6.length : Int) then (if (rd x6 x8) = (wrap64 (Int.tdiv x0 x1)) then (trivetlaw03_SplitEven.l0 k x0 x1 x5 x6 (wrap64 (x8 + 1))) else (none)) else (none)) else (none)))) else (some x5)
end
def trivetlaw03_SplitEven.f (k : Nat) (a0 : Int) (a1 : Int) : Option (Bool) := (trivetlaw03_up.f k).bind fun t154 => ((split_Even.f k a0 a1).bind fun bt155 => (if a0 < 0 then (trivetlaw03_SplitEven.j0 k a0 a1 t154 bt155.1 bt155.2 true) else (if a0 > 10000000000000 then (trivetlaw03_SplitEven.j0 k a0 a1 t154 bt155.1 bt155.2 true) else (if a1 < 1 then (trivetlaw03_SplitEven.j0 k a0 a1 t154 bt155.1 bt155.2 true) else (trivetlaw03_SplitEven.j0 k a0 a1 t154 bt155.1 bt155.2 (decide (a1 > 480)))))))
theorem trivetlaw03_SplitEven.mono_l : ∀ k, (∀ y0 y1 y2 y3 y4 y5, LeO (trivetlaw03_SplitEven.j0 k y0 y1 y2 y3 y4 y5) (trivetlaw03_SplitEven.j0 (k + 1) y0 y1 y2 y3 y4 y5)) ∧ (∀ y0 y1 y2 y3 y4, LeO (trivetlaw03_SplitEven.j1 k y0 y1 y2 y3 y4) (trivetlaw03_SplitEven.j1 (k + 1) y0 y1 y2 y3 y4)) ∧ (∀ y0 y1 y2 y3 y4, LeO (trivetlaw03_SplitEven.l0 k y0 y1 y2 y3 y4) (trivetlaw03_SplitEven.l0 (k + 1) y0 y1 y2 y3 y4))
 | 0 => ⟨fun _ _ _ _ _ _ r h => by simp [trivetlaw03_SplitEven.j0] at h, fun _ _ _ _ _ r h => by simp [trivetlaw03_SplitEven.j1] at h, fun _ _ _ _ _ r h => by simp [trivetlaw03_SplitEven.l0] at h⟩
 | k + 1 => by
  obtain ⟨ih0, ih1, ih2⟩ := trivetlaw03_SplitEven.mono_l k
  refine ⟨?_, ?_, ?_⟩
  ·intro y0 y1 y2 y3 y4 y5
   unfold trivetlaw03_SplitEven.j0
   repeat' first
   | (with_reducible exact ih0 _ _ _ _ _ _)
   | (with_reducible exact ih1 _ _ _ _ _)
   | (with_reducible exact ih2 _ _ _ _ _)
   | (with_reducible exact split_Even.mono _ _ _)
   | (with_reducible exact trivetlaw03_up.mono _)
   | (with_reducible exact LeO.refl _)
   | (with_reducible exact LeO.none _)
   | (with_reducible refine LeO.ite ?_ ?_)
   | (with_reducible refine LeO.bind ?_ (fun _ => ?_))
   | exact ih0 _ _ _ _ _ _
   | exact ih1 _ _ _ _ _
   | exact ih2 _ _ _ _ _
   | exact split_Even.mono _ _ _
   | exact trivetlaw03_up.mono _
   | exact LeO.none _
   | refine LeO.ite ?_ ?_
   | refine LeO.bind ?_ (fun _ => ?_)
  ·intro y0 y1 y2 y3 y4
   unfold trivetlaw03_SplitEven.j1
   repeat' first
   | (with_reducible exact ih0 _ _ _ _ _ _)
   | (with_reducible exact ih1 _ _ _ _ _)
   | (with_reducible exact ih2 _ _ _ _ _)
   | (with_reducible exact split_Even.mono _ _ _)
   | (with_reducible exact trivetlaw03_up.mono _)
   | (with_reducible exact LeO.refl _)
   | (with_reducible exact LeO.none _)
   | (with_reducible refine LeO.ite ?_ ?_)
   | (with_reducible refine LeO.bind ?_ (fun _ => ?_))
   | exact ih0 _ _ _ _ _ _
   | exact ih1 _ _ _ _ _
   | exact ih2 _ _ _ _ _
   | exact split_Even.mono _ _ _
   | exact trivetlaw03_up.mono _
   | exact LeO.none _
   | refine LeO.ite ?_ ?_
   | refine LeO.bind ?_ (fun _ => ?_)
  ·intro y0 y1 y2 y3 y4
   unfold trivetlaw03_SplitEven.l0
   repeat' first
   | (with_reducible exact ih0 _ _ _ _ _ _)
   | (with_reducible exact ih1 _ _ _ _ _)
   | (with_reducible exact ih2 _ _ _ _ _)
   | (with_reducible exact split_Even.mono _ _ _)
   | (with_reducible exact trivetlaw03_up.mono _)
   | (with_reducible exact LeO.refl _)
   | (with_reducible exact LeO.none _)
   | (with_reducible refine LeO.ite ?_ ?_)
   | (with_reducible refine LeO.bind ?_ (fun _ => ?_))
   | exact ih0 _ _ _ _ _ _
   | exact ih1 _ _ _ _ _
   | exact ih2 _ _ _ _ _
   | exact split_Even.mono _ _ _
   | exact trivetlaw03_up.mono _
   | exact LeO.none _
   | refine LeO.ite ?_ ?_
   | refine LeO.bind ?_ (fun _ => ?_)
theorem trivetlaw03_SplitEven.mono : ∀ a0 a1 k, LeO (trivetlaw03_SplitEven.f k a0 a1) (trivetlaw03_SplitEven.f (k + 1) a0 a1) := by
 intro a0 a1 k
 obtain ⟨ih0, ih1, ih2⟩ := trivetlaw03_SplitEven.mono_l k
 unfold trivetlaw03_SplitEven.f
 repeat' first
   | (with_reducible exact ih0 _ _ _ _ _ _)
   | (with_reducible exact ih1 _ _ _ _ _)
   | (with_reducible exact ih2 _ _ _ _ _)
   | (with_reducible exact split_Even.mono _ _ _)
   | (with_reducible exact trivetlaw03_up.mono _)
   | (with_reducible exact LeO.refl _)
   | (with_reducible exact LeO.none _)
   | (with_reducible refine LeO.ite ?_ ?_)
   | (with_reducible refine LeO.bind ?_ (fun _ => ?_))
   | exact ih0 _ _ _ _ _ _
   | exact ih1 _ _ _ _ _
   | exact ih2 _ _ _ _ _
   | exact split_Even.mono _ _ _
   | exact trivetlaw03_up.mono _
   | exact LeO.none _
   | refine LeO.ite ?_ ?_
   | refine LeO.bind ?_ (fun _ => ?_)
set_option maxHeartbeats 8000000 in
set_option maxRecDepth 100000 in
theorem trivetlaw03_SplitEven.calls (k : Nat) (a0 : Int) (a1 : Int) (r : Bool) (w : World) (h : trivetlaw03_SplitEven.f k a0 a1 = some r) :
  Calls Try.prog 8 #[.int .i64 a0, .int .i64 a1] w fun e w' => e = .returned (.bool r) ∧ Below w.heap.size w w' := by
 have hu25 := Try.underlying25
 have hu29 := Try.underlying29
 have HB := ka (Below.refl w.heap.size w)
 have H : ((trivetlaw03_up.f k).bind fun t154 => ((split_Even.f k a0 a1).bind fun bt155 => (if a0 < 0 then (trivetlaw03_SplitEven.j0 k a0 a1 t154 bt155.1 bt155.2 true) else (if a0 > 10000000000000 then (trivetlaw03_SplitEven.j0 k a0 a1 t154 bt155.1 bt155.2 true) else (if a1 < 1 then (trivetlaw03_SplitEven.j0 k a0 a1 t154 bt155.1 bt155.2 true) else (trivetlaw03_SplitEven.j0 k a0 a1 t154 bt155.1 bt155.2 (decide (a1 > 480)))))))) = some r := h
 clear h
 replace H := Option.bind_eq_some_iff.mp H
 obtain ⟨t154, A30, H⟩ := H
 replace H : ((split_Even.f k a0 a1).bind fun bt155 => (if a0 < 0 then (trivetlaw03_SplitEven.j0 k a0 a1 t154 bt155.1 bt155.2 true) else (if a0 > 10000000000000 then (trivetlaw03_SplitEven.j0 k a0 a1 t154 bt155.1 bt155.2 true) else (if a1 < 1 then (trivetlaw03_SplitEven.j0 k a0 a1 t154 bt155.1 bt155.2 true) else (trivetlaw03_SplitEven.j0 k a0 a1 t154 bt155.1 bt155.2 (decide (a1 > 480))))))) = some r := H
 have A3 := ka A30
 clear A30
 replace H := Option.bind_eq_some_iff.mp H
 obtain ⟨⟨t155, t156⟩, A40, H⟩ := H
 replace H : (if a0 < 0 then (trivetlaw03_SplitEven.j0 k a0 a1 t154 t155 t156 true) else (if a0 > 10000000000000 then (trivetlaw03_SplitEven.j0 k a0 a1 t154 t155 t156 true) else (if a1 < 1 then (trivetlaw03_SplitEven.j0 k a0 a1 t154 t155 t156 true) else (trivetlaw03_SplitEven.j0 k a0 a1 t154 t155 t156 (decide (a1 > 480)))))) = some r := H
 have A4 := ka A40
 clear A40
 have HC5 := ka H
 clear H
 go_enter Try.func8, Try.ntmps8
 go_upto_region 3 with (first | ((with_reducible refine gate_callee (f := 9) rfl ?_); refine kg (some 10) rfl rfl Try.func9 (by kernel_rfl) rfl #[] rfl ?_; (with_reducible refine (trivetlaw03_up.calls k  t154 _ A3.out).mono ?_); rintro e w6 ⟨rfl, hb⟩; refine ⟨_, rfl, ?_⟩; replace HB := ka (below_step (kw HB.out) hb); (try clear hb); (try clear hb2); (try clear hk); (try clear hi)) | ((with_reducible refine gate_callee (f := 19) rfl ?_); refine kg (some 14) rfl rfl Try.func19 (by kernel_rfl) rfl #[.int .i64 a0, .int .i64 a1] rfl ?_; (with_reducible refine (split_Even.calls k a0 a1 t155 t156 _ A4.out).mono ?_); rintro e w7 ⟨v157, rfl, ho0, hb⟩; refine ⟨_, rfl, ?_⟩; have HO158 := ka (Kd.R_lower ho0 (below_size (kw HB.out))); replace HB := ka (below_step (kw HB.out) hb); (try clear hb); (try clear hb2); (try clear hk); (try clear hi); (try clear ho0); (try simp only [errW_none, errW_some])))
 (try simp only [Act.put, List.setIfInBounds_toArray, List.set_cons_zero, List.set_cons_succ])
 go_cut [30] (fun v30 wc => ∃ (kq : Nat) (x30_4 : Bool), v30 = .bool x30_4 ∧ Aside0 (trivetlaw03_SplitEven.j0 kq a0 a1 t154 t155 t156 x30_4 = some r) ∧ Aside0 (kq ≤ k) ∧ Aside0 (Kd.R (Kd.int .i64) 2 wc w.heap.size (fun _ => True) v157 t155) ∧ Aside0 (Below w.heap.size w wc))
 case first =>
  have H := HC5.out
  clear HC5
  by_cases c8 : a0 < 0
  ·rw [if_pos c8] at H
   have c8b0 : decide (a0 < 0) = true := decide_eq_true c8
   clear c8
   (first | rw [c8b0] | (simp only [i64_w, i32_w]; rw [c8b0]) | skip)
   have H' := ka H
   clear H
   go_wp2
   go_meet
   case rel => exact ⟨_, (true), (by first | rfl | (simp; done) | (simp [*]; done)), H', ⟨by first | omega | exact Nat.le_refl _⟩, ⟨kr HO158.out⟩, ⟨by repeat (first | (with_reducible first | exact HB.out | apply kc1 | apply kc2 | apply kc3) | exact HB.out)⟩⟩
  ·rw [if_neg c8] at H
   have c8b0 : decide (a0 < 0) = false := decide_eq_false c8
   clear c8
   (first | rw [c8b0] | (simp only [i64_w, i32_w]; rw [c8b0]) | skip)
   by_cases c9 : a0 > 10000000000000
   ·rw [if_pos c9] at H
    have c9b0 : decide (10000000000000 < a0) = true := decide_eq_true c9
    clear c9
    have H' := ka H
    clear H
    go_wp2
    go_meet
    case rel => exact ⟨_, (true), (by first | rfl | (simp; done) | (simp [*]; done)), H', ⟨by first | omega | exact Nat.le_refl _⟩, ⟨kr HO158.out⟩, ⟨by repeat (first | (with_reducible first | exact HB.out | apply kc1 | apply kc2 | apply kc3) | exact HB.out)⟩⟩
   ·rw [if_neg c9] at H
    have c9b0 : decide (10000000000000 < a0) = false := decide_eq_false c9
    clear c9
    by_cases c10 : a1 < 1
    ·rw [if_pos c10] at H
     have c10b0 : decide (a1 < 1) = true := decide_eq_true c10
     clear c10
     have H' := ka H
     clear H
     go_wp2
     go_meet
     case rel => exact ⟨_, (true), (by first | rfl | (simp; done) | (simp [*]; done)), H', ⟨by first | omega | exact Nat.le_refl _⟩, ⟨kr HO158.out⟩, ⟨by repeat (first | (with_reducible first | exact HB.out | apply kc1 | apply kc2 | apply kc3) | exact HB.out)⟩⟩
    ·rw [if_neg c10] at H
     have c10b0 : decide (a1 < 1) = false := decide_eq_false c10
     clear c10
     have H' := ka H
     clear H
     go_wp2
     go_meet
     case rel => exact ⟨_, (decide (a1 > 480)), (by first | rfl | (simp; done) | (simp [*]; done)), H', ⟨by first | omega | exact Nat.le_refl _⟩, ⟨kr HO158.out⟩, ⟨by repeat (first | (with_reducible first | exact HB.out | apply kc1 | apply kc2 | apply kc3) | exact HB.out)⟩⟩
 case rest =>
  clear HC5
  try clear c1
  try clear p2
  try clear c8
  try clear c8b0
  try clear c9
  try clear c9b0
  try clear c10
  try clear c10b0
  obtain ⟨kq, x30_4, rfl, HA, HJ4, HO_6, HB⟩ := hcut
  cases kq with
  | zero => exact absurd HA.out (by simp [trivetlaw03_SplitEven.j0])
  | succ kj4 =>
   have H := HA.out
   clear HA
   simp only [trivetlaw03_SplitEven.j0] at H
   by_cases c11 : x30_4 = true
   ·subst c11
    have H1 : (if t154 = true then (if t156.isNone = true then (none) else (if (t156.getD 0) = 1 then (some ((t155.length : Int) == 0)) else (none))) else (none)) = some r := by rw [if_pos rfl] at H; exact H
    clear H
    have H := H1
    clear H1
    by_cases c12 : t154 = true
    ·subst c12
     have H1 : (if t156.isNone = true then (none) else (if (t156.getD 0) = 1 then (some ((t155.length : Int) == 0)) else (none))) = some r := by rw [if_pos rfl] at H; exact H
     clear H
     have H := H1
     clear H1
     rcases t156 with _ | q159
     ·have H1 : (none) = some r := by rw [if_pos (show (none : Option Int).isNone = true by rfl)] at H; exact H
      clear H
      have H := H1
      clear H1
      try simp only [errW_none, errW_some]
      exact absurd H (by simp)
     ·have H1 : (if q159 = 1 then (some ((t155.length : Int) == 0)) else (none)) = some r := by rw [if_neg (show ¬ (some q159).isNone = true by simp)] at H; exact H
      clear H
      have H := H1
      clear H1
      try simp only [errW_none, errW_some]
      by_cases c13 : q159 = 1
      ·rw [if_pos c13] at H
       have c13b0 : (q159 == 1) = true := beq_iff_eq.mpr c13
       have c13b1 : (q159 != 1) = false := bne_eq_false_iff_eq.mpr c13
       clear c13
       obtain rfl := Option.some.inj H
       obtain ⟨Ao14, co14, eo14⟩ := Kd.R_slice HO_6.out
       subst eo14
       go_wp2
       go_ret
       exact ⟨by first | rfl | (simp [errW_none, errW_some] <;> rfl) | (simp [*, errW_none, errW_some] <;> rfl), by repeat (first | (with_reducible first | exact HB.out | apply kc1 | apply kc2 | apply kc3) | exact HB.out)⟩
      ·rw [if_neg c13] at H
       exact absurd H (by simp)
    ·replace c12 := Bool.eq_false_iff.mpr c12
     subst c12
     have H1 : (none) = some r := by rw [if_neg (show ¬ (false = true) by decide)] at H; exact H
     clear H
     have H := H1
     clear H1
     exact absurd H (by simp)
   ·replace c11 := Bool.eq_false_iff.mpr c11
    subst c11
    have H1 : (if t156.isNone = true then (trivetlaw03_SplitEven.j1 kj4 a0 a1 t154 t155 ((t155.length : Int) != a1)) else (trivetlaw03_SplitEven.j1 kj4 a0 a1 t154 t155 true)) = some r := by rw [if_neg (show ¬ (false = true) by decide)] at H; exact H
    clear H
    have H := H1
    clear H1
    have HC15 := ka H
    clear H
    go_upto_region 5 with (fail)
    go_cut [49] (fun v49 wc => ∃ (kq : Nat) (x49_14 : Bool), v49 = .bool x49_14 ∧ Aside0 (trivetlaw03_SplitEven.j1 kq a0 a1 t154 t155 x49_14 = some r) ∧ Aside0 (kq ≤ kj4) ∧ Aside0 (Kd.R (Kd.int .i64) 2 wc w.heap.size (fun _ => True) v157 t155) ∧ Aside0 (Below w.heap.size w wc))
    case first =>
     have H := HC15.out
     clear HC15
     rcases t156 with _ | q160
     ·have H1 : (trivetlaw03_SplitEven.j1 kj4 a0 a1 t154 t155 ((t155.length : Int) != a1)) = some r := by rw [if_pos (show (none : Option Int).isNone = true by rfl)] at H; exact H
      clear H
      have H := H1
      clear H1
      try simp only [errW_none, errW_some]
      have H' := ka H
      clear H
      obtain ⟨Ao16, co16, eo16⟩ := Kd.R_slice HO_6.out
      subst eo16
      go_wp2
      go_meet
      case rel => exact ⟨_, (((t155.length : Int) != a1)), (by first | rfl | (simp; done) | (simp [*]; done)), H', ⟨by have := HJ4.out; first | omega | exact Nat.le_refl _⟩, ⟨kr HO_6.out⟩, ⟨by repeat (first | (with_reducible first | exact HB.out | apply kc1 | apply kc2 | apply kc3) | exact HB.out)⟩⟩
     ·have H1 : (trivetlaw03_SplitEven.j1 kj4 a0 a1 t154 t155 true) = some r := by rw [if_neg (show ¬ (some q160).isNone = true by simp)] at H; exact H
      clear H
      have H := H1
      clear H1
      try simp only [errW_none, errW_some]
      have H' := ka H
      clear H
      go_wp2
      go_meet
      case rel => exact ⟨_, (true), (by first | rfl | (simp; done) | (simp [*]; done)), H', ⟨by have := HJ4.out; first | omega | exact Nat.le_refl _⟩, ⟨kr HO_6.out⟩, ⟨by repeat (first | (with_reducible first | exact HB.out | apply kc1 | apply kc2 | apply kc3) | exact HB.out)⟩⟩
    case rest =>
     clear HC15
     try clear c1
     try clear q1
     try clear p2
     try clear c8
     try clear c8b0
     try clear c9
     try clear c9b0
     try clear c10
     try clear c10b0
     try clear c11
     try clear c12
     try clear c13
     try clear c13b0
     try clear c13b1
     try clear q15
     try clear q16
     try clear p2
     try clear q159
     try clear q160
     obtain ⟨kq, x49_14, rfl, HA, HJ14, HO_6, HB⟩ := hcut
     cases kq with
     | zero => exact absurd HA.out (by simp [trivetlaw03_SplitEven.j1])
     | succ kj14 =>
      have H := HA.out
      clear HA
      simp only [trivetlaw03_SplitEven.j1] at H
      by_cases c17 : x49_14 = true
      ·subst c17
       have H1 : (none) = some r := by rw [if_pos rfl] at H; exact H
       clear H
       have H := H1
       clear H1
       exact absurd H (by simp)
      ·replace c17 := Bool.eq_false_iff.mpr c17
       subst c17
       have H1 : (trivetlaw03_SplitEven.l0 kj14 a0 a1 t154 t155 0) = some r := by rw [if_neg (show ¬ (false = true) by decide)] at H; exact H
       clear H
       have H := H1
       clear H1
       have H' := ka H
       clear H
       go_wp2
       (try simp only [Act.put, List.setIfInBounds_toArray, List.set_cons_zero, List.set_cons_succ])
       go_loopg [8] kj14 (fun kq v8 w' => ∃ (x8_3 : Int), v8 = .int .i64 x8_3 ∧ Aside0 (trivetlaw03_SplitEven.l0 kq a0 a1 t154 t155 x8_3 = some r) ∧ Aside0 (kq ≤ kj14) ∧ Aside0 (Kd.R (Kd.int .i64) 2 w' w.heap.size (fun _ => True) v157 t155) ∧ Aside0 (Below w.heap.size w w'))
       case atStart => exact ⟨(0), (by first | rfl | (simp; done) | (simp [*]; done)), H', ⟨Nat.le_refl _⟩, ⟨kr HO_6.out⟩, ⟨by repeat (first | (with_reducible first | exact HB.out | apply kc1 | apply kc2 | apply kc3) | exact HB.out)⟩⟩
       case round =>
        clear H'
        try clear c1
        try clear q1
        try clear p2
        try clear c8
        try clear c8b0
        try clear c9
        try clear c9b0
        try clear c10
        try clear c10b0
        try clear c11
        try clear c12
        try clear c13
        try clear c13b0
        try clear c13b1
        try clear q15
        try clear q16
        try clear c17
        try clear p2
        try clear q1
        try clear q15
        try clear q159
        try clear q16
        try clear q160
        obtain ⟨x8_3, rfl, HA, HK3, HO_6, HB⟩ := hrel
        cases gk with
        | zero => exact absurd HA.out (by simp [trivetlaw03_SplitEven.l0])
        | succ k3 =>
         have H := HA.out
         clear HA
         simp only [trivetlaw03_SplitEven.l0] at H
         by_cases c18 : x8_3 < a1
         ·rw [if_pos c18] at H
          have c18b0 : decide (x8_3 < a1) = true := decide_eq_true c18
          clear c18
          by_cases c19 : a1 = 0
          ·rw [if_pos c19] at H
           exact absurd H (by simp)
          ·rw [if_neg c19] at H
           have c19b0 : (a1 == 0) = false := beq_eq_false_iff_ne.mpr c19
           have c19b1 : (a1 != 0) = true := bne_iff_ne.mpr c19
           by_cases c20 : x8_3 < (Int.tmod a0 a1)
           ·rw [if_pos c20] at H
            have c20b0 : decide (x8_3 < (Int.tmod a0 a1)) = true := decide_eq_true c20
            clear c20
            by_cases c21 : 0 ≤ x8_3
            ·rw [if_pos c21] at H
             have c21b0 : decide (0 ≤ x8_3) = true := decide_eq_true c21
             clear c21
             by_cases c22 : x8_3 < (t155.length : Int)
             ·rw [if_pos c22] at H
              have c22b0 : decide (x8_3 < (t155.length : Int)) = true := decide_eq_true c22
              clear c22
              by_cases c23 : (rd t155 x8_3) = (wrap64 ((wrap64 (Int.tdiv a0 a1)) + 1))
              ·rw [if_pos c23] at H
               have c23b0 : ((rd t155 x8_3) == (wrap64 ((wrap64 (Int.tdiv a0 a1)) + 1))) = true := beq_iff_eq.mpr c23
               have c23b1 : ((rd t155 x8_3) != (wrap64 ((wrap64 (Int.tdiv a0 a1)) + 1))) = false := bne_eq_false_iff_eq.mpr c23
               clear c23
               have H' := ka H
               clear H
               obtain ⟨Ao24, co24, eo24⟩ := Kd.R_slice HO_6.out
               subst eo24
               have p161 : 0 ≤ (x8_3 : Int) := of_decide_eq_true (by first | (with_reducible assumption) | assumption)
               have q161 : x8_3 < (t155.length : Int) := of_decide_eq_true (by first | (with_reducible assumption) | assumption)
               obtain ⟨ad161, e161, hx161_0⟩ := Kd.at_int (Kd.R_reads' HO_6.out).2.2 x8_3 p161 q161
               cases e161
               replace p161 := eq_true p161
               replace q161 := eq_true q161
               go_wp2
               go_roundg k3
               case measure => have := HJ4.out; have := HJ14.out; have := HK3.out; omega
               case rel => exact ⟨(wrap64 (x8_3 + 1)), (by first | rfl | (simp; done) | (simp [*]; done)), H', ⟨by have := HJ4.out; have := HJ14.out; have := HK3.out; omega⟩, ⟨kr HO_6.out⟩, ⟨by repeat (first | (with_reducible first | exact HB.out | apply kc1 | apply kc2 | apply kc3) | exact HB.out)⟩⟩
              ·rw [if_neg c23] at H
               exact absurd H (by simp)
             ·rw [if_neg c22] at H
              exact absurd H (by simp)
            ·rw [if_neg c21] at H
             exact absurd H (by simp)
           ·rw [if_neg c20] at H
            have c20b0 : decide (x8_3 < (Int.tmod a0 a1)) = false := decide_eq_false c20
            clear c20
            by_cases c25 : 0 ≤ x8_3
            ·rw [if_pos c25] at H
             have c25b0 : decide (0 ≤ x8_3) = true := decide_eq_true c25
             clear c25
             by_cases c26 : x8_3 < (t155.length : Int)
             ·rw [if_pos c26] at H
              have c26b0 : decide (x8_3 < (t155.length : Int)) = true := decide_eq_true c26
              clear c26
              by_cases c27 : (rd t155 x8_3) = (wrap64 (Int.tdiv a0 a1))
              ·rw [if_pos c27] at H
               have c27b0 : ((rd t155 x8_3) == (wrap64 (Int.tdiv a0 a1))) = true := beq_iff_eq.mpr c27
               have c27b1 : ((rd t155 x8_3) != (wrap64 (Int.tdiv a0 a1))) = false := bne_eq_false_iff_eq.mpr c27
               clear c27
               have H' := ka H
               clear H
               obtain ⟨Ao28, co28, eo28⟩ := Kd.R_slice HO_6.out
               subst eo28
               have p162 : 0 ≤ (x8_3 : Int) := of_decide_eq_true (by first | (with_reducible assumption) | assumption)
               have q162 : x8_3 < (t155.length : Int) := of_decide_eq_true (by first | (with_reducible assumption) | assumption)
               obtain ⟨ad162, e162, hx162_0⟩ := Kd.at_int (Kd.R_reads' HO_6.out).2.2 x8_3 p162 q162
               cases e162
               replace p162 := eq_true p162
               replace q162 := eq_true q162
               go_wp2
               go_roundg k3
               case measure => have := HJ4.out; have := HJ14.out; have := HK3.out; omega
               case rel => exact ⟨(wrap64 (x8_3 + 1)), (by first | rfl | (simp; done) | (simp [*]; done)), H', ⟨by have := HJ4.out; have := HJ14.out; have := HK3.out; omega⟩, ⟨kr HO_6.out⟩, ⟨by repeat (first | (with_reducible first | exact HB.out | apply kc1 | apply kc2 | apply kc3) | exact HB.out)⟩⟩
              ·rw [if_neg c27] at H
               exact absurd H (by simp)
             ·rw [if_neg c26] at H
              exact absurd H (by simp)
            ·rw [if_neg c25] at H
             exact absurd H (by simp)
         ·rw [if_neg c18] at H
          have c18b0 : decide (x8_3 < a1) = false := decide_eq_false c18
          clear c18
          obtain rfl := Option.some.inj H
          go_wp2
          go_ret
          exact ⟨by first | rfl | (simp [errW_none, errW_some] <;> rfl) | (simp [*, errW_none, errW_some] <;> rfl), by repeat (first | (with_reducible first | exact HB.out | apply kc1 | apply kc2 | apply kc3) | exact HB.out)⟩

/-- THE ONE PURE STATEMENT of trivetlaw03_SplitEven: yours. -/
def trivetlaw03_SplitEven.Pure : Prop := ∀ (a0 : Int) (a1 : Int), (Lit.int .i64 a0).wf = true → (Lit.int .i64 a1).wf = true → ∃ k, trivetlaw03_SplitEven.f k a0 a1 = some true
theorem trivetlaw03_SplitEven.walk (P : trivetlaw03_SplitEven.Pure) (a0 : Int) (a1 : Int) (w : World) (w0 : (Lit.int .i64 a0).wf = true) (w1 : (Lit.int .i64 a1).wf = true) :
  Calls Try.prog 8 #[.int .i64 a0, .int .i64 a1] w fun e w' => e = .returned (.bool true) ∧ Below w.heap.size w w' := by
 obtain ⟨k, h⟩ := P a0 a1 w0 w1
 refine (trivetlaw03_SplitEven.calls k a0 a1 true w h).mono ?_
 rintro e w' ⟨rfl, hd⟩
 exact ⟨rfl, hd⟩

end Go.Proofs.Ytcpmfdagnchlbaa.P
