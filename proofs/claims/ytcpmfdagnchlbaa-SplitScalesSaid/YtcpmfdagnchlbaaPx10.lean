-- Written by a program of this session out of the translation of the seat: Lean functions and the proofs that the Go functions come to them.
import Derived.Test.YtcpmfdagnchlbaaPx0
import Derived.Test.YtcpmfdagnchlbaaPx3
import Derived.Test.YtcpmfdagnchlbaaPx4
namespace Go.Proofs.Ytcpmfdagnchlbaa.P
open Go.RowKit Go.Proofs.YtcpmfdagnchlbaaW.PrintWords Go.Proofs.YtcpmfdagnchlbaaW.PrintLast Go.Proofs.YtcpmfdagnchlbaaW.PrintMore
attribute [local go_sem] max2_int min2_int max_two min_two max_three min_three max_four min_four   -- for this text's walks alone
set_option linter.unusedVariables false
set_option linter.unusedSimpArgs false

/-! ### trivetlaw03_SplitFirst: function 6 -/
mutual
def trivetlaw03_SplitFirst.l0 : Nat → List Int → Bool → List Int → Int → Option (Bool)
 | 0, _, _, _, _ => none
 | k + 1, x1, x5, x6, x8 => if x8 < (x6.length : Int) then (trivetlaw03_SplitFirst.j1 k x1 x5 x6 x8 (decide (x8 < 40))) else (trivetlaw03_SplitFirst.j1 k x1 x5 x6 x8 false)
def trivetlaw03_SplitFirst.j1 : Nat → List Int → Bool → List Int → Int → Bool → Option (Bool)
 | 0, _, _, _, _, _ => none
 | k + 1, x1, x5, x6, x8, x31 => if x31 = true then (trivetlaw03_SplitFirst.l1 k x1 x5 x6 x8 (wrap64 (x8 + 1))) else (if x5 = true then (some ((x6.length : Int) == (x1.length : Int))) else (none))
def trivetlaw03_SplitFirst.l1 : Nat → List Int → Bool → List Int → Int → Int → Option (Bool)
 | 0, _, _, _, _, _ => none
 | k + 1, x1, x5, x6, x8, x9 => if x9 < (x6.length : Int) then (if 0 ≤ x8 then (if x8 < (x1.length : Int) then (if 0 ≤ x9 then (if x9 < (x1.length : Int) then (if (rd x1 x8) = (rd x1 x9) then (if x8 < (x6.length : Int) then (if (rd x6 x8) < (rd x6 x9) then (none) else (if (rd x6 x8) > (wrap64 ((rd x6 x9) + 1)) then (none) else (trivetlaw03_SplitFirst.l1 k x1 x5 x6 x8 (wrap64 (x9 + 1))))) else (none)) else (trivetlaw03_SplitFirst.l1 k x1 x5 x6 x8 (wrap64 (x9 + 1)))) else (none)) else (none)) else (none)) else (none)) else (trivetlaw03_SplitFirst.l0 k x1 x5 x6 (wrap64 (x8 + 1)))
end
def trivetlaw03_SplitFirst.f (k : Nat) (a0 : Int) (l1 : List Int) : Option (Bool) := (trivetlaw03_up.f k).bind fun t298 => (if (l1.length : Int) > 500 then (some t298) else ((split_Shares.f k a0 l1).bind fun bt299 => (if bt299.2.isNone = true then (trivetlaw03_SplitFirst.l0 k l1 t298 bt299.1 0) else (some t298))))
theorem trivetlaw03_SplitFirst.mono_l : ∀ k, (∀ y0 y1 y2 y3, LeO (trivetlaw03_SplitFirst.l0 k y0 y1 y2 y3) (trivetlaw03_SplitFirst.l0 (k + 1) y0 y1 y2 y3)) ∧ (∀ y0 y1 y2 y3 y4, LeO (trivetlaw03_SplitFirst.j1 k y0 y1 y2 y3 y4) (trivetlaw03_SplitFirst.j1 (k + 1) y0 y1 y2 y3 y4)) ∧ (∀ y0 y1 y2 y3 y4, LeO (trivetlaw03_SplitFirst.l1 k y0 y1 y2 y3 y4) (trivetlaw03_SplitFirst.l1 (k + 1) y0 y1 y2 y3 y4))
 | 0 => ⟨fun _ _ _ _ r h => by simp [trivetlaw03_SplitFirst.l0] at h, fun _ _ _ _ _ r h => by simp [trivetlaw03_SplitFirst.j1] at h, fun _ _ _ _ _ r h => by simp [trivetlaw03_SplitFirst.l1] at h⟩
 | k + 1 => by
  obtain ⟨ih0, ih1, ih2⟩ := trivetlaw03_SplitFirst.mono_l k
  refine ⟨?_, ?_, ?_⟩
  ·intro y0 y1 y2 y3
   unfold trivetlaw03_SplitFirst.l0
   repeat' first
   | (with_reducible exact ih0 _ _ _ _)
   | (with_reducible exact ih1 _ _ _ _ _)
   | (with_reducible exact ih2 _ _ _ _ _)
   | (with_reducible exact split_Shares.mono _ _ _)
   | (with_reducible exact trivetlaw03_up.mono _)
   | (with_reducible exact LeO.refl _)
   | (with_reducible exact LeO.none _)
   | (with_reducible refine LeO.ite ?_ ?_)
   | (with_reducible refine LeO.bind ?_ (fun _ => ?_))
   | exact ih0 _ _ _ _
   | exact ih1 _ _ _ _ _
   | exact ih2 _ _ _ _ _
   | exact split_Shares.mono _ _ _
   | exact trivetlaw03_up.mono _
   | exact LeO.none _
   | refine LeO.ite ?_ ?_
   | refine LeO.bind ?_ (fun _ => ?_)
  ·intro y0 y1 y2 y3 y4
   unfold trivetlaw03_SplitFirst.j1
   repeat' first
   | (with_reducible exact ih0 _ _ _ _)
   | (with_reducible exact ih1 _ _ _ _ _)
   | (with_reducible exact ih2 _ _ _ _ _)
   | (with_reducible exact split_Shares.mono _ _ _)
   | (with_reducible exact trivetlaw03_up.mono _)
   | (with_reducible exact LeO.refl _)
   | (with_reducible exact LeO.none _)
   | (with_reducible refine LeO.ite ?_ ?_)
   | (with_reducible refine LeO.bind ?_ (fun _ => ?_))
   | exact ih0 _ _ _ _
   | exact ih1 _ _ _ _ _
   | exact ih2 _ _ _ _ _
   | exact split_Shares.mono _ _ _
   | exact trivetlaw03_up.mono _
   | exact LeO.none _
   | refine LeO.ite ?_ ?_
   | refine LeO.bind ?_ (fun _ => ?_)
  ·intro y0 y1 y2 y3 y4
   unfold trivetlaw03_SplitFirst.l1
   repeat' first
   | (with_reducible exact ih0 _ _ _ _)
   | (with_reducible exact ih1 _ _ _ _ _)
   | (with_reducible exact ih2 _ _ _ _ _)
   | (with_reducible exact split_Shares.mono _ _ _)
   | (with_reducible exact trivetlaw03_up.mono _)
   | (with_reducible exact LeO.refl _)
   | (with_reducible exact LeO.none _)
   | (with_reducible refine LeO.ite ?_ ?_)
   | (with_reducible refine LeO.bind ?_ (fun _ => ?_))
   | exact ih0 _ _ _ _
   | exact ih1 _ _ _ _ _
   | exact ih2 _ _ _ _ _
   | exact split_Shares.mono _ _ _
   | exact trivetlaw03_up.mono _
   | exact LeO.none _
   | refine LeO.ite ?_ ?_
   | refine LeO.bind ?_ (fun _ => ?_)
theorem trivetlaw03_SplitFirst.mono : ∀ a0 a1 k, LeO (trivetlaw03_SplitFirst.f k a0 a1) (trivetlaw03_SplitFirst.f (k + 1) a0 a1) := by
 intro a0 a1 k
 obtain ⟨ih0, ih1, ih2⟩ := trivetlaw03_SplitFirst.mono_l k
 unfold trivetlaw03_SplitFirst.f
 repeat' first
   | (with_reducible exact ih0 _ _ _ _)
   | (with_reducible exact ih1 _ _ _ _ _)
   | (with_reducible exact ih2 _ _ _ _ _)
   | (with_reducible exact split_Shares.mono _ _ _)
   | (with_reducible exact trivetlaw03_up.mono _)
   | (with_reducible exact LeO.refl _)
   | (with_reducible exact LeO.none _)
   | (with_reducible refine LeO.ite ?_ ?_)
   | (with_reducible refine LeO.bind ?_ (fun _ => ?_))
   | exact ih0 _ _ _ _
   | exact ih1 _ _ _ _ _
   | exact ih2 _ _ _ _ _
   | exact split_Shares.mono _ _ _
   | exact trivetlaw03_up.mono _
   | exact LeO.none _
   | refine LeO.ite ?_ ?_
   | refine LeO.bind ?_ (fun _ => ?_)
set_option maxHeartbeats 8000000 in
set_option maxRecDepth 100000 in
theorem trivetlaw03_SplitFirst.calls (k : Nat) (a0 : Int) (A1 : Option Addr) (c1 : Nat) (l1 : List Int) (r : Bool) (w : World) (hr1 : Kd.C (Kd.int .i64) w A1 l1.length l1) (hc1 : l1.length ≤ c1) (h : trivetlaw03_SplitFirst.f k a0 l1 = some r) :
  Calls Try.prog 6 #[.int .i64 a0, .slice A1 l1.length c1] w fun e w' => e = .returned (.bool r) ∧ Below w.heap.size w w' := by
 have hu25 := Try.underlying25
 have hu29 := Try.underlying29
 have HR1 := ka hr1
 have HC1 := ka hc1
 clear hr1 hc1
 have HB := ka (Below.refl w.heap.size w)
 have H : ((trivetlaw03_up.f k).bind fun t298 => (if (l1.length : Int) > 500 then (some t298) else ((split_Shares.f k a0 l1).bind fun bt299 => (if bt299.2.isNone = true then (trivetlaw03_SplitFirst.l0 k l1 t298 bt299.1 0) else (some t298))))) = some r := h
 clear h
 replace H := Option.bind_eq_some_iff.mp H
 obtain ⟨t298, A30, H⟩ := H
 replace H : (if (l1.length : Int) > 500 then (some t298) else ((split_Shares.f k a0 l1).bind fun bt299 => (if bt299.2.isNone = true then (trivetlaw03_SplitFirst.l0 k l1 t298 bt299.1 0) else (some t298)))) = some r := H
 have A3 := ka A30
 clear A30
 by_cases c4 : (l1.length : Int) > 500
 ·rw [if_pos c4] at H
  have c4b0 : decide (500 < (l1.length : Int)) = true := decide_eq_true c4
  have c4b1 : decide (500 < l1.length) = true := decide_eq_true (by omega)
  clear c4
  obtain rfl := Option.some.inj H
  go_enter Try.func6, Try.ntmps6
  go_wp2_with (first | (go_at_call 9; (with_reducible refine (trivetlaw03_up.calls k  t298 _ A3.out).mono ?_); rintro e w5 ⟨rfl, hb⟩; replace HB := ka (below_step (kw HB.out) hb); (try clear hb); (try clear hb2); (try clear hk); (try clear hi)))
  repeat (go_quiet (first | (go_at_call 9; (with_reducible refine (trivetlaw03_up.calls k  t298 _ A3.out).mono ?_); rintro e w5 ⟨rfl, hb⟩; replace HB := ka (below_step (kw HB.out) hb); (try clear hb); (try clear hb2); (try clear hk); (try clear hi))); try go_wp2_with (first | (go_at_call 9; (with_reducible refine (trivetlaw03_up.calls k  t298 _ A3.out).mono ?_); rintro e w5 ⟨rfl, hb⟩; replace HB := ka (below_step (kw HB.out) hb); (try clear hb); (try clear hb2); (try clear hk); (try clear hi))))
  go_ret
  exact ⟨by first | rfl | (simp [errW_none, errW_some] <;> rfl) | (simp [*, errW_none, errW_some] <;> rfl), by repeat (first | (with_reducible first | exact HB.out | apply kc1 | apply kc2 | apply kc3) | exact HB.out)⟩
 ·rw [if_neg c4] at H
  have c4b0 : decide (500 < (l1.length : Int)) = false := decide_eq_false c4
  have c4b1 : decide (500 < l1.length) = false := decide_eq_false (by omega)
  clear c4
  replace H := Option.bind_eq_some_iff.mp H
  obtain ⟨⟨t299, t300⟩, A60, H⟩ := H
  replace H : (if t300.isNone = true then (trivetlaw03_SplitFirst.l0 k l1 t298 t299 0) else (some t298)) = some r := H
  have A6 := ka A60
  clear A60
  rcases t300 with _ | q303
  ·have H1 : (trivetlaw03_SplitFirst.l0 k l1 t298 t299 0) = some r := by rw [if_pos (show (none : Option Int).isNone = true by rfl)] at H; exact H
   clear H
   have H := H1
   clear H1
   try simp only [errW_none, errW_some]
   have H' := ka H
   clear H
   go_enter Try.func6, Try.ntmps6
   go_wp2_with (first | (go_at_call 9; (with_reducible refine (trivetlaw03_up.calls k  t298 _ A3.out).mono ?_); rintro e w7 ⟨rfl, hb⟩; replace HB := ka (below_step (kw HB.out) hb); (try clear hb); (try clear hb2); (try clear hk); (try clear hi)) | (go_at_call 10; (with_reducible refine (split_Shares.calls k a0 _ _ l1 t299 none _ ?side1 ?side2 A6.out).mono ?_); (case side1 => repeat (first | exact (Kd.C_below HR1.out HB.out) | (with_reducible refine Kd.C_alloc ?_ _) | (with_reducible refine Kd.C_drewN ?_ _) | (with_reducible refine Kd.C_drew ?_))); (case side2 => exact HC1.out); rintro e w8 ⟨v301, rfl, ho0, hb⟩; have HO302 := ka (Kd.R_lower ho0 (below_size (kw HB.out))); replace HB := ka (below_step (kw HB.out) hb); (try clear hb); (try clear hb2); (try clear hk); (try clear hi); (try clear ho0); (try simp only [errW_none, errW_some])))
   repeat (go_quiet (first | (go_at_call 9; (with_reducible refine (trivetlaw03_up.calls k  t298 _ A3.out).mono ?_); rintro e w7 ⟨rfl, hb⟩; replace HB := ka (below_step (kw HB.out) hb); (try clear hb); (try clear hb2); (try clear hk); (try clear hi)) | (go_at_call 10; (with_reducible refine (split_Shares.calls k a0 _ _ l1 t299 none _ ?side1 ?side2 A6.out).mono ?_); (case side1 => repeat (first | exact (Kd.C_below HR1.out HB.out) | (with_reducible refine Kd.C_alloc ?_ _) | (with_reducible refine Kd.C_drewN ?_ _) | (with_reducible refine Kd.C_drew ?_))); (case side2 => exact HC1.out); rintro e w8 ⟨v301, rfl, ho0, hb⟩; have HO302 := ka (Kd.R_lower ho0 (below_size (kw HB.out))); replace HB := ka (below_step (kw HB.out) hb); (try clear hb); (try clear hb2); (try clear hk); (try clear hi); (try clear ho0); (try simp only [errW_none, errW_some]))); try go_wp2_with (first | (go_at_call 9; (with_reducible refine (trivetlaw03_up.calls k  t298 _ A3.out).mono ?_); rintro e w7 ⟨rfl, hb⟩; replace HB := ka (below_step (kw HB.out) hb); (try clear hb); (try clear hb2); (try clear hk); (try clear hi)) | (go_at_call 10; (with_reducible refine (split_Shares.calls k a0 _ _ l1 t299 none _ ?side1 ?side2 A6.out).mono ?_); (case side1 => repeat (first | exact (Kd.C_below HR1.out HB.out) | (with_reducible refine Kd.C_alloc ?_ _) | (with_reducible refine Kd.C_drewN ?_ _) | (with_reducible refine Kd.C_drew ?_))); (case side2 => exact HC1.out); rintro e w8 ⟨v301, rfl, ho0, hb⟩; have HO302 := ka (Kd.R_lower ho0 (below_size (kw HB.out))); replace HB := ka (below_step (kw HB.out) hb); (try clear hb); (try clear hb2); (try clear hk); (try clear hi); (try clear ho0); (try simp only [errW_none, errW_some]))))
   (try simp only [Act.put, List.setIfInBounds_toArray, List.set_cons_zero, List.set_cons_succ])
   go_loopg [8] k (fun kq v8 w' => ∃ (x8_1 : Int), v8 = .int .i64 x8_1 ∧ Aside0 (trivetlaw03_SplitFirst.l0 kq l1 t298 t299 x8_1 = some r) ∧ Aside0 (kq ≤ k) ∧ Aside0 (Kd.R (Kd.int .i64) 2 w' w.heap.size (fun _ => True) v301 t299) ∧ Aside0 (Below w.heap.size w w'))
   case atStart => exact ⟨(0), (by first | rfl | (simp; done) | (simp [*]; done)), H', ⟨Nat.le_refl _⟩, ⟨kr HO302.out⟩, ⟨by repeat (first | (with_reducible first | exact HB.out | apply kc1 | apply kc2 | apply kc3) | exact HB.out)⟩⟩
   case round =>
    clear H'
    try clear c1
    try clear p2
    try clear q3
    try clear c4
    try clear c4b0
    try clear c4b1
    try clear c6
    try clear q303
    obtain ⟨x8_1, rfl, HA, HK1, HO_6, HB⟩ := hrel
    cases gk with
    | zero => exact absurd HA.out (by simp [trivetlaw03_SplitFirst.l0])
    | succ k1 =>
     have H := HA.out
     clear HA
     simp only [trivetlaw03_SplitFirst.l0] at H
     have HC9 := ka H
     clear H
     go_upto_region 8 with (fail)
     repeat (go_quiet (fail); go_upto_region 8 with (fail))
     go_cut [31] (fun v31 wc => ∃ (kq : Nat) (x31_8 : Bool), v31 = .bool x31_8 ∧ Aside0 (trivetlaw03_SplitFirst.j1 kq l1 t298 t299 x8_1 x31_8 = some r) ∧ Aside0 (kq ≤ k1) ∧ Aside0 (Kd.R (Kd.int .i64) 2 wc w.heap.size (fun _ => True) v301 t299) ∧ Aside0 (Below w.heap.size w wc))
     case first =>
      have H := HC9.out
      clear HC9
      by_cases c10 : x8_1 < (t299.length : Int)
      ·rw [if_pos c10] at H
       have c10b0 : decide (x8_1 < (t299.length : Int)) = true := decide_eq_true c10
       clear c10
       (first | rw [c10b0] | (simp only [i64_w, i32_w]; rw [c10b0]) | skip)
       have H' := ka H
       clear H
       obtain ⟨Ao11, co11, eo11⟩ := Kd.R_slice HO_6.out
       subst eo11
       go_wp2
       repeat (go_quiet (fail); try go_wp2)
       go_meet
       case rel => exact ⟨_, (decide (x8_1 < 40)), (by first | rfl | (simp; done) | (simp [*]; done)), H', ⟨by have := HK1.out; first | omega | exact Nat.le_refl _⟩, ⟨kr HO_6.out⟩, ⟨by repeat (first | (with_reducible first | exact HB.out | apply kc1 | apply kc2 | apply kc3) | exact HB.out)⟩⟩
      ·rw [if_neg c10] at H
       have c10b0 : decide (x8_1 < (t299.length : Int)) = false := decide_eq_false c10
       clear c10
       (first | rw [c10b0] | (simp only [i64_w, i32_w]; rw [c10b0]) | skip)
       have H' := ka H
       clear H
       obtain ⟨Ao12, co12, eo12⟩ := Kd.R_slice HO_6.out
       subst eo12
       go_wp2
       repeat (go_quiet (fail); try go_wp2)
       go_meet
       case rel => exact ⟨_, (false), (by first | rfl | (simp; done) | (simp [*]; done)), H', ⟨by have := HK1.out; first | omega | exact Nat.le_refl _⟩, ⟨kr HO_6.out⟩, ⟨by repeat (first | (with_reducible first | exact HB.out | apply kc1 | apply kc2 | apply kc3) | exact HB.out)⟩⟩
     case rest =>
      clear HC9
      try clear c1
      try clear p2
      try clear q3
      try clear c4
      try clear c4b0
      try clear c4b1
      try clear c6
      try clear c10
      try clear c10b0
      try clear p2
      try clear q3
      try clear q303
      obtain ⟨kq, x31_8, rfl, HA, HJ8, HO_6, HB⟩ := hcut
      cases kq with
      | zero => exact absurd HA.out (by simp [trivetlaw03_SplitFirst.j1])
      | succ kj8 =>
       have H := HA.out
       clear HA
       simp only [trivetlaw03_SplitFirst.j1] at H
       by_cases c13 : x31_8 = true
       ·subst c13
        have H1 : (trivetlaw03_SplitFirst.l1 kj8 l1 t298 t299 x8_1 (wrap64 (x8_1 + 1))) = some r := by rw [if_pos rfl] at H; exact H
        clear H
        have H := H1
        clear H1
        have H' := ka H
        clear H
        go_wp2
        repeat (go_quiet (fail); try go_wp2)
        (try simp only [Act.put, List.setIfInBounds_toArray, List.set_cons_zero, List.set_cons_succ])
        go_loopg [9] kj8 (fun kq v9 w' => ∃ (x9_3 : Int), v9 = .int .i64 x9_3 ∧ Aside0 (trivetlaw03_SplitFirst.l1 kq l1 t298 t299 x8_1 x9_3 = some r) ∧ Aside0 (kq ≤ kj8) ∧ Aside0 (Kd.R (Kd.int .i64) 2 w' w.heap.size (fun _ => True) v301 t299) ∧ Aside0 (Below w.heap.size w w'))
        case atStart => exact ⟨(wrap64 (x8_1 + 1)), (by first | rfl | (simp; done) | (simp [*]; done)), H', ⟨Nat.le_refl _⟩, ⟨kr HO_6.out⟩, ⟨by repeat (first | (with_reducible first | exact HB.out | apply kc1 | apply kc2 | apply kc3) | exact HB.out)⟩⟩
        case round =>
         clear H'
         try clear c1
         try clear p2
         try clear q3
         try clear c4
         try clear c4b0
         try clear c4b1
         try clear c6
         try clear p6
         try clear c10
         try clear c10b0
         try clear c13
         try clear p2
         try clear q3
         try clear q303
         obtain ⟨x9_3, rfl, HA, HK3, HO_6, HB⟩ := hrel
         cases gk with
         | zero => exact absurd HA.out (by simp [trivetlaw03_SplitFirst.l1])
         | succ k3 =>
          have H := HA.out
          clear HA
          simp only [trivetlaw03_SplitFirst.l1] at H
          by_cases c14 : x9_3 < (t299.length : Int)
          ·rw [if_pos c14] at H
           have c14b0 : decide (x9_3 < (t299.length : Int)) = true := decide_eq_true c14
           clear c14
           by_cases c15 : 0 ≤ x8_1
           ·rw [if_pos c15] at H
            have c15b0 : decide (0 ≤ x8_1) = true := decide_eq_true c15
            clear c15
            by_cases c16 : x8_1 < (l1.length : Int)
            ·rw [if_pos c16] at H
             have c16b0 : decide (x8_1 < (l1.length : Int)) = true := decide_eq_true c16
             clear c16
             by_cases c17 : 0 ≤ x9_3
             ·rw [if_pos c17] at H
              have c17b0 : decide (0 ≤ x9_3) = true := decide_eq_true c17
              clear c17
              by_cases c18 : x9_3 < (l1.length : Int)
              ·rw [if_pos c18] at H
               have c18b0 : decide (x9_3 < (l1.length : Int)) = true := decide_eq_true c18
               clear c18
               by_cases c19 : (rd l1 x8_1) = (rd l1 x9_3)
               ·rw [if_pos c19] at H
                have c19b0 : ((rd l1 x8_1) == (rd l1 x9_3)) = true := beq_iff_eq.mpr c19
                have c19b1 : ((rd l1 x8_1) != (rd l1 x9_3)) = false := bne_eq_false_iff_eq.mpr c19
                clear c19
                by_cases c20 : x8_1 < (t299.length : Int)
                ·rw [if_pos c20] at H
                 have c20b0 : decide (x8_1 < (t299.length : Int)) = true := decide_eq_true c20
                 clear c20
                 by_cases c21 : (rd t299 x8_1) < (rd t299 x9_3)
                 ·rw [if_pos c21] at H
                  exact absurd H (by simp)
                 ·rw [if_neg c21] at H
                  have c21b0 : decide ((rd t299 x8_1) < (rd t299 x9_3)) = false := decide_eq_false c21
                  clear c21
                  by_cases c22 : (rd t299 x8_1) > (wrap64 ((rd t299 x9_3) + 1))
                  ·rw [if_pos c22] at H
                   exact absurd H (by simp)
                  ·rw [if_neg c22] at H
                   have c22b0 : decide ((wrap64 ((rd t299 x9_3) + 1)) < (rd t299 x8_1)) = false := decide_eq_false c22
                   clear c22
                   have H' := ka H
                   clear H
                   obtain ⟨Ao23, co23, eo23⟩ := Kd.R_slice HO_6.out
                   subst eo23
                   have p304 : 0 ≤ (x8_1 : Int) := of_decide_eq_true (by first | (with_reducible assumption) | assumption)
                   have q304 : x8_1 < (l1.length : Int) := of_decide_eq_true (by first | (with_reducible assumption) | assumption)
                   obtain ⟨ad304, e304, hx304_0⟩ := Kd.at_int HR1.out x8_1 p304 q304
                   cases e304
                   replace hx304_0 := (HB.out.cell (World.block_lt_of_cell? w _ hx304_0)).trans hx304_0
                   replace p304 := eq_true p304
                   replace q304 := eq_true q304
                   have p305 : 0 ≤ (x9_3 : Int) := of_decide_eq_true (by first | (with_reducible assumption) | assumption)
                   have q305 : x9_3 < (l1.length : Int) := of_decide_eq_true (by first | (with_reducible assumption) | assumption)
                   obtain ⟨ad305, e305, hx305_0⟩ := Kd.at_int HR1.out x9_3 p305 q305
                   obtain rfl : ad304 = ad305 := (by injection e305)
                   replace hx305_0 := (HB.out.cell (World.block_lt_of_cell? w _ hx305_0)).trans hx305_0
                   replace p305 := eq_true p305
                   replace q305 := eq_true q305
                   have p306 : 0 ≤ (x8_1 : Int) := of_decide_eq_true (by first | (with_reducible assumption) | assumption)
                   have q306 : x8_1 < (t299.length : Int) := of_decide_eq_true (by first | (with_reducible assumption) | assumption)
                   obtain ⟨ad306, e306, hx306_0⟩ := Kd.at_int (Kd.R_reads' HO_6.out).2.2 x8_1 p306 q306
                   cases e306
                   replace p306 := eq_true p306
                   replace q306 := eq_true q306
                   have p307 : 0 ≤ (x9_3 : Int) := of_decide_eq_true (by first | (with_reducible assumption) | assumption)
                   have q307 : x9_3 < (t299.length : Int) := of_decide_eq_true (by first | (with_reducible assumption) | assumption)
                   obtain ⟨ad307, e307, hx307_0⟩ := Kd.at_int (Kd.R_reads' HO_6.out).2.2 x9_3 p307 q307
                   obtain rfl : ad306 = ad307 := (by injection e307)
                   replace p307 := eq_true p307
                   replace q307 := eq_true q307
                   have p308 : 0 ≤ (x8_1 : Int) := of_decide_eq_true (by first | (with_reducible assumption) | assumption)
                   have q308 : x8_1 < (t299.length : Int) := of_decide_eq_true (by first | (with_reducible assumption) | assumption)
                   obtain ⟨ad308, e308, hx308_0⟩ := Kd.at_int (Kd.R_reads' HO_6.out).2.2 x8_1 p308 q308
                   obtain rfl : ad306 = ad308 := (by injection e308)
                   replace p308 := eq_true p308
                   replace q308 := eq_true q308
                   have p309 : 0 ≤ (x9_3 : Int) := of_decide_eq_true (by first | (with_reducible assumption) | assumption)
                   have q309 : x9_3 < (t299.length : Int) := of_decide_eq_true (by first | (with_reducible assumption) | assumption)
                   obtain ⟨ad309, e309, hx309_0⟩ := Kd.at_int (Kd.R_reads' HO_6.out).2.2 x9_3 p309 q309
                   obtain rfl : ad306 = ad309 := (by injection e309)
                   replace p309 := eq_true p309
                   replace q309 := eq_true q309
                   go_wp2
                   repeat (go_quiet (fail); try go_wp2)
                   go_roundg k3
                   case measure => have := HK1.out; have := HJ8.out; have := HK3.out; omega
                   case rel => exact ⟨(wrap64 (x9_3 + 1)), (by first | rfl | (simp; done) | (simp [*]; done)), H', ⟨by have := HK1.out; have := HJ8.out; have := HK3.out; omega⟩, ⟨kr HO_6.out⟩, ⟨by repeat (first | (with_reducible first | exact HB.out | apply kc1 | apply kc2 | apply kc3) | exact HB.out)⟩⟩
                ·rw [if_neg c20] at H
                 exact absurd H (by simp)
               ·rw [if_neg c19] at H
                have c19b0 : ((rd l1 x8_1) == (rd l1 x9_3)) = false := beq_eq_false_iff_ne.mpr c19
                have c19b1 : ((rd l1 x8_1) != (rd l1 x9_3)) = true := bne_iff_ne.mpr c19
                have H' := ka H
                clear H
                obtain ⟨Ao24, co24, eo24⟩ := Kd.R_slice HO_6.out
                subst eo24
                have p304 : 0 ≤ (x8_1 : Int) := of_decide_eq_true (by first | (with_reducible assumption) | assumption)
                have q304 : x8_1 < (l1.length : Int) := of_decide_eq_true (by first | (with_reducible assumption) | assumption)
                obtain ⟨ad304, e304, hx304_0⟩ := Kd.at_int HR1.out x8_1 p304 q304
                cases e304
                replace hx304_0 := (HB.out.cell (World.block_lt_of_cell? w _ hx304_0)).trans hx304_0
                replace p304 := eq_true p304
                replace q304 := eq_true q304
                have p305 : 0 ≤ (x9_3 : Int) := of_decide_eq_true (by first | (with_reducible assumption) | assumption)
                have q305 : x9_3 < (l1.length : Int) := of_decide_eq_true (by first | (with_reducible assumption) | assumption)
                obtain ⟨ad305, e305, hx305_0⟩ := Kd.at_int HR1.out x9_3 p305 q305
                obtain rfl : ad304 = ad305 := (by injection e305)
                replace hx305_0 := (HB.out.cell (World.block_lt_of_cell? w _ hx305_0)).trans hx305_0
                replace p305 := eq_true p305
                replace q305 := eq_true q305
                go_wp2
                repeat (go_quiet (fail); try go_wp2)
                go_roundg k3
                case measure => have := HK1.out; have := HJ8.out; have := HK3.out; omega
                case rel => exact ⟨(wrap64 (x9_3 + 1)), (by first | rfl | (simp; done) | (simp [*]; done)), H', ⟨by have := HK1.out; have := HJ8.out; have := HK3.out; omega⟩, ⟨kr HO_6.out⟩, ⟨by repeat (first | (with_reducible first | exact HB.out | apply kc1 | apply kc2 | apply kc3) | exact HB.out)⟩⟩
              ·rw [if_neg c18] at H
               exact absurd H (by simp)
             ·rw [if_neg c17] at H
              exact absurd H (by simp)
            ·rw [if_neg c16] at H
             exact absurd H (by simp)
           ·rw [if_neg c15] at H
            exact absurd H (by simp)
          ·rw [if_neg c14] at H
           have c14b0 : decide (x9_3 < (t299.length : Int)) = false := decide_eq_false c14
           clear c14
           have H' := ka H
           clear H
           obtain ⟨Ao25, co25, eo25⟩ := Kd.R_slice HO_6.out
           subst eo25
           go_wp2
           repeat (go_quiet (fail); try go_wp2)
           go_roundg k3
           case measure => have := HK1.out; have := HJ8.out; have := HK3.out; omega
           case rel => exact ⟨(wrap64 (x8_1 + 1)), (by first | rfl | (simp; done) | (simp [*]; done)), H', ⟨by have := HK1.out; have := HJ8.out; have := HK3.out; omega⟩, ⟨kr HO_6.out⟩, ⟨by repeat (first | (with_reducible first | exact HB.out | apply kc1 | apply kc2 | apply kc3) | exact HB.out)⟩⟩
       ·replace c13 := Bool.eq_false_iff.mpr c13
        subst c13
        have H1 : (if t298 = true then (some ((t299.length : Int) == (l1.length : Int))) else (none)) = some r := by rw [if_neg (show ¬ (false = true) by decide)] at H; exact H
        clear H
        have H := H1
        clear H1
        by_cases c26 : t298 = true
        ·subst c26
         have H1 : (some ((t299.length : Int) == (l1.length : Int))) = some r := by rw [if_pos rfl] at H; exact H
         clear H
         have H := H1
         clear H1
         obtain rfl := Option.some.inj H
         obtain ⟨Ao27, co27, eo27⟩ := Kd.R_slice HO_6.out
         subst eo27
         go_wp2
         repeat (go_quiet (fail); try go_wp2)
         go_ret
         exact ⟨by first | rfl | (simp [errW_none, errW_some] <;> rfl) | (simp [*, errW_none, errW_some] <;> rfl), by repeat (first | (with_reducible first | exact HB.out | apply kc1 | apply kc2 | apply kc3) | exact HB.out)⟩
        ·replace c26 := Bool.eq_false_iff.mpr c26
         subst c26
         have H1 : (none) = some r := by rw [if_neg (show ¬ (false = true) by decide)] at H; exact H
         clear H
         have H := H1
         clear H1
         exact absurd H (by simp)
  ·have H1 : (some t298) = some r := by rw [if_neg (show ¬ (some q303).isNone = true by simp)] at H; exact H
   clear H
   have H := H1
   clear H1
   try simp only [errW_none, errW_some]
   obtain rfl := Option.some.inj H
   go_enter Try.func6, Try.ntmps6
   go_wp2_with (first | (go_at_call 9; (with_reducible refine (trivetlaw03_up.calls k  t298 _ A3.out).mono ?_); rintro e w28 ⟨rfl, hb⟩; replace HB := ka (below_step (kw HB.out) hb); (try clear hb); (try clear hb2); (try clear hk); (try clear hi)) | (go_at_call 10; (with_reducible refine (split_Shares.calls k a0 _ _ l1 t299 (some q303) _ ?side1 ?side2 A6.out).mono ?_); (case side1 => repeat (first | exact (Kd.C_below HR1.out HB.out) | (with_reducible refine Kd.C_alloc ?_ _) | (with_reducible refine Kd.C_drewN ?_ _) | (with_reducible refine Kd.C_drew ?_))); (case side2 => exact HC1.out); rintro e w29 ⟨v301, rfl, ho0, hb⟩; have HO302 := ka (Kd.R_lower ho0 (below_size (kw HB.out))); replace HB := ka (below_step (kw HB.out) hb); (try clear hb); (try clear hb2); (try clear hk); (try clear hi); (try clear ho0); (try simp only [errW_none, errW_some])))
   repeat (go_quiet (first | (go_at_call 9; (with_reducible refine (trivetlaw03_up.calls k  t298 _ A3.out).mono ?_); rintro e w28 ⟨rfl, hb⟩; replace HB := ka (below_step (kw HB.out) hb); (try clear hb); (try clear hb2); (try clear hk); (try clear hi)) | (go_at_call 10; (with_reducible refine (split_Shares.calls k a0 _ _ l1 t299 (some q303) _ ?side1 ?side2 A6.out).mono ?_); (case side1 => repeat (first | exact (Kd.C_below HR1.out HB.out) | (with_reducible refine Kd.C_alloc ?_ _) | (with_reducible refine Kd.C_drewN ?_ _) | (with_reducible refine Kd.C_drew ?_))); (case side2 => exact HC1.out); rintro e w29 ⟨v301, rfl, ho0, hb⟩; have HO302 := ka (Kd.R_lower ho0 (below_size (kw HB.out))); replace HB := ka (below_step (kw HB.out) hb); (try clear hb); (try clear hb2); (try clear hk); (try clear hi); (try clear ho0); (try simp only [errW_none, errW_some]))); try go_wp2_with (first | (go_at_call 9; (with_reducible refine (trivetlaw03_up.calls k  t298 _ A3.out).mono ?_); rintro e w28 ⟨rfl, hb⟩; replace HB := ka (below_step (kw HB.out) hb); (try clear hb); (try clear hb2); (try clear hk); (try clear hi)) | (go_at_call 10; (with_reducible refine (split_Shares.calls k a0 _ _ l1 t299 (some q303) _ ?side1 ?side2 A6.out).mono ?_); (case side1 => repeat (first | exact (Kd.C_below HR1.out HB.out) | (with_reducible refine Kd.C_alloc ?_ _) | (with_reducible refine Kd.C_drewN ?_ _) | (with_reducible refine Kd.C_drew ?_))); (case side2 => exact HC1.out); rintro e w29 ⟨v301, rfl, ho0, hb⟩; have HO302 := ka (Kd.R_lower ho0 (below_size (kw HB.out))); replace HB := ka (below_step (kw HB.out) hb); (try clear hb); (try clear hb2); (try clear hk); (try clear hi); (try clear ho0); (try simp only [errW_none, errW_some]))))
   go_ret
   exact ⟨by first | rfl | (simp [errW_none, errW_some] <;> rfl) | (simp [*, errW_none, errW_some] <;> rfl), by repeat (first | (with_reducible first | exact HB.out | apply kc1 | apply kc2 | apply kc3) | exact HB.out)⟩

/-- THE ONE PURE STATEMENT of trivetlaw03_SplitFirst: yours. -/
def trivetlaw03_SplitFirst.Pure : Prop := ∀ (a0 : Int) (l1 : List Int), (Lit.int .i64 a0).wf = true → l1.length ≤ maxLen → l1.length * 8 ≤ 140737488351232 → (∀ x ∈ l1, (Lit.int .i64 x).wf = true) → ∃ k, trivetlaw03_SplitFirst.f k a0 l1 = some true
theorem trivetlaw03_SplitFirst.walk (P : trivetlaw03_SplitFirst.Pure) (a0 : Int) (a1 : Option Addr) (len1 cap1 : Nat) (z1 : List Int) (w : World) (w0 : (Lit.int .i64 a0).wf = true) (w1 : (a1 = none ∧ len1 = 0 ∧ cap1 = 0 ∧ z1 = []) ∨ ∃ x, a1 = some x ∧ len1 ≤ cap1 ∧ cap1 ≤ maxLen ∧ z1.length = cap1 ∧ (∀ i, i < z1.length → w.cell? (x.add i) = some (.int .i64 (z1.getD i 0))) ∧ ∀ n ∈ z1, (Lit.int .i64 n).wf = true) (y1 : len1 * 8 ≤ 140737488351232) :
  Calls Try.prog 6 #[.int .i64 a0, .slice a1 len1 cap1] w fun e w' => e = .returned (.bool true) ∧ Below w.heap.size w w' := by
 obtain ⟨l1, rfl, hr1, hm1, hw1, hc1⟩ := ReadsInt.ofRowC w1
 obtain ⟨k, h⟩ := P a0 l1 w0 hm1 y1 hw1
 refine (trivetlaw03_SplitFirst.calls k a0 _ _ l1 true w (Kd.C_of_reads (d := (0 : Int)) (h1 := fun _ => rfl) hr1) hc1 h).mono ?_
 rintro e w' ⟨rfl, hd⟩
 exact ⟨rfl, hd⟩

/-! ### trivetlaw03_same: function 12 -/
def trivetlaw03_same.l0 : Nat → List Int → List Int → Int → Option (Bool)
 | 0, _, _, _ => none
 | k + 1, x0, x1, x5 => if x5 < (x0.length : Int) then (if 0 ≤ x5 then (if x5 < (x1.length : Int) then (if (rd x0 x5) = (rd x1 x5) then (trivetlaw03_same.l0 k x0 x1 (wrap64 (x5 + 1))) else (some false)) else (none)) else (none)) else (some true)
def trivetlaw03_same.f (k : Nat) (l0 : List Int) (l1 : List Int) : Option (Bool) := if (l0.length : Int) = (l1.length : Int) then (trivetlaw03_same.l0 k l0 l1 0) else (some false)
theorem trivetlaw03_same.mono_l : ∀ k, (∀ y0 y1 y2, LeO (trivetlaw03_same.l0 k y0 y1 y2) (trivetlaw03_same.l0 (k + 1) y0 y1 y2))
 | 0 => fun _ _ _ r h => by simp [trivetlaw03_same.l0] at h
 | k + 1 => by
  have ih0 := trivetlaw03_same.mono_l k
  ·intro y0 y1 y2
   unfold trivetlaw03_same.l0
   repeat' first
   | (with_reducible exact ih0 _ _ _)
   | (with_reducible exact LeO.refl _)
   | (with_reducible exact LeO.none _)
   | (with_reducible refine LeO.ite ?_ ?_)
   | (with_reducible refine LeO.bind ?_ (fun _ => ?_))
   | exact ih0 _ _ _
   | exact LeO.none _
   | refine LeO.ite ?_ ?_
   | refine LeO.bind ?_ (fun _ => ?_)
theorem trivetlaw03_same.mono : ∀ a0 a1 k, LeO (trivetlaw03_same.f k a0 a1) (trivetlaw03_same.f (k + 1) a0 a1) := by
 intro a0 a1 k
 have ih0 := trivetlaw03_same.mono_l k
 unfold trivetlaw03_same.f
 repeat' first
   | (with_reducible exact ih0 _ _ _)
   | (with_reducible exact LeO.refl _)
   | (with_reducible exact LeO.none _)
   | (with_reducible refine LeO.ite ?_ ?_)
   | (with_reducible refine LeO.bind ?_ (fun _ => ?_))
   | exact ih0 _ _ _
   | exact LeO.none _
   | refine LeO.ite ?_ ?_
   | refine LeO.bind ?_ (fun _ => ?_)
set_option maxHeartbeats 8000000 in
set_option maxRecDepth 100000 in
theorem trivetlaw03_same.calls (k : Nat) (A0 : Option Addr) (c0 : Nat) (l0 : List Int) (A1 : Option Addr) (c1 : Nat) (l1 : List Int) (r : Bool) (w : World) (hr0 : Kd.C (Kd.int .i64) w A0 l0.length l0) (hc0 : l0.length ≤ c0) (hr1 : Kd.C (Kd.int .i64) w A1 l1.length l1) (hc1 : l1.length ≤ c1) (h : trivetlaw03_same.f k l0 l1 = some r) :
  Calls Try.prog 12 #[.slice A0 l0.length c0, .slice A1 l1.length c1] w fun e w' => e = .returned (.bool r) ∧ Drawn0 w w' := by
 have HR0 := ka hr0
 have HC0 := ka hc0
 clear hr0 hc0
 have HR1 := ka hr1
 have HC1 := ka hc1
 clear hr1 hc1
 have H : (if (l0.length : Int) = (l1.length : Int) then (trivetlaw03_same.l0 k l0 l1 0) else (some false)) = some r := h
 clear h
 by_cases c3 : (l0.length : Int) = (l1.length : Int)
 ·rw [if_pos c3] at H
  have c3b0 : ((l0.length : Int) == (l1.length : Int)) = true := beq_iff_eq.mpr c3
  have c3b1 : ((l0.length : Int) != (l1.length : Int)) = false := bne_eq_false_iff_eq.mpr c3
  have c3b2 : (l0.length == l1.length) = true := by first | simpa using c3 | (simp at c3 ⊢; omega)
  clear c3
  have H' := ka H
  clear H
  go_enter Try.func12, Try.ntmps12
  go_wp2
  repeat (go_quiet (fail); try go_wp2)
  (try simp only [Act.put, List.setIfInBounds_toArray, List.set_cons_zero, List.set_cons_succ])
  go_loopg [5] k (fun kq v5 w' => ∃ (x5_1 : Int), v5 = .int .i64 x5_1 ∧ Aside0 (trivetlaw03_same.l0 kq l0 l1 x5_1 = some r) ∧ Aside0 (kq ≤ k) ∧ Drawn0 w w')
  case atStart => exact ⟨(0), (by first | rfl | (simp; done) | (simp [*]; done)), H', ⟨Nat.le_refl _⟩, by repeat (first | exact Drawn0.refl _ | apply Drawn0.step)⟩
  case round =>
   clear H'
   try clear c1
   try clear p2
   try clear c3
   try clear c3b0
   try clear c3b1
   try clear c3b2
   obtain ⟨x5_1, rfl, HA, HK1, ⟨m1, rfl⟩⟩ := hrel
   cases gk with
   | zero => exact absurd HA.out (by simp [trivetlaw03_same.l0])
   | succ k1 =>
    have H := HA.out
    clear HA
    simp only [trivetlaw03_same.l0] at H
    by_cases c4 : x5_1 < (l0.length : Int)
    ·rw [if_pos c4] at H
     have c4b0 : decide (x5_1 < (l0.length : Int)) = true := decide_eq_true c4
     clear c4
     by_cases c5 : 0 ≤ x5_1
     ·rw [if_pos c5] at H
      have c5b0 : decide (0 ≤ x5_1) = true := decide_eq_true c5
      clear c5
      by_cases c6 : x5_1 < (l1.length : Int)
      ·rw [if_pos c6] at H
       have c6b0 : decide (x5_1 < (l1.length : Int)) = true := decide_eq_true c6
       clear c6
       by_cases c7 : (rd l0 x5_1) = (rd l1 x5_1)
       ·rw [if_pos c7] at H
        have c7b0 : ((rd l0 x5_1) == (rd l1 x5_1)) = true := beq_iff_eq.mpr c7
        have c7b1 : ((rd l0 x5_1) != (rd l1 x5_1)) = false := bne_eq_false_iff_eq.mpr c7
        clear c7
        have H' := ka H
        clear H
        have p310 : 0 ≤ (x5_1 : Int) := of_decide_eq_true (by first | (with_reducible assumption) | assumption)
        have q310 : x5_1 < (l0.length : Int) := of_decide_eq_true (by first | (with_reducible assumption) | assumption)
        obtain ⟨ad310, e310, hx310_0⟩ := Kd.at_int HR0.out x5_1 p310 q310
        cases e310
        replace p310 := eq_true p310
        replace q310 := eq_true q310
        have p311 : 0 ≤ (x5_1 : Int) := of_decide_eq_true (by first | (with_reducible assumption) | assumption)
        have q311 : x5_1 < (l1.length : Int) := of_decide_eq_true (by first | (with_reducible assumption) | assumption)
        obtain ⟨ad311, e311, hx311_0⟩ := Kd.at_int HR1.out x5_1 p311 q311
        cases e311
        replace p311 := eq_true p311
        replace q311 := eq_true q311
        go_wp2
        repeat (go_quiet (fail); try go_wp2)
        go_roundg k1
        case measure => have := HK1.out; omega
        case rel => exact ⟨(wrap64 (x5_1 + 1)), (by first | rfl | (simp; done) | (simp [*]; done)), H', ⟨by have := HK1.out; omega⟩, by repeat (first | exact Drawn0.refl _ | apply Drawn0.step)⟩
       ·rw [if_neg c7] at H
        have c7b0 : ((rd l0 x5_1) == (rd l1 x5_1)) = false := beq_eq_false_iff_ne.mpr c7
        have c7b1 : ((rd l0 x5_1) != (rd l1 x5_1)) = true := bne_iff_ne.mpr c7
        obtain rfl := Option.some.inj H
        have p310 : 0 ≤ (x5_1 : Int) := of_decide_eq_true (by first | (with_reducible assumption) | assumption)
        have q310 : x5_1 < (l0.length : Int) := of_decide_eq_true (by first | (with_reducible assumption) | assumption)
        obtain ⟨ad310, e310, hx310_0⟩ := Kd.at_int HR0.out x5_1 p310 q310
        cases e310
        replace p310 := eq_true p310
        replace q310 := eq_true q310
        have p311 : 0 ≤ (x5_1 : Int) := of_decide_eq_true (by first | (with_reducible assumption) | assumption)
        have q311 : x5_1 < (l1.length : Int) := of_decide_eq_true (by first | (with_reducible assumption) | assumption)
        obtain ⟨ad311, e311, hx311_0⟩ := Kd.at_int HR1.out x5_1 p311 q311
        cases e311
        replace p311 := eq_true p311
        replace q311 := eq_true q311
        go_wp2
        repeat (go_quiet (fail); try go_wp2)
        go_ret
        exact ⟨by first | rfl | (simp; done) | (simp [*]; done), by repeat (first | exact Drawn0.refl _ | apply Drawn0.step)⟩
      ·rw [if_neg c6] at H
       exact absurd H (by simp)
     ·rw [if_neg c5] at H
      exact absurd H (by simp)
    ·rw [if_neg c4] at H
     have c4b0 : decide (x5_1 < (l0.length : Int)) = false := decide_eq_false c4
     clear c4
     obtain rfl := Option.some.inj H
     go_wp2
     repeat (go_quiet (fail); try go_wp2)
     go_ret
     exact ⟨by first | rfl | (simp; done) | (simp [*]; done), by repeat (first | exact Drawn0.refl _ | apply Drawn0.step)⟩
 ·rw [if_neg c3] at H
  have c3b0 : ((l0.length : Int) == (l1.length : Int)) = false := beq_eq_false_iff_ne.mpr c3
  have c3b1 : ((l0.length : Int) != (l1.length : Int)) = true := bne_iff_ne.mpr c3
  have c3b2 : (l0.length == l1.length) = false := by first | simpa using c3 | (simp at c3 ⊢; omega)
  obtain rfl := Option.some.inj H
  go_enter Try.func12, Try.ntmps12
  go_wp2
  repeat (go_quiet (fail); try go_wp2)
  go_ret
  exact ⟨by first | rfl | (simp; done) | (simp [*]; done), by repeat (first | exact Drawn0.refl _ | apply Drawn0.step)⟩

/-! ### trivetlaw03_same: function 12, its laws -/
theorem trivetlaw03_same.loop (n : Nat) : ∀ (k i : Nat) (a : List Int), a.length = i + n → a.length ≤ 1000 → n < k → trivetlaw03_same.l0 k a a i = some true := by
 induction n with
 | zero =>
  intro k i a hl hm hk
  obtain ⟨j, rfl⟩ : ∃ j, k = j + 1 := ⟨k - 1, by omega⟩
  simp only [trivetlaw03_same.l0]
  rw [if_neg (by omega)]
 | succ n ih =>
  intro k i a hl hm hk
  obtain ⟨j, rfl⟩ : ∃ j, k = j + 1 := ⟨k - 1, by omega⟩
  simp only [trivetlaw03_same.l0]
  rw [if_pos (by omega), if_pos (by omega), if_pos (by omega), if_pos trivial, M.w64_id (n := (i : Int) + 1) (by omega) (by omega)]
  exact ih j (i + 1) a (by omega) hm (by omega)
theorem trivetlaw03_same.num (k : Nat) (a : List Int) (hm : a.length ≤ 1000) (hk : 1001 ≤ k) : trivetlaw03_same.f k a a = some true := by
 unfold trivetlaw03_same.f
 rw [if_pos rfl]
 exact trivetlaw03_same.loop a.length k 0 a (by omega) hm (by omega)

end Go.Proofs.Ytcpmfdagnchlbaa.P
