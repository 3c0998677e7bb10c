-- Written by a program of this session out of the translation of the seat: Lean functions and the proofs that the Go functions come to them.
import Derived.Test.YtjeghhheenenbaaPx0
import Derived.Test.YtjeghhheenenbaaPx1
import Derived.Test.YtjeghhheenenbaaPx2
namespace Go.Proofs.Ytjeghhheenenbaa.P
open Go.RowKit Go.Proofs.YtjeghhheenenbaaW.PrintWords Go.Proofs.YtjeghhheenenbaaW.PrintLast Go.Proofs.YtjeghhheenenbaaW.PrintMore
attribute [local go_sem] max2_int min2_int max_two min_two max_three min_three max_four min_four   -- for this text's walks alone
set_option linter.unusedVariables false
set_option linter.unusedSimpArgs false

/-! ### split_Shares: function 19 -/
mutual
def split_Shares.j0 : Nat → Int → List Int → Bool → Option (List Int × Option Int)
 | 0, _, _, _ => none
 | k + 1, x0, x1, x31 => if x31 = true then (some (([] : List Int), some 1)) else (split_Shares.l0 k x0 x1 0 x1 (x1.length : Int) 0)
def split_Shares.l0 : Nat → Int → List Int → Int → List Int → Int → Int → Option (List Int × Option Int)
 | 0, _, _, _, _, _, _ => none
 | k + 1, x0, x1, x6, x33, x34, x35 => if x35 < x34 then (if 0 ≤ x35 then (if x35 < (x33.length : Int) then (if (rd x33 x35) < 0 then (some (([] : List Int), some 1)) else (if (rd x33 x35) > 10000000000000 then (some (([] : List Int), some 1)) else (split_Shares.l0 k x0 x1 (IntKind.u64.wrap (x6 + (IntKind.u64.wrap (rd x33 x35)))) x33 x34 (wrap64 (x35 + 1))))) else (none)) else (none)) else (if x6 = 0 then (some (([] : List Int), some 1)) else (if 0 ≤ (x1.length : Int) then (if ((x1.length : Int) : Int).toNat ≤ 35184372088832 then (split_Shares.l1 k x0 x6 (List.replicate ((x1.length : Int) : Int).toNat 0) x0 ([] : List Int) x1 (x1.length : Int) 0 (List.replicate ((x1.length : Int) : Int).toNat 0)) else (none)) else (none)))
def split_Shares.l1 : Nat → Int → Int → List Int → Int → List Int → List Int → Int → Int → List Int → Option (List Int × Option Int)
 | 0, _, _, _, _, _, _, _, _, _ => none
 | k + 1, x0, x6, x9, x11, x12, x61, x62, x63, x414000 => if x63 < x62 then (if 0 ≤ x63 then (if x63 < (x61.length : Int) then ((bits_Mul64_s.f (IntKind.u64.wrap (x0)) (IntKind.u64.wrap (rd x61 x63))).bind fun bt415 => ((bits_Div64_s.f bt415.1 bt415.2 x6).bind fun bt417 => (if x63 < (x9.length : Int) then (if x63 < (x414000.length : Int) then (if x12.length < 17592186044416 then (split_Shares.l1 k x0 x6 (x9.set (x63 : Int).toNat (wrap64 (bt417.1))) (wrap64 (x11 - (wrap64 (bt417.1)))) (x12 ++ [x63]) x61 x62 (wrap64 (x63 + 1)) (x414000.set (x63 : Int).toNat bt417.2)) else (none)) else (none)) else (none)))) else (none)) else (none)) else (if Srt.ok x414000 x12 = true then (if 0 ≤ x11 then (if x11 ≤ (x12.length : Int) then ((some ((Srt.srt x414000 x12).take (x11 : Int).toNat : List Int)).bind fun y425 => (split_Shares.l2 k x9 y425 (y425.length : Int) 0)) else (none)) else (none)) else (none))
def split_Shares.l2 : Nat → List Int → List Int → Int → Int → Option (List Int × Option Int)
 | 0, _, _, _, _ => none
 | k + 1, x9, x106, x107, x108 => if x108 < x107 then (if 0 ≤ x108 then (if x108 < (x106.length : Int) then (if 0 ≤ (rd x106 x108) then (if (rd x106 x108) < (x9.length : Int) then (split_Shares.l2 k (x9.set ((rd x106 x108) : Int).toNat (wrap64 ((rd x9 (rd x106 x108)) + 1))) x106 x107 (wrap64 (x108 + 1))) else (none)) else (none)) else (none)) else (none)) else (some (x9, none))
end
def split_Shares.f (k : Nat) (a0 : Int) (l1 : List Int) : Option (List Int × Option Int) := if a0 < 0 then (split_Shares.j0 k a0 l1 true) else (if a0 > 10000000000000 then (split_Shares.j0 k a0 l1 true) else (split_Shares.j0 k a0 l1 (decide ((l1.length : Int) > 480))))
theorem split_Shares.mono_l : ∀ k, (∀ y0 y1 y2, LeO (split_Shares.j0 k y0 y1 y2) (split_Shares.j0 (k + 1) y0 y1 y2)) ∧ (∀ y0 y1 y2 y3 y4 y5, LeO (split_Shares.l0 k y0 y1 y2 y3 y4 y5) (split_Shares.l0 (k + 1) y0 y1 y2 y3 y4 y5)) ∧ (∀ y0 y1 y2 y3 y4 y5 y6 y7 y8, LeO (split_Shares.l1 k y0 y1 y2 y3 y4 y5 y6 y7 y8) (split_Shares.l1 (k + 1) y0 y1 y2 y3 y4 y5 y6 y7 y8)) ∧ (∀ y0 y1 y2 y3, LeO (split_Shares.l2 k y0 y1 y2 y3) (split_Shares.l2 (k + 1) y0 y1 y2 y3))
 | 0 => ⟨fun _ _ _ r h => by simp [split_Shares.j0] at h, fun _ _ _ _ _ _ r h => by simp [split_Shares.l0] at h, fun _ _ _ _ _ _ _ _ _ r h => by simp [split_Shares.l1] at h, fun _ _ _ _ r h => by simp [split_Shares.l2] at h⟩
 | k + 1 => by
  obtain ⟨ih0, ih1, ih2, ih3⟩ := split_Shares.mono_l k
  refine ⟨?_, ?_, ?_, ?_⟩
  ·intro y0 y1 y2
   unfold split_Shares.j0
   repeat' first
   | (with_reducible exact ih0 _ _ _)
   | (with_reducible exact ih1 _ _ _ _ _ _)
   | (with_reducible exact ih2 _ _ _ _ _ _ _ _ _)
   | (with_reducible exact ih3 _ _ _ _)
   | (with_reducible exact LeO.refl _)
   | (with_reducible exact LeO.none _)
   | (with_reducible refine LeO.ite ?_ ?_)
   | (with_reducible refine LeO.bind ?_ (fun _ => ?_))
   | exact ih0 _ _ _
   | exact ih1 _ _ _ _ _ _
   | exact ih2 _ _ _ _ _ _ _ _ _
   | exact ih3 _ _ _ _
   | exact LeO.none _
   | refine LeO.ite ?_ ?_
   | refine LeO.bind ?_ (fun _ => ?_)
  ·intro y0 y1 y2 y3 y4 y5
   unfold split_Shares.l0
   repeat' first
   | (with_reducible exact ih0 _ _ _)
   | (with_reducible exact ih1 _ _ _ _ _ _)
   | (with_reducible exact ih2 _ _ _ _ _ _ _ _ _)
   | (with_reducible exact ih3 _ _ _ _)
   | (with_reducible exact LeO.refl _)
   | (with_reducible exact LeO.none _)
   | (with_reducible refine LeO.ite ?_ ?_)
   | (with_reducible refine LeO.bind ?_ (fun _ => ?_))
   | exact ih0 _ _ _
   | exact ih1 _ _ _ _ _ _
   | exact ih2 _ _ _ _ _ _ _ _ _
   | exact ih3 _ _ _ _
   | exact LeO.none _
   | refine LeO.ite ?_ ?_
   | refine LeO.bind ?_ (fun _ => ?_)
  ·intro y0 y1 y2 y3 y4 y5 y6 y7 y8
   unfold split_Shares.l1
   repeat' first
   | (with_reducible exact ih0 _ _ _)
   | (with_reducible exact ih1 _ _ _ _ _ _)
   | (with_reducible exact ih2 _ _ _ _ _ _ _ _ _)
   | (with_reducible exact ih3 _ _ _ _)
   | (with_reducible exact LeO.refl _)
   | (with_reducible exact LeO.none _)
   | (with_reducible refine LeO.ite ?_ ?_)
   | (with_reducible refine LeO.bind ?_ (fun _ => ?_))
   | exact ih0 _ _ _
   | exact ih1 _ _ _ _ _ _
   | exact ih2 _ _ _ _ _ _ _ _ _
   | exact ih3 _ _ _ _
   | exact LeO.none _
   | refine LeO.ite ?_ ?_
   | refine LeO.bind ?_ (fun _ => ?_)
  ·intro y0 y1 y2 y3
   unfold split_Shares.l2
   repeat' first
   | (with_reducible exact ih0 _ _ _)
   | (with_reducible exact ih1 _ _ _ _ _ _)
   | (with_reducible exact ih2 _ _ _ _ _ _ _ _ _)
   | (with_reducible exact ih3 _ _ _ _)
   | (with_reducible exact LeO.refl _)
   | (with_reducible exact LeO.none _)
   | (with_reducible refine LeO.ite ?_ ?_)
   | (with_reducible refine LeO.bind ?_ (fun _ => ?_))
   | exact ih0 _ _ _
   | exact ih1 _ _ _ _ _ _
   | exact ih2 _ _ _ _ _ _ _ _ _
   | exact ih3 _ _ _ _
   | exact LeO.none _
   | refine LeO.ite ?_ ?_
   | refine LeO.bind ?_ (fun _ => ?_)
theorem split_Shares.mono : ∀ a0 a1 k, LeO (split_Shares.f k a0 a1) (split_Shares.f (k + 1) a0 a1) := by
 intro a0 a1 k
 obtain ⟨ih0, ih1, ih2, ih3⟩ := split_Shares.mono_l k
 unfold split_Shares.f
 repeat' first
   | (with_reducible exact ih0 _ _ _)
   | (with_reducible exact ih1 _ _ _ _ _ _)
   | (with_reducible exact ih2 _ _ _ _ _ _ _ _ _)
   | (with_reducible exact ih3 _ _ _ _)
   | (with_reducible exact LeO.refl _)
   | (with_reducible exact LeO.none _)
   | (with_reducible refine LeO.ite ?_ ?_)
   | (with_reducible refine LeO.bind ?_ (fun _ => ?_))
   | exact ih0 _ _ _
   | exact ih1 _ _ _ _ _ _
   | exact ih2 _ _ _ _ _ _ _ _ _
   | exact ih3 _ _ _ _
   | exact LeO.none _
   | refine LeO.ite ?_ ?_
   | refine LeO.bind ?_ (fun _ => ?_)
def split_Shares.T13 : Bool × List (List Nat × List Nat) := (true, [([], []), ([0], [0]), ([1, 1], [1]), ([], []), ([3], [3]), ([4, 4], [4]), ([], []), ([2, 0, 1, 2, 6], [2]), ([6, 5, 7, 0, 1, 2, 3, 4, 5, 6, 7], [5, 6])])
def split_Shares.B13 : List Nat := [0, 1, 3, 0, 8, 24, 0, 71, 255]
theorem split_Shares.tab13 : rtab .any (opsOf Try.f19 13) = split_Shares.T13 := by kernel_rfl
theorem split_Shares.bits13 : waitsOk split_Shares.T13.2 split_Shares.B13 = true := by kernel_rfl
def split_Shares.T21 : Bool × List (List Nat × List Nat) := (true, [([], []), ([], []), ([], []), ([], []), ([], []), ([4], [4]), ([], []), ([0, 1, 0, 1, 4, 5], [0, 1]), ([7, 5, 0, 1, 4, 5], [5, 7]), ([2, 3, 0, 1, 2, 3, 4, 5, 6, 7, 8], [2, 3]), ([9, 6, 8, 0, 1, 2, 3, 4, 5, 6, 7, 8], [6, 9])])
def split_Shares.B21 : List Nat := [0, 0, 0, 0, 0, 16, 0, 51, 179, 511, 1023]
theorem split_Shares.tab21 : rtab .any (opsOf Try.f19 21) = split_Shares.T21 := by kernel_rfl
theorem split_Shares.bits21 : waitsOk split_Shares.T21.2 split_Shares.B21 = true := by kernel_rfl
set_option maxHeartbeats 8000000 in
set_option maxRecDepth 100000 in
theorem split_Shares.calls (k : Nat) (a0 : Int) (A1 : Option Addr) (c1 : Nat) (l1 : List Int) (r1 : List Int) (r2 : Option Int) (w : World) (hr1 : Kd.C (Kd.int .i64) w A1 l1.length l1) (hc1 : l1.length ≤ c1) (h : split_Shares.f k a0 l1 = some (r1, r2)) :
  Calls Try.prog 19 #[.int .i64 a0, .slice A1 l1.length c1] w fun e w' => ∃ v0_ : Value, e = .returned (.tuple #[v0_, errW r2]) ∧ Kd.R (Kd.int .i64) 2 w' w.heap.size (fun _ => True) v0_ r1 ∧ Below w.heap.size w w' := by
 have hu29 := Try.underlying29
 have hu34 := Try.underlying34
 have HR1 := ka hr1
 have HC1 := ka hc1
 clear hr1 hc1
 have HB := ka (Below.refl w.heap.size w)
 have H : (if a0 < 0 then (split_Shares.j0 k a0 l1 true) else (if a0 > 10000000000000 then (split_Shares.j0 k a0 l1 true) else (split_Shares.j0 k a0 l1 (decide ((l1.length : Int) > 480))))) = some (r1, r2) := h
 clear h
 have HC3 := ka H
 clear H
 go_enter Try.func19, Try.ntmps19
 go_upto_region 1 with (fail)
 go_cut [31] (fun v31 wc => ∃ (kq : Nat) (x31_2 : Bool), v31 = .bool x31_2 ∧ Aside0 (split_Shares.j0 kq a0 l1 x31_2 = some (r1, r2)) ∧ Aside0 (kq ≤ k) ∧ Aside0 (Below w.heap.size w wc))
 case first =>
  have H := HC3.out
  clear HC3
  by_cases c4 : a0 < 0
  ·rw [if_pos c4] at H
   have c4b0 : decide (a0 < 0) = true := decide_eq_true c4
   clear c4
   (first | rw [c4b0] | (simp only [i64_w, i32_w]; rw [c4b0]) | skip)
   have H' := ka H
   clear H
   go_wp2
   go_meet
   case rel => exact ⟨_, (true), (by first | rfl | (simp; done) | (simp [*]; done)), H', ⟨by first | omega | exact Nat.le_refl _⟩, ⟨by repeat (first | (with_reducible first | exact HB.out | apply kc1 | apply kc2 | apply kc3) | exact HB.out)⟩⟩
  ·rw [if_neg c4] at H
   have c4b0 : decide (a0 < 0) = false := decide_eq_false c4
   clear c4
   (first | rw [c4b0] | (simp only [i64_w, i32_w]; rw [c4b0]) | skip)
   by_cases c5 : a0 > 10000000000000
   ·rw [if_pos c5] at H
    have c5b0 : decide (10000000000000 < a0) = true := decide_eq_true c5
    clear c5
    have H' := ka H
    clear H
    go_wp2
    go_meet
    case rel => exact ⟨_, (true), (by first | rfl | (simp; done) | (simp [*]; done)), H', ⟨by first | omega | exact Nat.le_refl _⟩, ⟨by repeat (first | (with_reducible first | exact HB.out | apply kc1 | apply kc2 | apply kc3) | exact HB.out)⟩⟩
   ·rw [if_neg c5] at H
    have c5b0 : decide (10000000000000 < a0) = false := decide_eq_false c5
    clear c5
    have H' := ka H
    clear H
    go_wp2
    go_meet
    case rel => exact ⟨_, (decide ((l1.length : Int) > 480)), (by first | rfl | (simp; done) | (simp [*]; done)), H', ⟨by first | omega | exact Nat.le_refl _⟩, ⟨by repeat (first | (with_reducible first | exact HB.out | apply kc1 | apply kc2 | apply kc3) | exact HB.out)⟩⟩
 case rest =>
  clear HC3
  try clear c1
  try clear p2
  try clear c4
  try clear c4b0
  try clear c5
  try clear c5b0
  obtain ⟨kq, x31_2, rfl, HA, HJ2, HB⟩ := hcut
  cases kq with
  | zero => exact absurd HA.out (by simp [split_Shares.j0])
  | succ kj2 =>
   have H := HA.out
   clear HA
   simp only [split_Shares.j0] at H
   by_cases c6 : x31_2 = true
   ·subst c6
    have H1 : (some (([] : List Int), some 1)) = some (r1, r2) := by rw [if_pos rfl] at H; exact H
    clear H
    have H := H1
    clear H1
    simp only [Option.some.injEq, Prod.mk.injEq] at H
    obtain ⟨rfl, rfl⟩ := H
    go_wp2
    go_ret2
    exact ⟨_, by first | rfl | (simp [errW_none, errW_some] <;> rfl) | (simp [*, errW_none, errW_some] <;> rfl), by first | exact Kd.R_nil _ _ _ _ _ | exact Kd.N_nil _ _ _ _ _ | exact Kd.V_nil _ _ _ _ _ | exact Kd.Q_nil _ _ _ _ _ | exact Kd.S_nil _ _ _ _ _, by repeat (first | (with_reducible first | exact HB.out | apply kc1 | apply kc2 | apply kc3) | exact HB.out)⟩
   ·replace c6 := Bool.eq_false_iff.mpr c6
    subst c6
    have H1 : (split_Shares.l0 kj2 a0 l1 0 l1 (l1.length : Int) 0) = some (r1, r2) := by rw [if_neg (show ¬ (false = true) by decide)] at H; exact H
    clear H
    have H := H1
    clear H1
    have H' := ka H
    clear H
    go_wp2
    (try simp only [Act.put, List.setIfInBounds_toArray, List.set_cons_zero, List.set_cons_succ])
    go_loopg [6, 35] kj2 (fun kq v6 v35 w' => ∃ (x6_2 : Int) (x35_2 : Int), v6 = .int .u64 x6_2 ∧ v35 = .int .i64 x35_2 ∧ Aside0 (split_Shares.l0 kq a0 l1 x6_2 l1 (l1.length : Int) x35_2 = some (r1, r2)) ∧ Aside0 (kq ≤ kj2) ∧ Aside0 (Below w.heap.size w w'))
    case atStart => exact ⟨(0), (0), (by first | rfl | (simp; done) | (simp [*]; done)), (by first | rfl | (simp; done) | (simp [*]; done)), H', ⟨Nat.le_refl _⟩, ⟨by repeat (first | (with_reducible first | exact HB.out | apply kc1 | apply kc2 | apply kc3) | exact HB.out)⟩⟩
    case round =>
     clear H'
     try clear c1
     try clear p2
     try clear c4
     try clear c4b0
     try clear c5
     try clear c5b0
     try clear c6
     try clear p2
     obtain ⟨x6_2, x35_2, rfl, rfl, HA, HK2, HB⟩ := hrel
     cases gk with
     | zero => exact absurd HA.out (by simp [split_Shares.l0])
     | succ k2 =>
      have H := HA.out
      clear HA
      simp only [split_Shares.l0] at H
      by_cases c7 : x35_2 < (l1.length : Int)
      ·rw [if_pos c7] at H
       have c7b0 : decide (x35_2 < (l1.length : Int)) = true := decide_eq_true c7
       clear c7
       by_cases c8 : 0 ≤ x35_2
       ·rw [if_pos c8] at H
        have c8b0 : decide (0 ≤ x35_2) = true := decide_eq_true c8
        clear c8
        by_cases c9 : x35_2 < (l1.length : Int)
        ·rw [if_pos c9] at H
         have c9b0 : decide (x35_2 < (l1.length : Int)) = true := decide_eq_true c9
         clear c9
         by_cases c10 : (rd l1 x35_2) < 0
         ·rw [if_pos c10] at H
          have c10b0 : decide ((rd l1 x35_2) < 0) = true := decide_eq_true c10
          clear c10
          simp only [Option.some.injEq, Prod.mk.injEq] at H
          obtain ⟨rfl, rfl⟩ := H
          have p406 : 0 ≤ (x35_2 : Int) := of_decide_eq_true (by first | (with_reducible assumption) | assumption)
          have q406 : x35_2 < (l1.length : Int) := of_decide_eq_true (by first | (with_reducible assumption) | assumption)
          obtain ⟨ad406, e406, hx406_0⟩ := Kd.at_int HR1.out x35_2 p406 q406
          cases e406
          replace hx406_0 := (HB.out.cell (World.block_lt_of_cell? w _ hx406_0)).trans hx406_0
          replace p406 := eq_true p406
          replace q406 := eq_true q406
          go_wp2
          go_ret2
          exact ⟨_, by first | rfl | (simp [errW_none, errW_some] <;> rfl) | (simp [*, errW_none, errW_some] <;> rfl), by first | exact Kd.R_nil _ _ _ _ _ | exact Kd.N_nil _ _ _ _ _ | exact Kd.V_nil _ _ _ _ _ | exact Kd.Q_nil _ _ _ _ _ | exact Kd.S_nil _ _ _ _ _, by repeat (first | (with_reducible first | exact HB.out | apply kc1 | apply kc2 | apply kc3) | exact HB.out)⟩
         ·rw [if_neg c10] at H
          have c10b0 : decide ((rd l1 x35_2) < 0) = false := decide_eq_false c10
          clear c10
          by_cases c11 : (rd l1 x35_2) > 10000000000000
          ·rw [if_pos c11] at H
           have c11b0 : decide (10000000000000 < (rd l1 x35_2)) = true := decide_eq_true c11
           clear c11
           simp only [Option.some.injEq, Prod.mk.injEq] at H
           obtain ⟨rfl, rfl⟩ := H
           have p406 : 0 ≤ (x35_2 : Int) := of_decide_eq_true (by first | (with_reducible assumption) | assumption)
           have q406 : x35_2 < (l1.length : Int) := of_decide_eq_true (by first | (with_reducible assumption) | assumption)
           obtain ⟨ad406, e406, hx406_0⟩ := Kd.at_int HR1.out x35_2 p406 q406
           cases e406
           replace hx406_0 := (HB.out.cell (World.block_lt_of_cell? w _ hx406_0)).trans hx406_0
           replace p406 := eq_true p406
           replace q406 := eq_true q406
           go_wp2
           go_ret2
           exact ⟨_, by first | rfl | (simp [errW_none, errW_some] <;> rfl) | (simp [*, errW_none, errW_some] <;> rfl), by first | exact Kd.R_nil _ _ _ _ _ | exact Kd.N_nil _ _ _ _ _ | exact Kd.V_nil _ _ _ _ _ | exact Kd.Q_nil _ _ _ _ _ | exact Kd.S_nil _ _ _ _ _, by repeat (first | (with_reducible first | exact HB.out | apply kc1 | apply kc2 | apply kc3) | exact HB.out)⟩
          ·rw [if_neg c11] at H
           have c11b0 : decide (10000000000000 < (rd l1 x35_2)) = false := decide_eq_false c11
           clear c11
           have H' := ka H
           clear H
           have p406 : 0 ≤ (x35_2 : Int) := of_decide_eq_true (by first | (with_reducible assumption) | assumption)
           have q406 : x35_2 < (l1.length : Int) := of_decide_eq_true (by first | (with_reducible assumption) | assumption)
           obtain ⟨ad406, e406, hx406_0⟩ := Kd.at_int HR1.out x35_2 p406 q406
           cases e406
           replace hx406_0 := (HB.out.cell (World.block_lt_of_cell? w _ hx406_0)).trans hx406_0
           replace p406 := eq_true p406
           replace q406 := eq_true q406
           go_wp2
           go_roundg k2
           case measure => have := HJ2.out; have := HK2.out; omega
           case rel => exact ⟨(IntKind.u64.wrap (x6_2 + (IntKind.u64.wrap (rd l1 x35_2)))), (wrap64 (x35_2 + 1)), (by first | rfl | (simp; done) | (simp [*]; done)), (by first | rfl | (simp; done) | (simp [*]; done)), H', ⟨by have := HJ2.out; have := HK2.out; omega⟩, ⟨by repeat (first | (with_reducible first | exact HB.out | apply kc1 | apply kc2 | apply kc3) | exact HB.out)⟩⟩
        ·rw [if_neg c9] at H
         exact absurd H (by simp)
       ·rw [if_neg c8] at H
        exact absurd H (by simp)
      ·rw [if_neg c7] at H
       have c7b0 : decide (x35_2 < (l1.length : Int)) = false := decide_eq_false c7
       clear c7
       by_cases c12 : x6_2 = 0
       ·rw [if_pos c12] at H
        have c12b0 : (x6_2 == 0) = true := beq_iff_eq.mpr c12
        have c12b1 : (x6_2 != 0) = false := bne_eq_false_iff_eq.mpr c12
        clear c12
        simp only [Option.some.injEq, Prod.mk.injEq] at H
        obtain ⟨rfl, rfl⟩ := H
        go_wp2
        go_ret2
        exact ⟨_, by first | rfl | (simp [errW_none, errW_some] <;> rfl) | (simp [*, errW_none, errW_some] <;> rfl), by first | exact Kd.R_nil _ _ _ _ _ | exact Kd.N_nil _ _ _ _ _ | exact Kd.V_nil _ _ _ _ _ | exact Kd.Q_nil _ _ _ _ _ | exact Kd.S_nil _ _ _ _ _, by repeat (first | (with_reducible first | exact HB.out | apply kc1 | apply kc2 | apply kc3) | exact HB.out)⟩
       ·rw [if_neg c12] at H
        have c12b0 : (x6_2 == 0) = false := beq_eq_false_iff_ne.mpr c12
        have c12b1 : (x6_2 != 0) = true := bne_iff_ne.mpr c12
        by_cases c13 : 0 ≤ (l1.length : Int)
        ·rw [if_pos c13] at H
         have c13b0 := eq_true c13
         have c13b1 : decide (0 ≤ (l1.length : Int)) = true := decide_eq_true c13
         clear c13
         by_cases c14 : ((l1.length : Int) : Int).toNat ≤ 35184372088832
         ·rw [if_pos c14] at H
          have c14b0 := eq_true c14
          have c14b1 : decide (((l1.length : Int) : Int).toNat ≤ 35184372088832) = true := decide_eq_true c14
          clear c14
          obtain ⟨y407, hy407⟩ : ∃ y_ : List Int, y_ = (List.replicate ((l1.length : Int) : Int).toNat 0) := ⟨_, rfl⟩
          replace H : (split_Shares.l1 k2 a0 x6_2 y407 a0 ([] : List Int) l1 (l1.length : Int) 0 (List.replicate ((l1.length : Int) : Int).toNat 0)) = some (r1, r2) := by first | (rw [hy407]; with_reducible exact H) | (have H2_ := (Option.bind_some _ _).symm.trans H; rw [hy407]; with_reducible exact H2_) | (have H2_ := (Option.bind_some _ _).symm.trans H; with_reducible exact H2_) | with_reducible exact H | (rw [hy407]; exact H) | exact H
          have Ny407 := ka hy407
          clear hy407
          obtain ⟨y410, hy410⟩ : ∃ y_ : List Int, y_ = (List.replicate ((l1.length : Int) : Int).toNat 0) := ⟨_, rfl⟩
          replace H : (split_Shares.l1 k2 a0 x6_2 y407 a0 ([] : List Int) l1 (l1.length : Int) 0 y410) = some (r1, r2) := by first | (rw [hy410]; with_reducible exact H) | (have H2_ := (Option.bind_some _ _).symm.trans H; rw [hy410]; with_reducible exact H2_) | (have H2_ := (Option.bind_some _ _).symm.trans H; with_reducible exact H2_) | with_reducible exact H | (rw [hy410]; exact H) | exact H
          have Ny410 := ka hy410
          clear hy410
          have H' := ka H
          clear H
          try go_wp2
          replace HB := ka (below_drew1 HB.out)
          refine start_ (n := 9) (S := fun w' => True) (ds := []) #[false, false, false, false, false, false, false, false, false] (by kernel_rfl) rfl rfl trivial (fun hHeld => ?_); refine with_tabW split_Shares.tab13 split_Shares.bits13 (fun HT_ HW_ => ?_)
          generalize wr.drew = w15 at HB hHeld ⊢
          refine pure_ (i := 0) (N := some 54) (v := ?_) (a' := ?_) #[true, false, false, false, false, false, false, false, false] rfl rfl (any_of HT_.out (by kernel_rfl)) (fun _ _ _ h => h) (Or.inl ⟨by rfl, ?_⟩) ?_ ?_
          rotate_left
          ·intro w'
           go_simp
           with_reducible rfl
          rotate_left
          ·simp only [Act.put, List.setIfInBounds_toArray, List.set_cons_zero, List.set_cons_succ, i64_w, i32_w]
           rfl
          refine pure_ (i := 1) (N := some 55) (v := ?_) (a' := ?_) #[true, true, false, false, false, false, false, false, false] rfl rfl (any_of HT_.out (by kernel_rfl)) (fun _ _ _ h => h) (Or.inl ⟨by rfl, ?_⟩) ?_ ?_
          rotate_left
          ·intro w'
           go_simp
           with_reducible rfl
          rotate_left
          ·simp only [Act.put, List.setIfInBounds_toArray, List.set_cons_zero, List.set_cons_succ, i64_w, i32_w]
           rfl
          refine pure_ (i := 3) (N := some 57) (v := ?_) (a' := ?_) #[true, true, false, true, false, false, false, false, false] rfl rfl (any_of HT_.out (by kernel_rfl)) (fun _ _ _ h => h) (Or.inl ⟨by rfl, ?_⟩) ?_ ?_
          rotate_left
          ·intro w'
           go_simp
           with_reducible rfl
          rotate_left
          ·simp only [Act.put, List.setIfInBounds_toArray, List.set_cons_zero, List.set_cons_succ, i64_w, i32_w]
           rfl
          refine pure_ (i := 4) (N := some 58) (v := ?_) (a' := ?_) #[true, true, false, true, true, false, false, false, false] rfl rfl (any_of HT_.out (by kernel_rfl)) (fun _ _ _ h => h) (Or.inl ⟨by rfl, ?_⟩) ?_ ?_
          rotate_left
          ·intro w'
           go_simp
           with_reducible rfl
          rotate_left
          ·simp only [Act.put, List.setIfInBounds_toArray, List.set_cons_zero, List.set_cons_succ, i64_w, i32_w]
           rfl
          refine join_ (σ := Value × Value × Nat) 1 #[true, true, true, true, true, true, true, true, false] (fun s_ => [(56, s_.1), (59, s_.2.1), (10, .pointer (some ⟨s_.2.2, 0, none⟩)), (9, s_.1)]) (fun s_ w' => (Kd.R (Kd.int .i64) 2 w' w.heap.size (fun _ => True) s_.1 y407) ∧ (Kd.R (Kd.int .u64) 46 w' w.heap.size (fun _ => True) s_.2.1 y410) ∧ (w'.heap[s_.2.2]? = some (.cells #[.slice none 0 0] 47 (0, 0))) ∧ (w.heap.size ≤ s_.2.2) ∧ (w.heap.size ≤ s_.2.2) ∧ (Below w.heap.size w w')) ?_ ?_
          rotate_left
          ·intro hJ2_5_6
           refine join_ (σ := Value × Value) 3 #[true, true, true, true, true, true, false, false, false] (fun s_ => [(56, s_.1), (59, s_.2)]) (fun s_ w' => (Kd.R (Kd.int .i64) 2 w' w.heap.size (fun _ => True) s_.1 y407) ∧ (Kd.R (Kd.int .u64) 46 w' w.heap.size (fun _ => True) s_.2 y410) ∧ (Below w.heap.size w w')) ?_ ?_
           rotate_left
           ·intro hJ2_5
            refine join_ (σ := Value × Nat) 2 #[true, true, true, true, true, false, true, true, false] (fun s_ => [(56, s_.1), (10, .pointer (some ⟨s_.2, 0, none⟩)), (9, s_.1)]) (fun s_ w' => (Kd.R (Kd.int .i64) 2 w' w.heap.size (fun _ => True) s_.1 y407) ∧ (w'.heap[s_.2]? = some (.cells #[.slice none 0 0] 47 (0, 0))) ∧ (w.heap.size ≤ s_.2) ∧ (w.heap.size ≤ s_.2) ∧ (Below w.heap.size w w')) ?_ ?_
            rotate_left
            ·intro hJ2_6
             refine join_ (σ := Value × Nat) 3 #[true, true, false, true, true, true, true, false, false] (fun s_ => [(59, s_.1), (10, .pointer (some ⟨s_.2, 0, none⟩))]) (fun s_ w' => (Kd.R (Kd.int .u64) 46 w' w.heap.size (fun _ => True) s_.1 y410) ∧ (w'.heap[s_.2]? = some (.cells #[.slice none 0 0] 47 (0, 0))) ∧ (w.heap.size ≤ s_.2) ∧ (w.heap.size ≤ s_.2) ∧ (Below w.heap.size w w')) ?_ ?_
             rotate_left
             ·intro hJ5_6
              refine join_ (σ := Value) 4 #[true, true, true, true, true, false, false, false, false] (fun s_ => [(56, s_)]) (fun s_ w' => (Kd.R (Kd.int .i64) 2 w' w.heap.size (fun _ => True) s_ y407) ∧ (Below w.heap.size w w')) ?_ ?_
              rotate_left
              ·intro hJ2
               refine join_ (σ := Value) 4 #[true, true, false, true, true, true, false, false, false] (fun s_ => [(59, s_)]) (fun s_ w' => (Kd.R (Kd.int .u64) 46 w' w.heap.size (fun _ => True) s_ y410) ∧ (Below w.heap.size w w')) ?_ ?_
               rotate_left
               ·intro hJ5
                refine join_ (σ := Nat) 4 #[true, true, false, true, true, false, true, false, false] (fun s_ => [(10, .pointer (some ⟨s_, 0, none⟩))]) (fun s_ w' => (w'.heap[s_]? = some (.cells #[.slice none 0 0] 47 (0, 0))) ∧ (w.heap.size ≤ s_) ∧ (w.heap.size ≤ s_) ∧ (Below w.heap.size w w')) ?_ ?_
                rotate_left
                ·intro hJ6
                 refine three_ (i := 2) (j := 5) (k := 6) (Ni := some 56) (Nj := some 59) (Nk := some 10) #[true, true, true, true, true, false, false, false, false] #[true, true, false, true, true, true, false, false, false] #[true, true, false, true, true, false, true, false, false] rfl rfl rfl rfl rfl rfl (three_of HT_.out (by kernel_rfl)) (by decide) (by decide) (by decide) (fun K hK => ?_) (fun K hK => ?_) (fun K hK => ?_)
                 ·skip
                  refine Kd.R_make_step (Kd.int .i64) _ 2 (by rfl) (N := 56) rfl 22 _ _ rfl (l1.length : Int) rfl rfl Try.underlying22 (.int .i64 0) 8 info2 rfl (by decide) (by omega) 0 (ok := fun _ => True) (okp := fun _ => True) rfl (fun _ hk => hk) trivial (of_decide_eq_true (by first | (with_reducible assumption) | assumption)) (Nat.le_trans (Nat.mul_le_mul_right _ (of_decide_eq_true (by first | (with_reducible assumption) | assumption) : (l1.length : Int).toNat ≤ 35184372088832)) (by omega)) (Below.refl _ _) (Nat.le_refl _) ?_
                  intro v408 w16 ho17 hb hg_ hnew_
                  clear hg_ hnew_
                  (first | rw [← Ny407.out] at ho17 | (simp only [Int.reduceToNat] at ho17; rw [← Ny407.out] at ho17))
                  have HO409 := ka (Kd.R_lower ho17 (below_size (kw HB.out)))
                  replace HB := ka (below_step (kw HB.out) hb)
                  clear hb ho17
                  refine hK.out _ _ trivial (fun hHeld => ?_)
                  clear hK K
                  refine norm_ (a' := ?_) ?_ ?_
                  rotate_left
                  ·show Act.put _ (some 56) _ = _
                   simp only [Act.put, List.setIfInBounds_toArray, List.set_cons_zero, List.set_cons_succ, i64_w, i32_w]
                   rfl
                  exact norm_ (by first | (simp only [putAll, Act.put, List.setIfInBounds_toArray, List.set_cons_zero, List.set_cons_succ]; done) | (simp only [putAll, Act.put, List.setIfInBounds_toArray, List.set_cons_zero, List.set_cons_succ]; rfl)) (hJ2 (_) _ ⟨(kr HO409.out), (kw HB.out)⟩)
                 ·skip
                  refine Kd.R_make_step (Kd.int .u64) _ 46 (by rfl) (N := 59) rfl 47 _ _ rfl (l1.length : Int) rfl rfl Try.underlying47 (.int .u64 0) 8 info46 rfl (by decide) (by omega) 0 (ok := fun _ => True) (okp := fun _ => True) rfl (fun _ hk => hk) trivial (of_decide_eq_true (by first | (with_reducible assumption) | assumption)) (Nat.le_trans (Nat.mul_le_mul_right _ (of_decide_eq_true (by first | (with_reducible assumption) | assumption) : (l1.length : Int).toNat ≤ 35184372088832)) (by omega)) (Below.refl _ _) (Nat.le_refl _) ?_
                  intro v411 w16 ho17 hb hg_ hnew_
                  clear hg_ hnew_
                  (first | rw [← Ny410.out] at ho17 | (simp only [Int.reduceToNat] at ho17; rw [← Ny410.out] at ho17))
                  have HO412 := ka (Kd.R_lower ho17 (below_size (kw HB.out)))
                  replace HB := ka (below_step (kw HB.out) hb)
                  clear hb ho17
                  refine hK.out _ _ trivial (fun hHeld => ?_)
                  clear hK K
                  refine norm_ (a' := ?_) ?_ ?_
                  rotate_left
                  ·show Act.put _ (some 59) _ = _
                   simp only [Act.put, List.setIfInBounds_toArray, List.set_cons_zero, List.set_cons_succ, i64_w, i32_w]
                   rfl
                  exact norm_ (by first | (simp only [putAll, Act.put, List.setIfInBounds_toArray, List.set_cons_zero, List.set_cons_succ]; done) | (simp only [putAll, Act.put, List.setIfInBounds_toArray, List.set_cons_zero, List.set_cons_succ]; rfl)) (hJ5 (_) _ ⟨(kr HO412.out), (kw HB.out)⟩)
                 ·skip
                  refine box_step ?hg (N := 10) ?hd (cs := #[.slice none 0 0]) (t := 47) ?hr ?_; (case hd => rfl); (case hg => rfl); (case hr => first | (go_simp; done) | (go_simp; rfl))
                  intro gb413 hg w16 hbox hb
                  have BK413 := ka (hbox)
                  have GW413 := ka ((by rw [hg]; exact (below_size (kw HB.out)) : w.heap.size ≤ gb413))
                  have GE413 := ka ((by rw [hg]; exact (below_size (kw HB.out)) : w.heap.size ≤ gb413))
                  replace HB := ka (below_step (kw HB.out) hb)
                  clear hb hbox hg
                  refine hK.out _ _ trivial (fun hHeld => ?_)
                  clear hK K
                  refine norm_ (a' := ?_) ?_ ?_
                  rotate_left
                  ·show Act.put _ (some 10) _ = _
                   simp only [Act.put, List.setIfInBounds_toArray, List.set_cons_zero, List.set_cons_succ, i64_w, i32_w]
                   rfl
                  exact norm_ (by first | (simp only [putAll, Act.put, List.setIfInBounds_toArray, List.set_cons_zero, List.set_cons_succ]; done) | (simp only [putAll, Act.put, List.setIfInBounds_toArray, List.set_cons_zero, List.set_cons_succ]; rfl)) (hJ6 (gb413) _ ⟨(kz BK413.out), GW413.out, GE413.out, (kw HB.out)⟩)
                ·skip
                 rintro gb413 w17 ⟨h0_, h1_, h2_, h3_⟩
                 have BK413 : Aside0 (w17.heap[gb413]? = some (.cells #[.slice none 0 0] 47 (0, 0))) := ⟨h0_⟩
                 have GW413 : Aside0 (w.heap.size ≤ gb413) := ⟨h1_⟩
                 have GE413 : Aside0 (w.heap.size ≤ gb413) := ⟨h2_⟩
                 replace HB : Aside0 (Below w.heap.size w w17) := ⟨h3_⟩
                 clear h0_ h1_ h2_ h3_
                 have hHeld := trivial
                 refine norm_ (a' := ?_) ?_ ?_
                 rotate_left
                 ·simp only [putAll, Act.put, List.setIfInBounds_toArray, List.set_cons_zero, List.set_cons_succ]
                  rfl
                 refine two_ (i := 2) (j := 5) (Ni := some 56) (Nj := some 59) #[true, true, true, true, true, false, true, false, false] #[true, true, false, true, true, true, true, false, false] rfl rfl rfl rfl (two_of HT_.out (by kernel_rfl)) (by decide) (by decide) (fun K hK => ?_) (fun K hK => ?_)
                 ·skip
                  refine Kd.R_make_step (Kd.int .i64) _ 2 (by rfl) (N := 56) rfl 22 _ _ rfl (l1.length : Int) rfl rfl Try.underlying22 (.int .i64 0) 8 info2 rfl (by decide) (by omega) 0 (ok := fun _ => True) (okp := fun _ => True) rfl (fun _ hk => hk) trivial (of_decide_eq_true (by first | (with_reducible assumption) | assumption)) (Nat.le_trans (Nat.mul_le_mul_right _ (of_decide_eq_true (by first | (with_reducible assumption) | assumption) : (l1.length : Int).toNat ≤ 35184372088832)) (by omega)) (Below.refl _ _) (Nat.le_refl _) ?_
                  intro v408 w18 ho19 hb hg_ hnew_
                  clear hg_ hnew_
                  (first | rw [← Ny407.out] at ho19 | (simp only [Int.reduceToNat] at ho19; rw [← Ny407.out] at ho19))
                  have HO409 := ka (Kd.R_lower ho19 (below_size (kw HB.out)))
                  replace BK413 := kbb BK413 hb
                  replace HB := ka (below_step (kw HB.out) hb)
                  clear hb ho19
                  refine hK.out _ _ trivial (fun hHeld => ?_)
                  clear hK K
                  refine norm_ (a' := ?_) ?_ ?_
                  rotate_left
                  ·show Act.put _ (some 56) _ = _
                   simp only [Act.put, List.setIfInBounds_toArray, List.set_cons_zero, List.set_cons_succ, i64_w, i32_w]
                   rfl
                  refine pure_ (i := 7) (N := some 9) (v := ?_) (a' := ?_) #[true, true, true, true, true, false, true, true, false] rfl rfl (any_of HT_.out (by kernel_rfl)) (fun _ _ _ h => h) (Or.inl ⟨by rfl, ?_⟩) ?_ ?_
                  rotate_left
                  ·intro w'
                   go_simp
                   with_reducible rfl
                  rotate_left
                  ·simp only [Act.put, List.setIfInBounds_toArray, List.set_cons_zero, List.set_cons_succ, i64_w, i32_w]
                   rfl
                  exact norm_ (by first | (simp only [putAll, Act.put, List.setIfInBounds_toArray, List.set_cons_zero, List.set_cons_succ]; done) | (simp only [putAll, Act.put, List.setIfInBounds_toArray, List.set_cons_zero, List.set_cons_succ]; rfl)) (hJ2_6 (_, gb413) _ ⟨(kr HO409.out), (kz BK413.out), GW413.out, GE413.out, (kw HB.out)⟩)
                 ·skip
                  refine Kd.R_make_step (Kd.int .u64) _ 46 (by rfl) (N := 59) rfl 47 _ _ rfl (l1.length : Int) rfl rfl Try.underlying47 (.int .u64 0) 8 info46 rfl (by decide) (by omega) 0 (ok := fun _ => True) (okp := fun _ => True) rfl (fun _ hk => hk) trivial (of_decide_eq_true (by first | (with_reducible assumption) | assumption)) (Nat.le_trans (Nat.mul_le_mul_right _ (of_decide_eq_true (by first | (with_reducible assumption) | assumption) : (l1.length : Int).toNat ≤ 35184372088832)) (by omega)) (Below.refl _ _) (Nat.le_refl _) ?_
                  intro v411 w18 ho19 hb hg_ hnew_
                  clear hg_ hnew_
                  (first | rw [← Ny410.out] at ho19 | (simp only [Int.reduceToNat] at ho19; rw [← Ny410.out] at ho19))
                  have HO412 := ka (Kd.R_lower ho19 (below_size (kw HB.out)))
                  replace BK413 := kbb BK413 hb
                  replace HB := ka (below_step (kw HB.out) hb)
                  clear hb ho19
                  refine hK.out _ _ trivial (fun hHeld => ?_)
                  clear hK K
                  refine norm_ (a' := ?_) ?_ ?_
                  rotate_left
                  ·show Act.put _ (some 59) _ = _
                   simp only [Act.put, List.setIfInBounds_toArray, List.set_cons_zero, List.set_cons_succ, i64_w, i32_w]
                   rfl
                  exact norm_ (by first | (simp only [putAll, Act.put, List.setIfInBounds_toArray, List.set_cons_zero, List.set_cons_succ]; done) | (simp only [putAll, Act.put, List.setIfInBounds_toArray, List.set_cons_zero, List.set_cons_succ]; rfl)) (hJ5_6 (_, gb413) _ ⟨(kr HO412.out), (kz BK413.out), GW413.out, GE413.out, (kw HB.out)⟩)
               ·skip
                rintro v411 w18 ⟨h0_, h1_⟩
                have HO412 : Aside0 (Kd.R (Kd.int .u64) 46 w18 w.heap.size (fun _ => True) v411 y410) := ⟨h0_⟩
                replace HB : Aside0 (Below w.heap.size w w18) := ⟨h1_⟩
                clear h0_ h1_
                have hHeld := trivial
                refine norm_ (a' := ?_) ?_ ?_
                rotate_left
                ·simp only [putAll, Act.put, List.setIfInBounds_toArray, List.set_cons_zero, List.set_cons_succ]
                 rfl
                refine two_ (i := 2) (j := 6) (Ni := some 56) (Nj := some 10) #[true, true, true, true, true, true, false, false, false] #[true, true, false, true, true, true, true, false, false] rfl rfl rfl rfl (two_of HT_.out (by kernel_rfl)) (by decide) (by decide) (fun K hK => ?_) (fun K hK => ?_)
                ·skip
                 refine Kd.R_make_step (Kd.int .i64) _ 2 (by rfl) (N := 56) rfl 22 _ _ rfl (l1.length : Int) rfl rfl Try.underlying22 (.int .i64 0) 8 info2 rfl (by decide) (by omega) 0 (ok := fun _ => True) (okp := fun _ => True) rfl (fun _ hk => hk) trivial (of_decide_eq_true (by first | (with_reducible assumption) | assumption)) (Nat.le_trans (Nat.mul_le_mul_right _ (of_decide_eq_true (by first | (with_reducible assumption) | assumption) : (l1.length : Int).toNat ≤ 35184372088832)) (by omega)) (Below.refl _ _) (Nat.le_refl _) ?_
                 intro v408 w19 ho20 hb hg_ hnew_
                 clear hg_ hnew_
                 (first | rw [← Ny407.out] at ho20 | (simp only [Int.reduceToNat] at ho20; rw [← Ny407.out] at ho20))
                 replace HO412 := ka (Kd.R_below (kr HO412.out) hb)
                 have HO409 := ka (Kd.R_lower ho20 (below_size (kw HB.out)))
                 replace HB := ka (below_step (kw HB.out) hb)
                 clear hb ho20
                 refine hK.out _ _ trivial (fun hHeld => ?_)
                 clear hK K
                 refine norm_ (a' := ?_) ?_ ?_
                 rotate_left
                 ·show Act.put _ (some 56) _ = _
                  simp only [Act.put, List.setIfInBounds_toArray, List.set_cons_zero, List.set_cons_succ, i64_w, i32_w]
                  rfl
                 exact norm_ (by first | (simp only [putAll, Act.put, List.setIfInBounds_toArray, List.set_cons_zero, List.set_cons_succ]; done) | (simp only [putAll, Act.put, List.setIfInBounds_toArray, List.set_cons_zero, List.set_cons_succ]; rfl)) (hJ2_5 (_, _) _ ⟨(kr HO409.out), (kr HO412.out), (kw HB.out)⟩)
                ·skip
                 refine box_step ?hg (N := 10) ?hd (cs := #[.slice none 0 0]) (t := 47) ?hr ?_; (case hd => rfl); (case hg => rfl); (case hr => first | (go_simp; done) | (go_simp; rfl))
                 intro gb413 hg w19 hbox hb
                 replace HO412 := ka (Kd.R_below (kr HO412.out) hb)
                 have BK413 := ka (hbox)
                 have GW413 := ka ((by rw [hg]; exact (below_size (kw HB.out)) : w.heap.size ≤ gb413))
                 have GE413 := ka ((by rw [hg]; exact (below_size (kw HB.out)) : w.heap.size ≤ gb413))
                 replace HB := ka (below_step (kw HB.out) hb)
                 clear hb hbox hg
                 refine hK.out _ _ trivial (fun hHeld => ?_)
                 clear hK K
                 refine norm_ (a' := ?_) ?_ ?_
                 rotate_left
                 ·show Act.put _ (some 10) _ = _
                  simp only [Act.put, List.setIfInBounds_toArray, List.set_cons_zero, List.set_cons_succ, i64_w, i32_w]
                  rfl
                 exact norm_ (by first | (simp only [putAll, Act.put, List.setIfInBounds_toArray, List.set_cons_zero, List.set_cons_succ]; done) | (simp only [putAll, Act.put, List.setIfInBounds_toArray, List.set_cons_zero, List.set_cons_succ]; rfl)) (hJ5_6 (_, gb413) _ ⟨(kr HO412.out), (kz BK413.out), GW413.out, GE413.out, (kw HB.out)⟩)
              ·skip
               rintro v408 w18 ⟨h0_, h1_⟩
               have HO409 : Aside0 (Kd.R (Kd.int .i64) 2 w18 w.heap.size (fun _ => True) v408 y407) := ⟨h0_⟩
               replace HB : Aside0 (Below w.heap.size w w18) := ⟨h1_⟩
               clear h0_ h1_
               have hHeld := trivial
               refine norm_ (a' := ?_) ?_ ?_
               rotate_left
               ·simp only [putAll, Act.put, List.setIfInBounds_toArray, List.set_cons_zero, List.set_cons_succ]
                rfl
               refine two_ (i := 5) (j := 6) (Ni := some 59) (Nj := some 10) #[true, true, true, true, true, true, false, false, false] #[true, true, true, true, true, false, true, false, false] rfl rfl rfl rfl (two_of HT_.out (by kernel_rfl)) (by decide) (by decide) (fun K hK => ?_) (fun K hK => ?_)
               ·skip
                refine Kd.R_make_step (Kd.int .u64) _ 46 (by rfl) (N := 59) rfl 47 _ _ rfl (l1.length : Int) rfl rfl Try.underlying47 (.int .u64 0) 8 info46 rfl (by decide) (by omega) 0 (ok := fun _ => True) (okp := fun _ => True) rfl (fun _ hk => hk) trivial (of_decide_eq_true (by first | (with_reducible assumption) | assumption)) (Nat.le_trans (Nat.mul_le_mul_right _ (of_decide_eq_true (by first | (with_reducible assumption) | assumption) : (l1.length : Int).toNat ≤ 35184372088832)) (by omega)) (Below.refl _ _) (Nat.le_refl _) ?_
                intro v411 w19 ho20 hb hg_ hnew_
                clear hg_ hnew_
                (first | rw [← Ny410.out] at ho20 | (simp only [Int.reduceToNat] at ho20; rw [← Ny410.out] at ho20))
                replace HO409 := ka (Kd.R_below (kr HO409.out) hb)
                have HO412 := ka (Kd.R_lower ho20 (below_size (kw HB.out)))
                replace HB := ka (below_step (kw HB.out) hb)
                clear hb ho20
                refine hK.out _ _ trivial (fun hHeld => ?_)
                clear hK K
                refine norm_ (a' := ?_) ?_ ?_
                rotate_left
                ·show Act.put _ (some 59) _ = _
                 simp only [Act.put, List.setIfInBounds_toArray, List.set_cons_zero, List.set_cons_succ, i64_w, i32_w]
                 rfl
                exact norm_ (by first | (simp only [putAll, Act.put, List.setIfInBounds_toArray, List.set_cons_zero, List.set_cons_succ]; done) | (simp only [putAll, Act.put, List.setIfInBounds_toArray, List.set_cons_zero, List.set_cons_succ]; rfl)) (hJ2_5 (_, _) _ ⟨(kr HO409.out), (kr HO412.out), (kw HB.out)⟩)
               ·skip
                refine box_step ?hg (N := 10) ?hd (cs := #[.slice none 0 0]) (t := 47) ?hr ?_; (case hd => rfl); (case hg => rfl); (case hr => first | (go_simp; done) | (go_simp; rfl))
                intro gb413 hg w19 hbox hb
                replace HO409 := ka (Kd.R_below (kr HO409.out) hb)
                have BK413 := ka (hbox)
                have GW413 := ka ((by rw [hg]; exact (below_size (kw HB.out)) : w.heap.size ≤ gb413))
                have GE413 := ka ((by rw [hg]; exact (below_size (kw HB.out)) : w.heap.size ≤ gb413))
                replace HB := ka (below_step (kw HB.out) hb)
                clear hb hbox hg
                refine hK.out _ _ trivial (fun hHeld => ?_)
                clear hK K
                refine norm_ (a' := ?_) ?_ ?_
                rotate_left
                ·show Act.put _ (some 10) _ = _
                 simp only [Act.put, List.setIfInBounds_toArray, List.set_cons_zero, List.set_cons_succ, i64_w, i32_w]
                 rfl
                refine pure_ (i := 7) (N := some 9) (v := ?_) (a' := ?_) #[true, true, true, true, true, false, true, true, false] rfl rfl (any_of HT_.out (by kernel_rfl)) (fun _ _ _ h => h) (Or.inl ⟨by rfl, ?_⟩) ?_ ?_
                rotate_left
                ·intro w'
                 go_simp
                 with_reducible rfl
                rotate_left
                ·simp only [Act.put, List.setIfInBounds_toArray, List.set_cons_zero, List.set_cons_succ, i64_w, i32_w]
                 rfl
                exact norm_ (by first | (simp only [putAll, Act.put, List.setIfInBounds_toArray, List.set_cons_zero, List.set_cons_succ]; done) | (simp only [putAll, Act.put, List.setIfInBounds_toArray, List.set_cons_zero, List.set_cons_succ]; rfl)) (hJ2_6 (_, gb413) _ ⟨(kr HO409.out), (kz BK413.out), GW413.out, GE413.out, (kw HB.out)⟩)
             ·skip
              rintro ⟨v411, gb413⟩ w19 ⟨h0_, h1_, h2_, h3_, h4_⟩
              have HO412 : Aside0 (Kd.R (Kd.int .u64) 46 w19 w.heap.size (fun _ => True) v411 y410) := ⟨h0_⟩
              have BK413 : Aside0 (w19.heap[gb413]? = some (.cells #[.slice none 0 0] 47 (0, 0))) := ⟨h1_⟩
              have GW413 : Aside0 (w.heap.size ≤ gb413) := ⟨h2_⟩
              have GE413 : Aside0 (w.heap.size ≤ gb413) := ⟨h3_⟩
              replace HB : Aside0 (Below w.heap.size w w19) := ⟨h4_⟩
              clear h0_ h1_ h2_ h3_ h4_
              have hHeld := trivial
              refine norm_ (a' := ?_) ?_ ?_
              rotate_left
              ·simp only [putAll, Act.put, List.setIfInBounds_toArray, List.set_cons_zero, List.set_cons_succ]
               rfl
              refine one_ (i := 2) (N := some 56) #[true, true, true, true, true, true, true, false, false] rfl rfl (one_of HT_.out (by kernel_rfl)) (by decide) (fun K hK => ?_)
              refine Kd.R_make_step (Kd.int .i64) _ 2 (by rfl) (N := 56) rfl 22 _ _ rfl (l1.length : Int) rfl rfl Try.underlying22 (.int .i64 0) 8 info2 rfl (by decide) (by omega) 0 (ok := fun _ => True) (okp := fun _ => True) rfl (fun _ hk => hk) trivial (of_decide_eq_true (by first | (with_reducible assumption) | assumption)) (Nat.le_trans (Nat.mul_le_mul_right _ (of_decide_eq_true (by first | (with_reducible assumption) | assumption) : (l1.length : Int).toNat ≤ 35184372088832)) (by omega)) (Below.refl _ _) (Nat.le_refl _) ?_
              intro v408 w20 ho21 hb hg_ hnew_
              clear hg_ hnew_
              (first | rw [← Ny407.out] at ho21 | (simp only [Int.reduceToNat] at ho21; rw [← Ny407.out] at ho21))
              replace HO412 := ka (Kd.R_below (kr HO412.out) hb)
              have HO409 := ka (Kd.R_lower ho21 (below_size (kw HB.out)))
              replace BK413 := kbb BK413 hb
              replace HB := ka (below_step (kw HB.out) hb)
              clear hb ho21
              refine hK.out _ _ trivial (fun hHeld => ?_)
              clear hK K
              refine norm_ (a' := ?_) ?_ ?_
              rotate_left
              ·show Act.put _ (some 56) _ = _
               simp only [Act.put, List.setIfInBounds_toArray, List.set_cons_zero, List.set_cons_succ, i64_w, i32_w]
               rfl
              refine pure_ (i := 7) (N := some 9) (v := ?_) (a' := ?_) #[true, true, true, true, true, true, true, true, false] rfl rfl (any_of HT_.out (by kernel_rfl)) (fun _ _ _ h => h) (Or.inl ⟨by rfl, ?_⟩) ?_ ?_
              rotate_left
              ·intro w'
               go_simp
               with_reducible rfl
              rotate_left
              ·simp only [Act.put, List.setIfInBounds_toArray, List.set_cons_zero, List.set_cons_succ, i64_w, i32_w]
               rfl
              exact norm_ (by first | (simp only [putAll, Act.put, List.setIfInBounds_toArray, List.set_cons_zero, List.set_cons_succ]; done) | (simp only [putAll, Act.put, List.setIfInBounds_toArray, List.set_cons_zero, List.set_cons_succ]; rfl)) (hJ2_5_6 (_, _, gb413) _ ⟨(kr HO409.out), (kr HO412.out), (kz BK413.out), GW413.out, GE413.out, (kw HB.out)⟩)
            ·skip
             rintro ⟨v408, gb413⟩ w19 ⟨h0_, h1_, h2_, h3_, h4_⟩
             have HO409 : Aside0 (Kd.R (Kd.int .i64) 2 w19 w.heap.size (fun _ => True) v408 y407) := ⟨h0_⟩
             have BK413 : Aside0 (w19.heap[gb413]? = some (.cells #[.slice none 0 0] 47 (0, 0))) := ⟨h1_⟩
             have GW413 : Aside0 (w.heap.size ≤ gb413) := ⟨h2_⟩
             have GE413 : Aside0 (w.heap.size ≤ gb413) := ⟨h3_⟩
             replace HB : Aside0 (Below w.heap.size w w19) := ⟨h4_⟩
             clear h0_ h1_ h2_ h3_ h4_
             have hHeld := trivial
             refine norm_ (a' := ?_) ?_ ?_
             rotate_left
             ·simp only [putAll, Act.put, List.setIfInBounds_toArray, List.set_cons_zero, List.set_cons_succ]
              rfl
             refine one_ (i := 5) (N := some 59) #[true, true, true, true, true, true, true, true, false] rfl rfl (one_of HT_.out (by kernel_rfl)) (by decide) (fun K hK => ?_)
             refine Kd.R_make_step (Kd.int .u64) _ 46 (by rfl) (N := 59) rfl 47 _ _ rfl (l1.length : Int) rfl rfl Try.underlying47 (.int .u64 0) 8 info46 rfl (by decide) (by omega) 0 (ok := fun _ => True) (okp := fun _ => True) rfl (fun _ hk => hk) trivial (of_decide_eq_true (by first | (with_reducible assumption) | assumption)) (Nat.le_trans (Nat.mul_le_mul_right _ (of_decide_eq_true (by first | (with_reducible assumption) | assumption) : (l1.length : Int).toNat ≤ 35184372088832)) (by omega)) (Below.refl _ _) (Nat.le_refl _) ?_
             intro v411 w20 ho21 hb hg_ hnew_
             clear hg_ hnew_
             (first | rw [← Ny410.out] at ho21 | (simp only [Int.reduceToNat] at ho21; rw [← Ny410.out] at ho21))
             replace HO409 := ka (Kd.R_below (kr HO409.out) hb)
             have HO412 := ka (Kd.R_lower ho21 (below_size (kw HB.out)))
             replace BK413 := kbb BK413 hb
             replace HB := ka (below_step (kw HB.out) hb)
             clear hb ho21
             refine hK.out _ _ trivial (fun hHeld => ?_)
             clear hK K
             refine norm_ (a' := ?_) ?_ ?_
             rotate_left
             ·show Act.put _ (some 59) _ = _
              simp only [Act.put, List.setIfInBounds_toArray, List.set_cons_zero, List.set_cons_succ, i64_w, i32_w]
              rfl
             exact norm_ (by first | (simp only [putAll, Act.put, List.setIfInBounds_toArray, List.set_cons_zero, List.set_cons_succ]; done) | (simp only [putAll, Act.put, List.setIfInBounds_toArray, List.set_cons_zero, List.set_cons_succ]; rfl)) (hJ2_5_6 (_, _, gb413) _ ⟨(kr HO409.out), (kr HO412.out), (kz BK413.out), GW413.out, GE413.out, (kw HB.out)⟩)
           ·skip
            rintro ⟨v408, v411⟩ w20 ⟨h0_, h1_, h2_⟩
            have HO409 : Aside0 (Kd.R (Kd.int .i64) 2 w20 w.heap.size (fun _ => True) v408 y407) := ⟨h0_⟩
            have HO412 : Aside0 (Kd.R (Kd.int .u64) 46 w20 w.heap.size (fun _ => True) v411 y410) := ⟨h1_⟩
            replace HB : Aside0 (Below w.heap.size w w20) := ⟨h2_⟩
            clear h0_ h1_ h2_
            have hHeld := trivial
            refine norm_ (a' := ?_) ?_ ?_
            rotate_left
            ·simp only [putAll, Act.put, List.setIfInBounds_toArray, List.set_cons_zero, List.set_cons_succ]
             rfl
            refine one_ (i := 6) (N := some 10) #[true, true, true, true, true, true, true, false, false] rfl rfl (one_of HT_.out (by kernel_rfl)) (by decide) (fun K hK => ?_)
            refine box_step ?hg (N := 10) ?hd (cs := #[.slice none 0 0]) (t := 47) ?hr ?_; (case hd => rfl); (case hg => rfl); (case hr => first | (go_simp; done) | (go_simp; rfl))
            intro gb413 hg w21 hbox hb
            replace HO409 := ka (Kd.R_below (kr HO409.out) hb)
            replace HO412 := ka (Kd.R_below (kr HO412.out) hb)
            have BK413 := ka (hbox)
            have GW413 := ka ((by rw [hg]; exact (below_size (kw HB.out)) : w.heap.size ≤ gb413))
            have GE413 := ka ((by rw [hg]; exact (below_size (kw HB.out)) : w.heap.size ≤ gb413))
            replace HB := ka (below_step (kw HB.out) hb)
            clear hb hbox hg
            refine hK.out _ _ trivial (fun hHeld => ?_)
            clear hK K
            refine norm_ (a' := ?_) ?_ ?_
            rotate_left
            ·show Act.put _ (some 10) _ = _
             simp only [Act.put, List.setIfInBounds_toArray, List.set_cons_zero, List.set_cons_succ, i64_w, i32_w]
             rfl
            refine pure_ (i := 7) (N := some 9) (v := ?_) (a' := ?_) #[true, true, true, true, true, true, true, true, false] rfl rfl (any_of HT_.out (by kernel_rfl)) (fun _ _ _ h => h) (Or.inl ⟨by rfl, ?_⟩) ?_ ?_
            rotate_left
            ·intro w'
             go_simp
             with_reducible rfl
            rotate_left
            ·simp only [Act.put, List.setIfInBounds_toArray, List.set_cons_zero, List.set_cons_succ, i64_w, i32_w]
             rfl
            exact norm_ (by first | (simp only [putAll, Act.put, List.setIfInBounds_toArray, List.set_cons_zero, List.set_cons_succ]; done) | (simp only [putAll, Act.put, List.setIfInBounds_toArray, List.set_cons_zero, List.set_cons_succ]; rfl)) (hJ2_5_6 (_, _, gb413) _ ⟨(kr HO409.out), (kr HO412.out), (kz BK413.out), GW413.out, GE413.out, (kw HB.out)⟩)
          rintro ⟨v408, v411, gb413⟩ w21 ⟨h0_, h1_, h2_, h3_, h4_, h5_⟩
          have HO409 : Aside0 (Kd.R (Kd.int .i64) 2 w21 w.heap.size (fun _ => True) v408 y407) := ⟨h0_⟩
          have HO412 : Aside0 (Kd.R (Kd.int .u64) 46 w21 w.heap.size (fun _ => True) v411 y410) := ⟨h1_⟩
          have BK413 : Aside0 (w21.heap[gb413]? = some (.cells #[.slice none 0 0] 47 (0, 0))) := ⟨h2_⟩
          have GW413 : Aside0 (w.heap.size ≤ gb413) := ⟨h3_⟩
          have GE413 : Aside0 (w.heap.size ≤ gb413) := ⟨h4_⟩
          replace HB : Aside0 (Below w.heap.size w w21) := ⟨h5_⟩
          clear h0_ h1_ h2_ h3_ h4_ h5_
          have hHeld := trivial
          obtain ⟨Ao22, co22, eo22⟩ := Kd.R_slice HO412.out
          (first | subst eo22 | (injection eo22 with f1_ f2_ f3_; have f4_ := f1_.symm; have f5_ := f3_.symm; clear f1_ f2_ f3_; subst f4_; subst f5_))
          refine norm_ (a' := ?_) ?_ ?_
          rotate_left
          ·simp only [putAll, Act.put, List.setIfInBounds_toArray, List.set_cons_zero, List.set_cons_succ]
           rfl
          refine one_ (i := 8) (N := none) #[true, true, true, true, true, true, true, true, true] rfl rfl (one_of HT_.out (by kernel_rfl)) (by decide) (fun K hK => ?_)
          have hs23 : w21.cell? ⟨gb413, 0, none⟩ = some (.slice none 0 0) := (blk_cell BK413.out 0).trans rfl
          have hfs23 := blk_frozen BK413.out 0
          refine skip_ (w1 := ?_) (by rfl) rfl ?_ ?_
          rotate_left
          ·go_simp
           rfl
          refine hK.out _ _ trivial (fun hHeld => ?_)
          clear hK K
          refine done_ (done_of HT_.out (by kernel_rfl)) ?_
          try go_wp2
          (try simp only [Act.put, List.setIfInBounds_toArray, List.set_cons_zero, List.set_cons_succ])
          go_loopg [11, 12, 63] k2 (fun kq v11 v12 v63 w' => ∃ (x9_3 : List Int) (x11_3 : Int) (x12_3 : List Int) (x63_3 : Int) (x414000_3 : List Int) (u414000 : Value), v11 = .int .i64 x11_3 ∧ v63 = .int .i64 x63_3 ∧ Aside0 (split_Shares.l1 kq a0 x6_2 x9_3 x11_3 x12_3 l1 (l1.length : Int) x63_3 x414000_3 = some (r1, r2)) ∧ Aside0 (kq ≤ k2) ∧ Aside0 (Kd.R (Kd.int .i64) 2 w' w.heap.size (fun _ => True) v408 x9_3) ∧ Aside0 (Kd.R (Kd.int .i64) 3 w' w.heap.size (fun _ => True) v12 x12_3) ∧ Aside0 (Kd.R (Kd.int .u64) 46 w' w.heap.size (fun _ => True) u414000 x414000_3) ∧ Aside0 (w'.heap[gb413]? = some (.cells #[u414000] 47 (0, 0))) ∧ Aside0 (Below w.heap.size w w'))
          case atStart => exact ⟨(y407), (a0), (([] : List Int)), (0), (y410), (.slice Ao22 y410.length co22), (by first | rfl | (simp; done) | (simp [*]; done)), (by first | rfl | (simp; done) | (simp [*]; done)), H', ⟨Nat.le_refl _⟩, ⟨kr (Kd.R_mono (Kd.R_far (p := ⟨gb413, 0, none⟩) (Kd.R_types HO409.out BK413.out (by decide)) (fun _ hk => hk.2) (.slice Ao22 y410.length co22)) (fun _ hk => trivial))⟩, ⟨by first | exact Kd.R_nil _ _ _ _ _ | exact Kd.N_nil _ _ _ _ _ | exact Kd.V_nil _ _ _ _ _ | exact Kd.Q_nil _ _ _ _ _ | exact Kd.S_nil _ _ _ _ _⟩, ⟨kr (Kd.R_mono (Kd.R_far (p := ⟨gb413, 0, none⟩) (Kd.R_types HO412.out BK413.out (by decide)) (fun _ hk => hk.2) (.slice Ao22 y410.length co22)) (fun _ hk => trivial))⟩, ⟨by (with_reducible repeat (first | apply kb1 | apply kb2 | apply kb3)); refine blk_put (cs := #[.slice none 0 0]) ?_ 0 _ rfl; (with_reducible repeat (first | apply kb1 | apply kb2 | apply kb3)); exact BK413.out⟩, ⟨by repeat (first | (with_reducible first | exact HB.out | apply kc1 | apply kc2 | apply kc3 | refine kc4 ?_ GE413.out) | exact HB.out)⟩⟩
          case round =>
           clear H'
           try clear c1
           try clear p2
           try clear p4
           try clear q4
           try clear hx4
           try clear p6
           try clear c7
           try clear c7b0
           try clear c8
           try clear c9
           try clear c10
           try clear c10b0
           try clear c11
           try clear c11b0
           try clear c12
           try clear c12b0
           try clear c12b1
           try clear c13
           try clear c13b0
           try clear c13b1
           try clear c14
           try clear c14b0
           try clear c14b1
           try clear hx406_0
           try clear p406
           try clear q406
           obtain ⟨x9_3, x11_3, x12_3, x63_3, x414000_3, u414000, rfl, rfl, HA, HK3, HO_9, HO_12, HO_414000, BK413, HB⟩ := hrel
           cases gk with
           | zero => exact absurd HA.out (by simp [split_Shares.l1])
           | succ k3 =>
            have H := HA.out
            clear HA
            simp only [split_Shares.l1] at H
            by_cases c24 : x63_3 < (l1.length : Int)
            ·rw [if_pos c24] at H
             have c24b0 : decide (x63_3 < (l1.length : Int)) = true := decide_eq_true c24
             clear c24
             by_cases c25 : 0 ≤ x63_3
             ·rw [if_pos c25] at H
              have c25b0 : decide (0 ≤ x63_3) = true := decide_eq_true c25
              clear c25
              by_cases c26 : x63_3 < (l1.length : Int)
              ·rw [if_pos c26] at H
               have c26b0 : decide (x63_3 < (l1.length : Int)) = true := decide_eq_true c26
               clear c26
               replace H := Option.bind_eq_some_iff.mp H
               obtain ⟨⟨t415, t416⟩, A270, H⟩ := H
               replace H : ((bits_Div64_s.f t415 t416 x6_2).bind fun bt417 => (if x63_3 < (x9_3.length : Int) then (if x63_3 < (x414000_3.length : Int) then (if x12_3.length < 17592186044416 then (split_Shares.l1 k3 a0 x6_2 (x9_3.set (x63_3 : Int).toNat (wrap64 (bt417.1))) (wrap64 (x11_3 - (wrap64 (bt417.1)))) (x12_3 ++ [x63_3]) l1 (l1.length : Int) (wrap64 (x63_3 + 1)) (x414000_3.set (x63_3 : Int).toNat bt417.2)) else (none)) else (none)) else (none))) = some (r1, r2) := H
               have A27 := ka A270
               clear A270
               replace H := Option.bind_eq_some_iff.mp H
               obtain ⟨⟨t417, t418⟩, A280, H⟩ := H
               replace H : (if x63_3 < (x9_3.length : Int) then (if x63_3 < (x414000_3.length : Int) then (if x12_3.length < 17592186044416 then (split_Shares.l1 k3 a0 x6_2 (x9_3.set (x63_3 : Int).toNat (wrap64 (t417))) (wrap64 (x11_3 - (wrap64 (t417)))) (x12_3 ++ [x63_3]) l1 (l1.length : Int) (wrap64 (x63_3 + 1)) (x414000_3.set (x63_3 : Int).toNat t418)) else (none)) else (none)) else (none)) = some (r1, r2) := H
               have A28 := ka A280
               clear A280
               by_cases c29 : x63_3 < (x9_3.length : Int)
               ·rw [if_pos c29] at H
                have c29b0 : decide (x63_3 < (x9_3.length : Int)) = true := decide_eq_true c29
                clear c29
                obtain ⟨y419, hy419⟩ : ∃ y_ : List Int, y_ = (x9_3.set (x63_3 : Int).toNat (wrap64 (t417))) := ⟨_, rfl⟩
                replace H : (if x63_3 < (x414000_3.length : Int) then (if x12_3.length < 17592186044416 then (split_Shares.l1 k3 a0 x6_2 y419 (wrap64 (x11_3 - (wrap64 (t417)))) (x12_3 ++ [x63_3]) l1 (l1.length : Int) (wrap64 (x63_3 + 1)) (x414000_3.set (x63_3 : Int).toNat t418)) else (none)) else (none)) = some (r1, r2) := by first | (rw [hy419]; with_reducible exact H) | (have H2_ := (Option.bind_some _ _).symm.trans H; rw [hy419]; with_reducible exact H2_) | (have H2_ := (Option.bind_some _ _).symm.trans H; with_reducible exact H2_) | with_reducible exact H | (rw [hy419]; exact H) | exact H
                have Ny419 := ka hy419
                clear hy419
                by_cases c31 : x63_3 < (x414000_3.length : Int)
                ·rw [if_pos c31] at H
                 have c31b0 : decide (x63_3 < (x414000_3.length : Int)) = true := decide_eq_true c31
                 clear c31
                 obtain ⟨y420, hy420⟩ : ∃ y_ : List Int, y_ = (x414000_3.set (x63_3 : Int).toNat t418) := ⟨_, rfl⟩
                 replace H : (if x12_3.length < 17592186044416 then (split_Shares.l1 k3 a0 x6_2 y419 (wrap64 (x11_3 - (wrap64 (t417)))) (x12_3 ++ [x63_3]) l1 (l1.length : Int) (wrap64 (x63_3 + 1)) y420) else (none)) = some (r1, r2) := by first | (rw [hy420]; with_reducible exact H) | (have H2_ := (Option.bind_some _ _).symm.trans H; rw [hy420]; with_reducible exact H2_) | (have H2_ := (Option.bind_some _ _).symm.trans H; with_reducible exact H2_) | with_reducible exact H | (rw [hy420]; exact H) | exact H
                 have Ny420 := ka hy420
                 clear hy420
                 by_cases c33 : x12_3.length < 17592186044416
                 ·rw [if_pos c33] at H
                  have LMc33 := ka c33
                  clear c33
                  obtain ⟨y421, hy421⟩ : ∃ y_ : List Int, y_ = (x12_3 ++ [x63_3]) := ⟨_, rfl⟩
                  replace H : (split_Shares.l1 k3 a0 x6_2 y419 (wrap64 (x11_3 - (wrap64 (t417)))) y421 l1 (l1.length : Int) (wrap64 (x63_3 + 1)) y420) = some (r1, r2) := by first | (rw [hy421]; with_reducible exact H) | (have H2_ := (Option.bind_some _ _).symm.trans H; rw [hy421]; with_reducible exact H2_) | (have H2_ := (Option.bind_some _ _).symm.trans H; with_reducible exact H2_) | with_reducible exact H | (rw [hy421]; exact H) | exact H
                  have Ny421 := ka hy421
                  clear hy421
                  have H' := ka H
                  clear H
                  have p414 : 0 ≤ (x63_3 : Int) := of_decide_eq_true (by first | (with_reducible assumption) | assumption)
                  have q414 : x63_3 < (l1.length : Int) := of_decide_eq_true (by first | (with_reducible assumption) | assumption)
                  obtain ⟨ad414, e414, hx414_0⟩ := Kd.at_int HR1.out x63_3 p414 q414
                  cases e414
                  replace hx414_0 := (HB.out.cell (World.block_lt_of_cell? w _ hx414_0)).trans hx414_0
                  replace p414 := eq_true p414
                  replace q414 := eq_true q414
                  try go_wp2_with (first | ((with_reducible refine gate_callee (f := 21) rfl ?_); refine kg (some 73) rfl rfl Try.func21 (by kernel_rfl) rfl #[.int .u64 (IntKind.u64.wrap (a0)), .int .u64 (IntKind.u64.wrap (rd l1 x63_3))] rfl ?_; (with_reducible refine (bits_Mul64_s.calls (IntKind.u64.wrap (a0)) (IntKind.u64.wrap (rd l1 x63_3)) t415 t416 _ A27.out).mono ?_); rintro e w' ⟨rfl, ⟨nd, rfl⟩⟩; refine ⟨_, rfl, ?_⟩; (try (rw [drewN_self wr]; generalize hq_ : World.drewN wr _ = wr; replace HO_12 : Aside0 (Kd.R (Kd.int .i64) 3 wr w.heap.size (fun _ => True) u12 x12_3) := ⟨by rw [← hq_]; exact (kr HO_12.out)⟩; replace HO_414000 : Aside0 (Kd.R (Kd.int .u64) 46 wr w.heap.size (fun _ => True) u414000 x414000_3) := ⟨by rw [← hq_]; exact (kr HO_414000.out)⟩; replace HO_9 : Aside0 (Kd.R (Kd.int .i64) 2 wr w.heap.size (fun _ => True) v408 x9_3) := ⟨by rw [← hq_]; exact (kr HO_9.out)⟩; replace BK413 : Aside0 (wr.heap[gb413]? = some (.cells #[u414000] 47 (0, 0))) := ⟨by rw [← hq_]; exact (kz BK413.out)⟩; replace HB : Aside0 (Below w.heap.size w wr) := ⟨by rw [← hq_]; exact (kw HB.out)⟩; clear hq_))) | ((with_reducible refine gate_callee (f := 22) rfl ?_); refine kg (some 80) rfl rfl Try.func22 (by kernel_rfl) rfl #[.int .u64 t415, .int .u64 t416, .int .u64 x6_2] rfl ?_; (with_reducible refine (bits_Div64_s.calls t415 t416 x6_2 t417 t418 _ A28.out).mono ?_); rintro e w' ⟨rfl, ⟨nd, rfl⟩⟩; refine ⟨_, rfl, ?_⟩; (try (rw [drewN_self wr]; generalize hq_ : World.drewN wr _ = wr; replace HO_12 : Aside0 (Kd.R (Kd.int .i64) 3 wr w.heap.size (fun _ => True) u12 x12_3) := ⟨by rw [← hq_]; exact (kr HO_12.out)⟩; replace HO_414000 : Aside0 (Kd.R (Kd.int .u64) 46 wr w.heap.size (fun _ => True) u414000 x414000_3) := ⟨by rw [← hq_]; exact (kr HO_414000.out)⟩; replace HO_9 : Aside0 (Kd.R (Kd.int .i64) 2 wr w.heap.size (fun _ => True) v408 x9_3) := ⟨by rw [← hq_]; exact (kr HO_9.out)⟩; replace BK413 : Aside0 (wr.heap[gb413]? = some (.cells #[u414000] 47 (0, 0))) := ⟨by rw [← hq_]; exact (kz BK413.out)⟩; replace HB : Aside0 (Below w.heap.size w wr) := ⟨by rw [← hq_]; exact (kw HB.out)⟩; clear hq_))))
                  replace HO_9 := ka (Kd.R_drew HO_9.out)
                  replace HO_12 := ka (Kd.R_drew HO_12.out)
                  replace HO_414000 := ka (Kd.R_drew HO_414000.out)
                  replace BK413 := ka (blk_drew BK413.out)
                  replace HB := ka (below_drew1 HB.out)
                  have p30 : 0 ≤ (x63_3 : Int) := of_decide_eq_true (by first | (with_reducible assumption) | assumption)
                  have q30 : (x63_3 : Int) < ((x9_3.length : Int) : Int) := of_decide_eq_true (by first | (with_reducible assumption) | assumption)
                  obtain ⟨go30, co30, eo30, gb30, gl30, cl30, HG30⟩ := Kd.R_form HO_9.out (by omega)
                  (first | cases eo30 | (injection eo30 with ea_ en_ ec_; (first | subst ea_ | (injection ea_ with ea_; subst ea_)); subst ec_; clear en_))
                  have GB30 := ka gb30
                  have GG30 := ka HG30
                  clear gb30 gl30 HG30
                  obtain ⟨hx30_0, hf30_0⟩ := Kd.R_celln 0 HO_9.out (x63_3 : Int) p30 q30
                  replace p30 := eq_true p30
                  replace q30 := eq_true q30
                  have HP35 := Kd.R_putn HO_9.out (x63_3 : Int) (wrap64 (t417))
                  rw [← Ny419.out] at HP35
                  have HQ35 := ka HP35
                  clear HP35
                  have p32 : 0 ≤ (x63_3 : Int) := of_decide_eq_true (by first | (with_reducible assumption) | assumption)
                  have q32 : (x63_3 : Int) < ((x414000_3.length : Int) : Int) := of_decide_eq_true (by first | (with_reducible assumption) | assumption)
                  obtain ⟨go32, co32, eo32, gb32, gl32, cl32, HG32⟩ := Kd.R_form HO_414000.out (by omega)
                  (first | cases eo32 | (injection eo32 with ea_ en_ ec_; (first | subst ea_ | (injection ea_ with ea_; subst ea_)); subst ec_; clear en_))
                  have GB32 := ka gb32
                  have GG32 := ka HG32
                  clear gb32 gl32 HG32
                  obtain ⟨hx32_0, hf32_0⟩ := Kd.R_celln 0 (Kd.R_far (p := ⟨go30, (x63_3 : Int).toNat, none⟩) (Kd.R_types HO_414000.out GG30.out (by decide)) (fun _ hk => hk.2) (.int .i64 (wrap64 (t417)))) (x63_3 : Int) p32 q32
                  replace p32 := eq_true p32
                  replace q32 := eq_true q32
                  have HP36 := Kd.R_putn (Kd.R_far (p := ⟨go30, (x63_3 : Int).toNat, none⟩) (Kd.R_types HO_414000.out GG30.out (by decide)) (fun _ hk => hk.2) (.int .i64 (wrap64 (t417)))) (x63_3 : Int) t418
                  rw [← Ny420.out] at HP36
                  have HQ36 := ka HP36
                  clear HP36
                  refine start_ (n := 11) (S := fun w' => w'.cell? ⟨gb413, 0, none⟩ = some (.slice (some ⟨go32, 0, none⟩) x414000_3.length co32)) (ds := [10]) #[false, false, false, false, false, false, false, false, false, false, false] (by kernel_rfl) rfl rfl ((blk_cell BK413.out 0).trans rfl) (fun hHeld => ?_); refine with_tabW split_Shares.tab21 split_Shares.bits21 (fun HT_ HW_ => ?_)
                  generalize wr.drew = w34 at HO_9 HO_12 HO_414000 BK413 HB GG30 GG32 HQ35 HQ36 hf30_0 hf32_0 hx30_0 hx32_0 hHeld ⊢
                  refine pure_ (i := 0) (N := some 83) (v := ?_) (a' := ?_) #[true, false, false, false, false, false, false, false, false, false, false] rfl rfl (any_of HT_.out (by kernel_rfl)) (fun _ _ _ h => h) (Or.inl ⟨by rfl, ?_⟩) ?_ ?_
                  rotate_left
                  ·intro w'
                   go_simp
                   with_reducible rfl
                  rotate_left
                  ·simp only [Act.put, List.setIfInBounds_toArray, List.set_cons_zero, List.set_cons_succ, i64_w, i32_w]
                   rfl
                  refine pure_ (i := 1) (N := some 84) (v := ?_) (a' := ?_) #[true, true, false, false, false, false, false, false, false, false, false] rfl rfl (any_of HT_.out (by kernel_rfl)) (fun _ _ _ h => h) (Or.inl ⟨by rfl, ?_⟩) ?_ ?_
                  rotate_left
                  ·intro w'
                   go_simp
                   with_reducible rfl
                  rotate_left
                  ·simp only [Act.put, List.setIfInBounds_toArray, List.set_cons_zero, List.set_cons_succ, i64_w, i32_w]
                   rfl
                  refine pure_ (i := 3) (N := some 86) (v := ?_) (a' := ?_) #[true, true, false, true, false, false, false, false, false, false, false] rfl rfl (any_of HT_.out (by kernel_rfl)) (fun _ _ _ h => h) (Or.inl ⟨by rfl, ?_⟩) ?_ ?_
                  rotate_left
                  ·intro w'
                   go_simp
                   with_reducible rfl
                  rotate_left
                  ·simp only [Act.put, List.setIfInBounds_toArray, List.set_cons_zero, List.set_cons_succ, i64_w, i32_w]
                   rfl
                  refine pure_ (i := 4) (N := some 87) (v := ?_) (a' := ?_) #[true, true, false, true, true, false, false, false, false, false, false] rfl rfl (any_of HT_.out (by kernel_rfl)) (fun _ _ _ h => h) (Or.inl ⟨by rfl, ?_⟩) ?_ ?_
                  rotate_left
                  ·intro w'
                   go_simp
                   with_reducible rfl
                  rotate_left
                  ·simp only [Act.put, List.setIfInBounds_toArray, List.set_cons_zero, List.set_cons_succ, i64_w, i32_w]
                   rfl
                  refine pure_ (i := 5) (N := some 88) (v := ?_) (a' := ?_) #[true, true, false, true, true, true, false, false, false, false, false] rfl rfl (any_of HT_.out (by kernel_rfl)) (fun _ _ _ h => h) (Or.inl ⟨by rfl, ?_⟩) ?_ ?_
                  rotate_left
                  ·intro w'
                   go_simp
                   with_reducible rfl
                  rotate_left
                  ·simp only [Act.put, List.setIfInBounds_toArray, List.set_cons_zero, List.set_cons_succ, i64_w, i32_w]
                   rfl
                  refine pure_ (i := 6) (N := some 89) (v := ?_) (a' := ?_) #[true, true, false, true, true, true, true, false, false, false, false] rfl rfl (any_of HT_.out (by kernel_rfl)) (fun _ _ _ h => h) (Or.inl ⟨by rfl, ?_⟩) ?_ ?_
                  rotate_left
                  ·intro w'
                   go_simp
                   with_reducible rfl
                  rotate_left
                  ·simp only [Act.put, List.setIfInBounds_toArray, List.set_cons_zero, List.set_cons_succ, i64_w, i32_w]
                   rfl
                  refine pure_ (i := 7) (N := some 90) (v := ?_) (a' := ?_) #[true, true, false, true, true, true, true, true, false, false, false] rfl rfl (any_of HT_.out (by kernel_rfl)) (fun _ _ _ h => h) (Or.inl ⟨by rfl, ?_⟩) ?_ ?_
                  rotate_left
                  ·intro w'
                   go_simp
                   with_reducible rfl
                  rotate_left
                  ·simp only [Act.put, List.setIfInBounds_toArray, List.set_cons_zero, List.set_cons_succ, i64_w, i32_w]
                   rfl
                  refine take_ (i := 2) (N := some 85) (v := ?_) (a' := ?_) #[true, true, true, true, true, true, true, true, false, false, false] rfl rfl (take_ofW HT_.out HW_.out (by kernel_rfl)) (fun _ _ _ h => h) (Or.inl ⟨by rfl, ?_⟩) hHeld ?_ ?_
                  rotate_left
                  ·intro w' s0
                   go_simp
                   with_reducible rfl
                  rotate_left
                  ·simp only [Act.put, List.setIfInBounds_toArray, List.set_cons_zero, List.set_cons_succ, i64_w, i32_w]
                   rfl
                  refine one_ (i := 8) (N := none) #[true, true, true, true, true, true, true, true, true, false, false] rfl rfl (one_of HT_.out (by kernel_rfl)) (by decide) (fun K hK => ?_)
                  refine skip_ (w1 := ?_) (by rfl) rfl ?_ ?_
                  rotate_left
                  ·go_simp
                   rfl
                  refine hK.out _ _ (((cell_far (p := ⟨go30, _, none⟩) (fun e_ => Kd.R_ne HO_9.out BK413.out (by decide) (congrArg some e_)) _).trans (hHeld))) (fun hHeld => ?_)
                  clear hK K
                  refine pure_ (i := 9) (N := some 91) (v := ?_) (a' := ?_) #[true, true, true, true, true, true, true, true, true, true, false] rfl rfl (any_of HT_.out (by kernel_rfl)) (fun _ _ _ h => h) (Or.inl ⟨by rfl, ?_⟩) ?_ ?_
                  rotate_left
                  ·intro w'
                   go_simp
                   with_reducible rfl
                  rotate_left
                  ·simp only [Act.put, List.setIfInBounds_toArray, List.set_cons_zero, List.set_cons_succ, i64_w, i32_w]
                   rfl
                  refine last_ (i := 10) (N := none) #[true, true, true, true, true, true, true, true, true, true, true] rfl rfl (one_of HT_.out (by kernel_rfl)) (by decide) (fun K hK => ?_)
                  refine skip_ (w1 := ?_) (by rfl) rfl ?_ ?_
                  rotate_left
                  ·go_simp
                   rfl
                  refine hK.out _ _ ?_
                  clear hK K
                  refine done_ (done_of HT_.out (by kernel_rfl)) ?_
                  try go_wp2_with (first | ((with_reducible refine gate_builtin (b := .append) (xs := #[.tmp 96, .tmp 98]) rfl ?_); (try (refine gate_guard (by rfl) ?_; dsimp only)); at_builtin; refine Kd.R_append (Kd.int .i64) (w0 := w) w.heap.size rfl (.tmp 96) (.tmp 98) 48 3 (.int .i64 0) 8 rfl Try.underlying48 info3 rfl (by decide) (by omega) u12 x12_3 x63_3 [.int .i64 x63_3] (fun _ => True) (fun _ => False) rfl (by first | (go_simp; done) | (go_simp; rfl)) ?aP (fun _ hk => hk.elim) ?aF ?aO ?aB ?aS ?aL ?_; (case aP => exact rfl); (case aB => exact (by repeat (first | (with_reducible first | exact HB.out | apply kc1 | apply kc2 | apply kc3 | refine kc4 ?_ GB30.out | refine kc4 ?_ GB32.out | refine kc4 ?_ GE413.out) | exact HB.out))); (case aF => exact (fun _ _ => trivial)); (case aO => exact (kr (Kd.R_mono (Kd.R_far (p := ⟨go32, (x63_3 : Int).toNat, none⟩) (Kd.R_far (p := ⟨go30, (x63_3 : Int).toNat, none⟩) (Kd.R_types (Kd.R_types HO_12.out GG30.out (by decide)) GG32.out (by decide)) (fun _ hk => hk.1.2) (.int .i64 (wrap64 (t417)))) (fun _ hk => hk.2) (.int .u64 t418)) (fun _ hk => trivial)))); (case aS => exact (below_size (by repeat (first | (with_reducible first | exact HB.out | apply kc1 | apply kc2 | apply kc3 | refine kc4 ?_ GB30.out | refine kc4 ?_ GB32.out | refine kc4 ?_ GE413.out) | exact HB.out)))); (case aL => have := LMc33.out; omega); intro v422 w37 ho hb hg hat; rw [← Ny421.out] at ho; replace BK413 := ka (blk_grown (g := gb413) (o := .cells #[.slice (some ⟨go32, 0, none⟩) x414000_3.length co32] 47 (0, 0)) (by (with_reducible repeat (first | apply kb1 | apply kb2 | apply kb3)); refine kb4 ?_ (by have h_ := Kd.R_ne HO_414000.out BK413.out (by decide); intro e_; exact h_ (by rw [e_]; rfl)) _; (with_reducible repeat (first | apply kb1 | apply kb2 | apply kb3)); refine kb4 ?_ (by have h_ := Kd.R_ne HO_9.out BK413.out (by decide); intro e_; exact h_ (by rw [e_]; rfl)) _; (with_reducible repeat (first | apply kb1 | apply kb2 | apply kb3)); exact BK413.out) hg (Kd.R_ne HO_12.out BK413.out (by decide))); replace HO_9 := ka (Kd.R_over' (kr ((Kd.R_mono (Kd.R_far (p := ⟨go32, (x63_3 : Int).toNat, none⟩) (Kd.R_types HQ35.out (blk_far GG32.out (knt GG32.out GG30.out (by decide)) _) (by decide)) (fun _ hk => hk.2) (.int .u64 t418)) (fun _ h_ => h_.1)))) (Kd.R_typed (kr ((Kd.R_mono (Kd.R_mono (Kd.R_far (p := ⟨go32, (x63_3 : Int).toNat, none⟩) (Kd.R_far (p := ⟨go30, (x63_3 : Int).toNat, none⟩) (Kd.R_types (Kd.R_types HO_12.out GG30.out (by decide)) GG32.out (by decide)) (fun _ hk => hk.1.2) (.int .i64 (wrap64 (t417)))) (fun _ hk => hk.2) (.int .u64 t418)) (fun _ h_ => h_.1)) (fun _ h_ => h_.1))))) (by decide) hg); replace HO_414000 := ka (Kd.R_over' (kr ((Kd.R_mono HQ36.out (fun _ h_ => h_.1)))) (Kd.R_typed (kr ((Kd.R_mono (Kd.R_mono (Kd.R_far (p := ⟨go32, (x63_3 : Int).toNat, none⟩) (Kd.R_far (p := ⟨go30, (x63_3 : Int).toNat, none⟩) (Kd.R_types (Kd.R_types HO_12.out GG30.out (by decide)) GG32.out (by decide)) (fun _ hk => hk.1.2) (.int .i64 (wrap64 (t417)))) (fun _ hk => hk.2) (.int .u64 t418)) (fun _ h_ => h_.1)) (fun _ h_ => h_.1))))) (by decide) hg); replace HB := ka (hb); have HO423 := ka (ho); clear HO_12; clear ho hb hg hat))
                  go_roundg k3
                  case measure => have := HJ2.out; have := HK2.out; have := HK3.out; omega
                  case rel => exact ⟨(y419), (wrap64 (x11_3 - (wrap64 (t417)))), (y421), (wrap64 (x63_3 + 1)), (y420), (.slice (some ⟨go32, 0, none⟩) x414000_3.length co32), (by first | rfl | (simp; done) | (simp [*]; done)), (by first | rfl | (simp; done) | (simp [*]; done)), H', ⟨by have := HJ2.out; have := HK2.out; have := HK3.out; omega⟩, ⟨kr HO_9.out⟩, ⟨kr HO423.out⟩, ⟨kr HO_414000.out⟩, ⟨by (with_reducible repeat (first | apply kb1 | apply kb2 | apply kb3)); exact BK413.out⟩, ⟨by repeat (first | (with_reducible first | exact HB.out | apply kc1 | apply kc2 | apply kc3 | refine kc4 ?_ GE413.out) | exact HB.out)⟩⟩
                 ·rw [if_neg c33] at H
                  exact absurd H (by simp)
                ·rw [if_neg c31] at H
                 exact absurd H (by simp)
               ·rw [if_neg c29] at H
                exact absurd H (by simp)
              ·rw [if_neg c26] at H
               exact absurd H (by simp)
             ·rw [if_neg c25] at H
              exact absurd H (by simp)
            ·rw [if_neg c24] at H
             have c24b0 : decide (x63_3 < (l1.length : Int)) = false := decide_eq_false c24
             clear c24
             by_cases c38 : Srt.ok x414000_3 x12_3 = true
             ·rw [if_pos c38] at H
              have LMc38 := ka c38
              clear c38
              obtain ⟨y424, hy424⟩ : ∃ y_ : List Int, y_ = (Srt.srt x414000_3 x12_3) := ⟨_, rfl⟩
              replace H : (if 0 ≤ x11_3 then (if x11_3 ≤ (x12_3.length : Int) then ((some (y424.take (x11_3 : Int).toNat : List Int)).bind fun y425 => (split_Shares.l2 k3 x9_3 y425 (y425.length : Int) 0)) else (none)) else (none)) = some (r1, r2) := by first | (rw [hy424]; with_reducible exact H) | (have H2_ := (Option.bind_some _ _).symm.trans H; rw [hy424]; with_reducible exact H2_) | (have H2_ := (Option.bind_some _ _).symm.trans H; with_reducible exact H2_) | with_reducible exact H | (rw [hy424]; exact H) | exact H
              have Ny424 := ka hy424
              clear hy424
              by_cases c39 : 0 ≤ x11_3
              ·rw [if_pos c39] at H
               have c39b0 := eq_true c39
               have c39b1 : decide (0 ≤ x11_3) = true := decide_eq_true c39
               clear c39
               by_cases c40 : x11_3 ≤ (x12_3.length : Int)
               ·rw [if_pos c40] at H
                have c40b0 := eq_true c40
                have c40b1 : decide (x11_3 ≤ (x12_3.length : Int)) = true := decide_eq_true c40
                clear c40
                obtain ⟨y425, hy425⟩ : ∃ y_ : List Int, y_ = (y424.take (x11_3 : Int).toNat) := ⟨_, rfl⟩
                replace H : (split_Shares.l2 k3 x9_3 y425 (y425.length : Int) 0) = some (r1, r2) := by first | (rw [hy425]; with_reducible exact H) | (have H2_ := (Option.bind_some _ _).symm.trans H; rw [hy425]; with_reducible exact H2_) | (have H2_ := (Option.bind_some _ _).symm.trans H; with_reducible exact H2_) | with_reducible exact H | (rw [hy425]; exact H) | exact H
                have Ny425 := ka hy425
                clear hy425
                have H' := ka H
                clear H
                obtain ⟨go42, co42, eo42, gb42, gl42, cl42, HG42⟩ := Kd.R_form HO_12.out (by have h_ := (show Srt.Ok x414000_3 x12_3 from of_decide_eq_true LMc38.out).2.1; omega)
                (first | cases eo42 | (injection eo42 with ea_ en_ ec_; (first | subst ea_ | (injection ea_ with ea_; subst ea_)); subst ec_; clear en_))
                have GB42 := ka gb42
                have GG42 := ka HG42
                clear gb42 gl42 HG42
                go_wp2_with (first | ((with_reducible refine gate_callee (f := 23) rfl ?_); refine kg (some 103) rfl rfl Try.func23 (by kernel_rfl) rfl #[.slice (some ⟨go42, 0, none⟩) x12_3.length co42, .func (.func 24) #[] #[.pointer (some ⟨gb413, 0, none⟩)]] rfl ?_; (with_reducible refine (Srt.calls _ _ _ x12_3 gb413 ?sV x414000_3 ?sBase ?sOk ?sOkr _ ?sideO ?sideB ?sideR ?sideK).mono ?_); (case sideO => exact by (with_reducible repeat (first | apply Kd.R_alloc | apply Kd.R_drewN | apply Kd.R_drew)); exact HO_12.out); (case sideB => exact by (with_reducible repeat (first | apply kb1 | apply kb2 | apply kb3)); exact BK413.out); (case sideR => exact by (with_reducible repeat (first | apply Kd.R_alloc | apply Kd.R_drewN | apply Kd.R_drew)); exact HO_414000.out); (case sideK => first | (with_reducible exact of_decide_eq_true (Aside0.out (by assumption))) | exact of_decide_eq_true (Aside0.out (by assumption))); rintro e w41 ⟨rfl, hp0_, hg⟩; refine ⟨_, rfl, ?_⟩; have hp_ : Kd.R (Kd.int .i64) 3 w41 w.heap.size (fun _ => True) (.slice (some ⟨go42, 0, none⟩) x12_3.length co42) y424 := (by rw [Ny424.out]; exact hp0_); clear hp0_; replace HO_9 := ka (Kd.R_over' (v := (.slice (some ⟨go42, 0, none⟩) x12_3.length co42)) (kr HO_9.out) (Kd.R_typed (kr HO_12.out)) (by decide) hg); replace HO_414000 := ka (Kd.R_over' (v := (.slice (some ⟨go42, 0, none⟩) x12_3.length co42)) (kr HO_414000.out) (Kd.R_typed (kr HO_12.out)) (by decide) hg); replace BK413 := ka (blk_grown (g := gb413) (kz BK413.out) hg (Kd.R_ne HO_12.out BK413.out (by decide))); replace HO_12 := ka (hp_); replace HB := ka ((Below.grown (kw HB.out) hg (below_size (kw HB.out)) (fun k_ e_ => by cases e_; exact GB42.out))); clear hg hp_; have hlx43 := (Kd.R_reads' HO_12.out).1; have q43 : (x11_3 : Int) ≤ ((x12_3.length : Int) : Int) := of_decide_eq_true (by first | (with_reducible assumption) | assumption); obtain ⟨i043, hi043, _, hsz43, _⟩ := info_parts info3; have hroom43 : x12_3.length ≤ co42 := (Kd.R_reads' HO_12.out).2.1; have hroomc43 : y424.length ≤ co42 := (by rw [← hlx43]; exact hroom43); have hC43 : Kd.C (Kd.int .i64) _ (some ⟨go42, 0, none⟩) y424.length y424 := (Kd.R_reads' HO_12.out).2.2; have hcut43 := cut_to (P := Try.prog) 48 3 .i64 Try.underlying48 hi043 (some ⟨go42, 0, none⟩) x12_3.length co42 x11_3 (of_decide_eq_true (by first | (with_reducible assumption) | assumption)) q43 hroom43; have hr43 := Kd.C_take (m := (x11_3 : Int).toNat) hC43 (by omega); have hy43 : y425.length = (x11_3 : Int).toNat := (by rw [Ny425.out, List.length_take]; omega); rw [← Ny425.out] at hr43; rw [← hy43] at hcut43; have HR428 := ka hr43; have HC428 := ka (show y425.length ≤ co42 from by omega); clear hr43 hC43 hroom43 hi043 hsz43 hroomc43; have KY43 := ka hy43; clear hy43; have KE43 := ka hlx43; have KL43 := ka (show (x11_3 : Int).toNat ≤ y424.length from by omega); clear hlx43; replace q43 := eq_true q43))
                (try simp only [Act.put, List.setIfInBounds_toArray, List.set_cons_zero, List.set_cons_succ])
                go_loopg [108] k3 (fun kq v108 w' => ∃ (x9_4 : List Int) (x108_4 : Int), v108 = .int .i64 x108_4 ∧ Aside0 (split_Shares.l2 kq x9_4 y425 (y425.length : Int) x108_4 = some (r1, r2)) ∧ Aside0 (kq ≤ k3) ∧ Aside0 (Kd.R (Kd.int .i64) 2 w' w.heap.size (fun _ => True) v408 x9_4) ∧ Aside0 (Kd.R (Kd.int .i64) 3 w' w.heap.size (fun _ => True) (.slice (some ⟨go42, 0, none⟩) x12_3.length co42) y424) ∧ Aside0 (Kd.R (Kd.int .u64) 46 w' w.heap.size (fun _ => True) u414000 x414000_3) ∧ Aside0 (w'.heap[gb413]? = some (.cells #[u414000] 47 (0, 0))) ∧ Aside0 (Below w.heap.size w w'))
                case atStart => exact ⟨(x9_3), (0), (by first | rfl | (simp; done) | (simp [*]; done)), H', ⟨Nat.le_refl _⟩, ⟨kr HO_9.out⟩, ⟨kr HO_12.out⟩, ⟨kr HO_414000.out⟩, ⟨by (with_reducible repeat (first | apply kb1 | apply kb2 | apply kb3)); exact BK413.out⟩, ⟨by repeat (first | (with_reducible first | exact HB.out | apply kc1 | apply kc2 | apply kc3 | refine kc4 ?_ GE413.out) | exact HB.out)⟩⟩
                case round =>
                 clear H'
                 try clear c1
                 try clear c2
                 try clear p2
                 try clear c3
                 try clear p3
                 try clear q3
                 try clear hx3
                 try clear hf3
                 try clear c4
                 try clear p4
                 try clear q4
                 try clear hx4
                 try clear p6
                 try clear c7
                 try clear c7b0
                 try clear c8
                 try clear c9
                 try clear c10
                 try clear c10b0
                 try clear c11
                 try clear c11b0
                 try clear c12
                 try clear c12b0
                 try clear c12b1
                 try clear c13
                 try clear c13b0
                 try clear c13b1
                 try clear c14
                 try clear c14b0
                 try clear c14b1
                 try clear c21
                 try clear c22
                 try clear c23
                 try clear c24
                 try clear c24b0
                 try clear c25
                 try clear c25b0
                 try clear c26
                 try clear c26b0
                 try clear c29
                 try clear c29b0
                 try clear p30
                 try clear q30
                 try clear hx30
                 try clear hf30
                 try clear c31
                 try clear c31b0
                 try clear p32
                 try clear q32
                 try clear hx32
                 try clear hf32
                 try clear c33
                 try clear c38
                 try clear c39
                 try clear c39b0
                 try clear c39b1
                 try clear c40
                 try clear c40b0
                 try clear c40b1
                 try clear p40
                 try clear q40
                 try clear hx40
                 try clear p41
                 try clear q41
                 try clear hx41
                 try clear c43
                 try clear q43
                 try clear hx30_0
                 try clear hx32_0
                 try clear hx406_0
                 try clear hx414_0
                 try clear p2
                 try clear p30
                 try clear p32
                 try clear p4
                 try clear p406
                 try clear p414
                 try clear p6
                 try clear q30
                 try clear q32
                 try clear q4
                 try clear q406
                 try clear q414
                 try clear q43
                 obtain ⟨x9_4, x108_4, rfl, HA, HK4, HO_9, HO_12, HO_414000, BK413, HB⟩ := hrel
                 cases gk with
                 | zero => exact absurd HA.out (by simp [split_Shares.l2])
                 | succ k4 =>
                  have H := HA.out
                  clear HA
                  simp only [split_Shares.l2] at H
                  by_cases c44 : x108_4 < (y425.length : Int)
                  ·rw [if_pos c44] at H
                   have c44b0 : decide (x108_4 < (y425.length : Int)) = true := decide_eq_true c44
                   clear c44
                   by_cases c45 : 0 ≤ x108_4
                   ·rw [if_pos c45] at H
                    have c45b0 : decide (0 ≤ x108_4) = true := decide_eq_true c45
                    clear c45
                    by_cases c46 : x108_4 < (y425.length : Int)
                    ·rw [if_pos c46] at H
                     have c46b0 : decide (x108_4 < (y425.length : Int)) = true := decide_eq_true c46
                     clear c46
                     by_cases c47 : 0 ≤ (rd y425 x108_4)
                     ·rw [if_pos c47] at H
                      have c47b0 : decide (0 ≤ (rd y425 x108_4)) = true := decide_eq_true c47
                      clear c47
                      by_cases c48 : (rd y425 x108_4) < (x9_4.length : Int)
                      ·rw [if_pos c48] at H
                       have c48b0 : decide ((rd y425 x108_4) < (x9_4.length : Int)) = true := decide_eq_true c48
                       clear c48
                       obtain ⟨y431, hy431⟩ : ∃ y_ : List Int, y_ = (x9_4.set ((rd y425 x108_4) : Int).toNat (wrap64 ((rd x9_4 (rd y425 x108_4)) + 1))) := ⟨_, rfl⟩
                       replace H : (split_Shares.l2 k4 y431 y425 (y425.length : Int) (wrap64 (x108_4 + 1))) = some (r1, r2) := by first | (rw [hy431]; with_reducible exact H) | (have H2_ := (Option.bind_some _ _).symm.trans H; rw [hy431]; with_reducible exact H2_) | (have H2_ := (Option.bind_some _ _).symm.trans H; with_reducible exact H2_) | with_reducible exact H | (rw [hy431]; exact H) | exact H
                       have Ny431 := ka hy431
                       clear hy431
                       have H' := ka H
                       clear H
                       have p429 : 0 ≤ (x108_4 : Int) := of_decide_eq_true (by first | (with_reducible assumption) | assumption)
                       have q429 : x108_4 < (y425.length : Int) := of_decide_eq_true (by first | (with_reducible assumption) | assumption)
                       obtain ⟨ad429, e429, hx429_0⟩ := Kd.at_int (show Kd.C (Kd.int .i64) wr (some ⟨go42, 0, none⟩) _ _ from (by have h1_ := Kd.C_take (m := (x11_3 : Int).toNat) (Kd.R_reads' HO_12.out).2.2 (by have := KL43.out; omega); rw [← Ny425.out] at h1_; exact h1_)) x108_4 p429 q429
                       obtain rfl : ⟨go42, 0, none⟩ = ad429 := (by injection e429)
                       (first | simp only [add_plain] at hx429_0 | skip)
                       replace p429 := eq_true p429
                       replace q429 := eq_true q429
                       obtain ⟨Ao50, co50, eo50⟩ := Kd.R_slice HO_9.out
                       subst eo50
                       have p430 : 0 ≤ ((rd y425 x108_4) : Int) := of_decide_eq_true (by first | (with_reducible assumption) | assumption)
                       have q430 : (rd y425 x108_4) < (x9_4.length : Int) := of_decide_eq_true (by first | (with_reducible assumption) | assumption)
                       obtain ⟨ad430, e430, hx430_0⟩ := Kd.at_int (Kd.R_reads' HO_9.out).2.2 (rd y425 x108_4) p430 q430
                       cases e430
                       replace p430 := eq_true p430
                       replace q430 := eq_true q430
                       have p49 : 0 ≤ ((rd y425 x108_4) : Int) := of_decide_eq_true (by first | (with_reducible assumption) | assumption)
                       have q49 : ((rd y425 x108_4) : Int) < ((x9_4.length : Int) : Int) := of_decide_eq_true (by first | (with_reducible assumption) | assumption)
                       obtain ⟨go49, co49, eo49, gb49, gl49, cl49, HG49⟩ := Kd.R_form HO_9.out (by omega)
                       (first | cases eo49 | (injection eo49 with ea_ en_ ec_; (first | subst ea_ | (injection ea_ with ea_; subst ea_)); subst ec_; clear en_))
                       have GB49 := ka gb49
                       have GG49 := ka HG49
                       clear gb49 gl49 HG49
                       (first | simp only [add_plain] at hx430_0 | skip)
                       obtain ⟨hx49_0, hf49_0⟩ := Kd.R_celln 0 HO_9.out ((rd y425 x108_4) : Int) p49 q49
                       replace p49 := eq_true p49
                       replace q49 := eq_true q49
                       have HP51 := Kd.R_putg HO_9.out ((rd y425 x108_4) : Int) (wrap64 ((rd x9_4 (rd y425 x108_4)) + 1))
                       go_wp2_with (first | ((with_reducible refine gate_store (t := 2) (p := 117) rfl ?_); refine store_event (t := 2) (p := 117) (v := ?vo_w52) (w1 := (wr.setCell ⟨go49, ((rd y425 x108_4) : Int).toNat, none⟩ (.int .i64 (wrap64 ((rd x9_4 (rd y425 x108_4)) + 1))))) ?hg ?ho ?hn ?hr ?_; (case ho => rfl); (case hg => rfl); (case hn => rfl); (case hr => first | (go_simp; done) | (go_simp; rfl)); intro w52 hw; have hg : wr.grownBy w52 (some go49) := (by rw [hw]; exact HP51.2); have hp_ : Kd.R (Kd.int .i64) 2 w52 w.heap.size (fun _ => True) (.slice (some ⟨go49, 0, none⟩) x9_4.length co50) y431 := (by rw [hw, Ny431.out]; exact HP51.1); clear HP51; replace HO_12 := ka (Kd.R_over' (v := (.slice (some ⟨go49, 0, none⟩) x9_4.length co50)) (kr HO_12.out) (Kd.R_typed HO_9.out) (by decide) hg); replace HO_414000 := ka (Kd.R_over' (v := (.slice (some ⟨go49, 0, none⟩) x9_4.length co50)) (kr HO_414000.out) (Kd.R_typed HO_9.out) (by decide) hg); replace BK413 := ka (blk_grown (g := gb413) (kz BK413.out) hg (Kd.R_ne HO_9.out BK413.out (by decide))); replace HO_9 := ka (hp_); replace HB := ka ((by rw [hw]; exact below_set (HB.out) GB49.out : Below w.heap.size w w52)); clear hg hw hp_))
                       go_roundg k4
                       case measure => have := HJ2.out; have := HK2.out; have := HK3.out; have := HK4.out; omega
                       case rel => exact ⟨(y431), (wrap64 (x108_4 + 1)), (by first | rfl | (simp; done) | (simp [*]; done)), H', ⟨by have := HJ2.out; have := HK2.out; have := HK3.out; have := HK4.out; omega⟩, ⟨kr HO_9.out⟩, ⟨kr HO_12.out⟩, ⟨kr HO_414000.out⟩, ⟨by (with_reducible repeat (first | apply kb1 | apply kb2 | apply kb3)); exact BK413.out⟩, ⟨by repeat (first | (with_reducible first | exact HB.out | apply kc1 | apply kc2 | apply kc3 | refine kc4 ?_ GE413.out) | exact HB.out)⟩⟩
                      ·rw [if_neg c48] at H
                       exact absurd H (by simp)
                     ·rw [if_neg c47] at H
                      exact absurd H (by simp)
                    ·rw [if_neg c46] at H
                     exact absurd H (by simp)
                   ·rw [if_neg c45] at H
                    exact absurd H (by simp)
                  ·rw [if_neg c44] at H
                   have c44b0 : decide (x108_4 < (y425.length : Int)) = false := decide_eq_false c44
                   clear c44
                   simp only [Option.some.injEq, Prod.mk.injEq] at H
                   obtain ⟨rfl, rfl⟩ := H
                   go_wp2
                   go_ret2
                   exact ⟨_, by first | rfl | (simp [errW_none, errW_some] <;> rfl) | (simp [*, errW_none, errW_some] <;> rfl), by (with_reducible repeat (first | apply Kd.R_alloc | apply Kd.R_drewN | apply Kd.R_drew)); exact HO_9.out, by repeat (first | (with_reducible first | exact HB.out | apply kc1 | apply kc2 | apply kc3 | refine kc4 ?_ GE413.out) | exact HB.out)⟩
               ·rw [if_neg c40] at H
                exact absurd H (by simp)
              ·rw [if_neg c39] at H
               exact absurd H (by simp)
             ·rw [if_neg c38] at H
              exact absurd H (by simp)
         ·rw [if_neg c14] at H
          exact absurd H (by simp)
        ·rw [if_neg c13] at H
         exact absurd H (by simp)

end Go.Proofs.Ytjeghhheenenbaa.P
