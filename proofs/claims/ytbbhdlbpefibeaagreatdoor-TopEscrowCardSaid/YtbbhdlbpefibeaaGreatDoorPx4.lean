-- Written by a program of this session out of the translation of the seat: Lean functions and the proofs that the Go functions come to them.
import Derived.Test.YtbbhdlbpefibeaaGreatDoorPx0
namespace Go.Proofs.YtbbhdlbpefibeaaGreatDoor.P
open Go.RowKit Go.Proofs.YtbbhdlbpefibeaaGreatDoorW.PrintWords Go.Proofs.YtbbhdlbpefibeaaGreatDoorW.PrintLast Go.Proofs.YtbbhdlbpefibeaaGreatDoorW.PrintMore
attribute [local go_sem] max2_int min2_int max_two min_two max_three min_three max_four min_four   -- for this text's walks alone
set_option linter.unusedVariables false
set_option linter.unusedSimpArgs false

/-! ### trivetref15_May: function 8 -/
def trivetref15_May.l0 : Nat → List Int → Int → Option (Bool)
 | 0, _, _ => none
 | k + 1, x0, x3 => if x3 < 12 then (if 0 ≤ x3 then (if x3 < (x0.length : Int) then (if (rd x0 x3) < 0 then (some false) else (if (rd x0 x3) > 10000000000000 then (some false) else (trivetref15_May.l0 k x0 (wrap64 (x3 + 1))))) else (none)) else (none)) else (some true)
def trivetref15_May.f (k : Nat) (l0 : List Int) : Option (Bool) := if (l0.length : Int) = 12 then (trivetref15_May.l0 k l0 0) else (some false)
theorem trivetref15_May.mono_l : ∀ k, (∀ y0 y1, LeO (trivetref15_May.l0 k y0 y1) (trivetref15_May.l0 (k + 1) y0 y1))
 | 0 => fun _ _ r h => by simp [trivetref15_May.l0] at h
 | k + 1 => by
  have ih0 := trivetref15_May.mono_l k
  ·intro y0 y1
   unfold trivetref15_May.l0
   repeat' first
   | (with_reducible exact ih0 _ _)
   | (with_reducible exact LeO.refl _)
   | (with_reducible exact LeO.none _)
   | (with_reducible refine LeO.ite ?_ ?_)
   | (with_reducible refine LeO.bind ?_ (fun _ => ?_))
   | exact ih0 _ _
   | exact LeO.none _
   | refine LeO.ite ?_ ?_
   | refine LeO.bind ?_ (fun _ => ?_)
theorem trivetref15_May.mono : ∀ a0 k, LeO (trivetref15_May.f k a0) (trivetref15_May.f (k + 1) a0) := by
 intro a0 k
 have ih0 := trivetref15_May.mono_l k
 unfold trivetref15_May.f
 repeat' first
   | (with_reducible exact ih0 _ _)
   | (with_reducible exact LeO.refl _)
   | (with_reducible exact LeO.none _)
   | (with_reducible refine LeO.ite ?_ ?_)
   | (with_reducible refine LeO.bind ?_ (fun _ => ?_))
   | exact ih0 _ _
   | exact LeO.none _
   | refine LeO.ite ?_ ?_
   | refine LeO.bind ?_ (fun _ => ?_)
set_option maxHeartbeats 8000000 in
set_option maxRecDepth 100000 in
theorem trivetref15_May.calls (k : Nat) (A0 : Option Addr) (c0 : Nat) (l0 : List Int) (r : Bool) (w : World) (hr0 : Kd.C (Kd.int .i64) w A0 l0.length l0) (hc0 : l0.length ≤ c0) (h : trivetref15_May.f k l0 = some r) :
  Calls Tryz.prog 8 #[.slice A0 l0.length c0] w fun e w' => e = .returned (.bool r) ∧ Drawn0 w w' := by
 have HR0 := ka hr0
 have HC0 := ka hc0
 clear hr0 hc0
 have H : (if (l0.length : Int) = 12 then (trivetref15_May.l0 k l0 0) else (some false)) = some r := h
 clear h
 by_cases c2 : (l0.length : Int) = 12
 ·rw [if_pos c2] at H
  have c2b0 : ((l0.length : Int) == 12) = true := beq_iff_eq.mpr c2
  have c2b1 : ((l0.length : Int) != 12) = false := bne_eq_false_iff_eq.mpr c2
  clear c2
  have H' := ka H
  clear H
  go_enter Tryz.func8, Tryz.ntmps8
  go_wp2
  (try simp only [Act.put, List.setIfInBounds_toArray, List.set_cons_zero, List.set_cons_succ])
  go_loopg [3] k (fun kq v3 w' => ∃ (x3_1 : Int), v3 = .int .i64 x3_1 ∧ Aside0 (trivetref15_May.l0 kq l0 x3_1 = some r) ∧ Aside0 (kq ≤ k) ∧ Drawn0 w w')
  case atStart => exact ⟨(0), (by first | rfl | (simp; done) | (simp [*]; done)), H', ⟨Nat.le_refl _⟩, by repeat (first | exact Drawn0.refl _ | apply Drawn0.step)⟩
  case round =>
   clear H'
   try clear c2
   try clear c2b0
   try clear c2b1
   try clear p2
   obtain ⟨x3_1, rfl, HA, HK1, ⟨m1, rfl⟩⟩ := hrel
   cases gk with
   | zero => exact absurd HA.out (by simp [trivetref15_May.l0])
   | succ k1 =>
    have H := HA.out
    clear HA
    simp only [trivetref15_May.l0] at H
    by_cases c3 : x3_1 < 12
    ·rw [if_pos c3] at H
     have c3b0 : decide (x3_1 < 12) = true := decide_eq_true c3
     clear c3
     by_cases c4 : 0 ≤ x3_1
     ·rw [if_pos c4] at H
      have c4b0 : decide (0 ≤ x3_1) = true := decide_eq_true c4
      clear c4
      by_cases c5 : x3_1 < (l0.length : Int)
      ·rw [if_pos c5] at H
       have c5b0 : decide (x3_1 < (l0.length : Int)) = true := decide_eq_true c5
       clear c5
       by_cases c6 : (rd l0 x3_1) < 0
       ·rw [if_pos c6] at H
        have c6b0 : decide ((rd l0 x3_1) < 0) = true := decide_eq_true c6
        clear c6
        obtain rfl := Option.some.inj H
        have p427 : 0 ≤ (x3_1 : Int) := of_decide_eq_true (by first | (with_reducible assumption) | assumption)
        have q427 : x3_1 < (l0.length : Int) := of_decide_eq_true (by first | (with_reducible assumption) | assumption)
        obtain ⟨ad427, e427, hx427_0⟩ := Kd.at_int HR0.out x3_1 p427 q427
        cases e427
        replace p427 := eq_true p427
        replace q427 := eq_true q427
        go_wp2
        go_ret
        exact ⟨by first | rfl | (simp; done) | (simp [*]; done), by repeat (first | exact Drawn0.refl _ | apply Drawn0.step)⟩
       ·rw [if_neg c6] at H
        have c6b0 : decide ((rd l0 x3_1) < 0) = false := decide_eq_false c6
        clear c6
        by_cases c7 : (rd l0 x3_1) > 10000000000000
        ·rw [if_pos c7] at H
         have c7b0 : decide (10000000000000 < (rd l0 x3_1)) = true := decide_eq_true c7
         clear c7
         obtain rfl := Option.some.inj H
         have p427 : 0 ≤ (x3_1 : Int) := of_decide_eq_true (by first | (with_reducible assumption) | assumption)
         have q427 : x3_1 < (l0.length : Int) := of_decide_eq_true (by first | (with_reducible assumption) | assumption)
         obtain ⟨ad427, e427, hx427_0⟩ := Kd.at_int HR0.out x3_1 p427 q427
         cases e427
         replace p427 := eq_true p427
         replace q427 := eq_true q427
         have p428 : 0 ≤ (x3_1 : Int) := of_decide_eq_true (by first | (with_reducible assumption) | assumption)
         have q428 : x3_1 < (l0.length : Int) := of_decide_eq_true (by first | (with_reducible assumption) | assumption)
         obtain ⟨ad428, e428, hx428_0⟩ := Kd.at_int HR0.out x3_1 p428 q428
         obtain rfl : ad427 = ad428 := (by injection e428)
         replace p428 := eq_true p428
         replace q428 := eq_true q428
         go_wp2
         go_ret
         exact ⟨by first | rfl | (simp; done) | (simp [*]; done), by repeat (first | exact Drawn0.refl _ | apply Drawn0.step)⟩
        ·rw [if_neg c7] at H
         have c7b0 : decide (10000000000000 < (rd l0 x3_1)) = false := decide_eq_false c7
         clear c7
         have H' := ka H
         clear H
         have p427 : 0 ≤ (x3_1 : Int) := of_decide_eq_true (by first | (with_reducible assumption) | assumption)
         have q427 : x3_1 < (l0.length : Int) := of_decide_eq_true (by first | (with_reducible assumption) | assumption)
         obtain ⟨ad427, e427, hx427_0⟩ := Kd.at_int HR0.out x3_1 p427 q427
         cases e427
         replace p427 := eq_true p427
         replace q427 := eq_true q427
         have p428 : 0 ≤ (x3_1 : Int) := of_decide_eq_true (by first | (with_reducible assumption) | assumption)
         have q428 : x3_1 < (l0.length : Int) := of_decide_eq_true (by first | (with_reducible assumption) | assumption)
         obtain ⟨ad428, e428, hx428_0⟩ := Kd.at_int HR0.out x3_1 p428 q428
         obtain rfl : ad427 = ad428 := (by injection e428)
         replace p428 := eq_true p428
         replace q428 := eq_true q428
         go_wp2
         go_roundg k1
         case measure => have := HK1.out; omega
         case rel => exact ⟨(wrap64 (x3_1 + 1)), (by first | rfl | (simp; done) | (simp [*]; done)), H', ⟨by have := HK1.out; omega⟩, by repeat (first | exact Drawn0.refl _ | apply Drawn0.step)⟩
      ·rw [if_neg c5] at H
       exact absurd H (by simp)
     ·rw [if_neg c4] at H
      exact absurd H (by simp)
    ·rw [if_neg c3] at H
     have c3b0 : decide (x3_1 < 12) = false := decide_eq_false c3
     clear c3
     obtain rfl := Option.some.inj H
     go_wp2
     go_ret
     exact ⟨by first | rfl | (simp; done) | (simp [*]; done), by repeat (first | exact Drawn0.refl _ | apply Drawn0.step)⟩
 ·rw [if_neg c2] at H
  have c2b0 : ((l0.length : Int) == 12) = false := beq_eq_false_iff_ne.mpr c2
  have c2b1 : ((l0.length : Int) != 12) = true := bne_iff_ne.mpr c2
  obtain rfl := Option.some.inj H
  go_enter Tryz.func8, Tryz.ntmps8
  go_wp2
  go_ret
  exact ⟨by first | rfl | (simp; done) | (simp [*]; done), by repeat (first | exact Drawn0.refl _ | apply Drawn0.step)⟩

/-! ### trivetref15_Balances: function 9 -/
mutual
def trivetref15_Balances.l0 : Nat → List Int → Int → Int → List Int → Int → Option (List Int)
 | 0, _, _, _, _, _ => none
 | k + 1, x0, x1, x2, x7, x8 => if x8 < 12 then (trivetref15_Balances.l1 k x0 x1 x2 x7 x8 x2 0) else (some x7)
def trivetref15_Balances.l1 : Nat → List Int → Int → Int → List Int → Int → Int → Int → Option (List Int)
 | 0, _, _, _, _, _, _, _ => none
 | k + 1, x0, x1, x2, x7, x8, x9, x10 => if x10 ≤ x8 then (if 0 ≤ x10 then (if x10 < (x0.length : Int) then (trivetref15_Balances.l1 k x0 x1 x2 x7 x8 (wrap64 ((wrap64 (x9 + x1)) - (rd x0 x10))) (wrap64 (x10 + 1))) else (none)) else (none)) else (if x7.length < 17592186044416 then (trivetref15_Balances.l0 k x0 x1 x2 (x7 ++ [x9]) (wrap64 (x8 + 1))) else (none))
end
def trivetref15_Balances.f (k : Nat) (l0 : List Int) (a1 : Int) (a2 : Int) : Option (List Int) := trivetref15_Balances.l0 k l0 a1 a2 ([] : List Int) 0
theorem trivetref15_Balances.mono_l : ∀ k, (∀ y0 y1 y2 y3 y4, LeO (trivetref15_Balances.l0 k y0 y1 y2 y3 y4) (trivetref15_Balances.l0 (k + 1) y0 y1 y2 y3 y4)) ∧ (∀ y0 y1 y2 y3 y4 y5 y6, LeO (trivetref15_Balances.l1 k y0 y1 y2 y3 y4 y5 y6) (trivetref15_Balances.l1 (k + 1) y0 y1 y2 y3 y4 y5 y6))
 | 0 => ⟨fun _ _ _ _ _ r h => by simp [trivetref15_Balances.l0] at h, fun _ _ _ _ _ _ _ r h => by simp [trivetref15_Balances.l1] at h⟩
 | k + 1 => by
  obtain ⟨ih0, ih1⟩ := trivetref15_Balances.mono_l k
  refine ⟨?_, ?_⟩
  ·intro y0 y1 y2 y3 y4
   unfold trivetref15_Balances.l0
   repeat' first
   | (with_reducible exact ih0 _ _ _ _ _)
   | (with_reducible exact ih1 _ _ _ _ _ _ _)
   | (with_reducible exact LeO.refl _)
   | (with_reducible exact LeO.none _)
   | (with_reducible refine LeO.ite ?_ ?_)
   | (with_reducible refine LeO.bind ?_ (fun _ => ?_))
   | exact ih0 _ _ _ _ _
   | exact ih1 _ _ _ _ _ _ _
   | exact LeO.none _
   | refine LeO.ite ?_ ?_
   | refine LeO.bind ?_ (fun _ => ?_)
  ·intro y0 y1 y2 y3 y4 y5 y6
   unfold trivetref15_Balances.l1
   repeat' first
   | (with_reducible exact ih0 _ _ _ _ _)
   | (with_reducible exact ih1 _ _ _ _ _ _ _)
   | (with_reducible exact LeO.refl _)
   | (with_reducible exact LeO.none _)
   | (with_reducible refine LeO.ite ?_ ?_)
   | (with_reducible refine LeO.bind ?_ (fun _ => ?_))
   | exact ih0 _ _ _ _ _
   | exact ih1 _ _ _ _ _ _ _
   | exact LeO.none _
   | refine LeO.ite ?_ ?_
   | refine LeO.bind ?_ (fun _ => ?_)
theorem trivetref15_Balances.mono : ∀ a0 a1 a2 k, LeO (trivetref15_Balances.f k a0 a1 a2) (trivetref15_Balances.f (k + 1) a0 a1 a2) := by
 intro a0 a1 a2 k
 obtain ⟨ih0, ih1⟩ := trivetref15_Balances.mono_l k
 unfold trivetref15_Balances.f
 repeat' first
   | (with_reducible exact ih0 _ _ _ _ _)
   | (with_reducible exact ih1 _ _ _ _ _ _ _)
   | (with_reducible exact LeO.refl _)
   | (with_reducible exact LeO.none _)
   | (with_reducible refine LeO.ite ?_ ?_)
   | (with_reducible refine LeO.bind ?_ (fun _ => ?_))
   | exact ih0 _ _ _ _ _
   | exact ih1 _ _ _ _ _ _ _
   | exact LeO.none _
   | refine LeO.ite ?_ ?_
   | refine LeO.bind ?_ (fun _ => ?_)
set_option maxHeartbeats 8000000 in
set_option maxRecDepth 100000 in
theorem trivetref15_Balances.calls (k : Nat) (A0 : Option Addr) (c0 : Nat) (l0 : List Int) (a1 : Int) (a2 : Int) (r : List Int) (w : World) (hr0 : Kd.C (Kd.int .i64) w A0 l0.length l0) (hc0 : l0.length ≤ c0) (h : trivetref15_Balances.f k l0 a1 a2 = some r) :
  Calls Tryz.prog 9 #[.slice A0 l0.length c0, .int .i64 a1, .int .i64 a2] w fun e w' => ∃ v0_ : Value, e = .returned (v0_) ∧ Kd.R (Kd.int .i64) 2 w' w.heap.size (fun _ => True) v0_ r ∧ Below w.heap.size w w' := by
 have HR0 := ka hr0
 have HC0 := ka hc0
 clear hr0 hc0
 have HB := ka (Below.refl w.heap.size w)
 have H : (trivetref15_Balances.l0 k l0 a1 a2 ([] : List Int) 0) = some r := h
 clear h
 have H' := ka H
 clear H
 go_enter Tryz.func9, Tryz.ntmps9
 go_wp2
 (try simp only [Act.put, List.setIfInBounds_toArray, List.set_cons_zero, List.set_cons_succ])
 go_loopg [7, 8] k (fun kq v7 v8 w' => ∃ (x7_1 : List Int) (x8_1 : Int), v8 = .int .i64 x8_1 ∧ Aside0 (trivetref15_Balances.l0 kq l0 a1 a2 x7_1 x8_1 = some r) ∧ Aside0 (kq ≤ k) ∧ Aside0 (Kd.R (Kd.int .i64) 2 w' w.heap.size (fun _ => True) v7 x7_1) ∧ Aside0 (Below w.heap.size w w'))
 case atStart => exact ⟨(([] : List Int)), (0), (by first | rfl | (simp; done) | (simp [*]; done)), H', ⟨Nat.le_refl _⟩, ⟨by first | exact Kd.R_nil _ _ _ _ _ | exact Kd.N_nil _ _ _ _ _ | exact Kd.V_nil _ _ _ _ _ | exact Kd.Q_nil _ _ _ _ _ | exact Kd.S_nil _ _ _ _ _⟩, ⟨by repeat (first | (with_reducible first | exact HB.out | apply kc1 | apply kc2 | apply kc3) | exact HB.out)⟩⟩
 case round =>
  clear H'
  try clear p2
  obtain ⟨x7_1, x8_1, rfl, HA, HK1, HO_7, HB⟩ := hrel
  cases gk with
  | zero => exact absurd HA.out (by simp [trivetref15_Balances.l0])
  | succ k1 =>
   have H := HA.out
   clear HA
   simp only [trivetref15_Balances.l0] at H
   by_cases c4 : x8_1 < 12
   ·rw [if_pos c4] at H
    have c4b0 : decide (x8_1 < 12) = true := decide_eq_true c4
    clear c4
    have H' := ka H
    clear H
    go_wp2
    (try simp only [Act.put, List.setIfInBounds_toArray, List.set_cons_zero, List.set_cons_succ])
    go_loopg [9, 10] k1 (fun kq v9 v10 w' => ∃ (x9_2 : Int) (x10_2 : Int), v9 = .int .i64 x9_2 ∧ v10 = .int .i64 x10_2 ∧ Aside0 (trivetref15_Balances.l1 kq l0 a1 a2 x7_1 x8_1 x9_2 x10_2 = some r) ∧ Aside0 (kq ≤ k1) ∧ Aside0 (Kd.R (Kd.int .i64) 2 w' w.heap.size (fun _ => True) u7 x7_1) ∧ Aside0 (Below w.heap.size w w'))
    case atStart => exact ⟨(a2), (0), (by first | rfl | (simp; done) | (simp [*]; done)), (by first | rfl | (simp; done) | (simp [*]; done)), H', ⟨Nat.le_refl _⟩, ⟨kr HO_7.out⟩, ⟨by repeat (first | (with_reducible first | exact HB.out | apply kc1 | apply kc2 | apply kc3) | exact HB.out)⟩⟩
    case round =>
     clear H'
     try clear p2
     try clear c4
     try clear c4b0
     try clear p2
     obtain ⟨x9_2, x10_2, rfl, rfl, HA, HK2, HO_7, HB⟩ := hrel
     cases gk with
     | zero => exact absurd HA.out (by simp [trivetref15_Balances.l1])
     | succ k2 =>
      have H := HA.out
      clear HA
      simp only [trivetref15_Balances.l1] at H
      by_cases c5 : x10_2 ≤ x8_1
      ·rw [if_pos c5] at H
       have c5b0 : decide (x10_2 ≤ x8_1) = true := decide_eq_true c5
       clear c5
       by_cases c6 : 0 ≤ x10_2
       ·rw [if_pos c6] at H
        have c6b0 : decide (0 ≤ x10_2) = true := decide_eq_true c6
        clear c6
        by_cases c7 : x10_2 < (l0.length : Int)
        ·rw [if_pos c7] at H
         have c7b0 : decide (x10_2 < (l0.length : Int)) = true := decide_eq_true c7
         clear c7
         have H' := ka H
         clear H
         have p429 : 0 ≤ (x10_2 : Int) := of_decide_eq_true (by first | (with_reducible assumption) | assumption)
         have q429 : x10_2 < (l0.length : Int) := of_decide_eq_true (by first | (with_reducible assumption) | assumption)
         obtain ⟨ad429, e429, hx429_0⟩ := Kd.at_int HR0.out x10_2 p429 q429
         cases e429
         replace hx429_0 := (HB.out.cell (World.block_lt_of_cell? w _ hx429_0)).trans hx429_0
         replace p429 := eq_true p429
         replace q429 := eq_true q429
         go_wp2
         go_roundg k2
         case measure => have := HK1.out; have := HK2.out; omega
         case rel => exact ⟨(wrap64 ((wrap64 (x9_2 + a1)) - (rd l0 x10_2))), (wrap64 (x10_2 + 1)), (by first | rfl | (simp; done) | (simp [*]; done)), (by first | rfl | (simp; done) | (simp [*]; done)), H', ⟨by have := HK1.out; have := HK2.out; omega⟩, ⟨kr HO_7.out⟩, ⟨by repeat (first | (with_reducible first | exact HB.out | apply kc1 | apply kc2 | apply kc3) | exact HB.out)⟩⟩
        ·rw [if_neg c7] at H
         exact absurd H (by simp)
       ·rw [if_neg c6] at H
        exact absurd H (by simp)
      ·rw [if_neg c5] at H
       have c5b0 : decide (x10_2 ≤ x8_1) = false := decide_eq_false c5
       clear c5
       by_cases c8 : x7_1.length < 17592186044416
       ·rw [if_pos c8] at H
        have LMc8 := ka c8
        clear c8
        obtain ⟨y430, hy430⟩ : ∃ y_ : List Int, y_ = (x7_1 ++ [x9_2]) := ⟨_, rfl⟩
        replace H : (trivetref15_Balances.l0 k2 l0 a1 a2 y430 (wrap64 (x8_1 + 1))) = some r := by first | (rw [hy430]; with_reducible exact H) | (have H2_ := (Option.bind_some _ _).symm.trans H; rw [hy430]; with_reducible exact H2_) | (have H2_ := (Option.bind_some _ _).symm.trans H; with_reducible exact H2_) | with_reducible exact H | (rw [hy430]; exact H) | exact H
        have Ny430 := ka hy430
        clear hy430
        have H' := ka H
        clear H
        go_wp2_with (first | ((with_reducible refine gate_builtin (b := .append) (xs := #[.tmp 29, .tmp 31]) rfl ?_); at_builtin; refine Kd.R_append (Kd.int .i64) (w0 := w) w.heap.size rfl (.tmp 29) (.tmp 31) 22 2 (.int .i64 0) 8 rfl Tryz.underlying22 info2 rfl (by decide) (by omega) u7 x7_1 x9_2 [.int .i64 x9_2] (fun _ => True) (fun _ => False) rfl rfl ?aP (fun _ hk => hk.elim) ?aF ?aO ?aB ?aS ?aL ?_; (case aP => exact rfl); (case aB => exact (kw HB.out)); (case aF => exact (fun _ _ => trivial)); (case aO => exact (kr HO_7.out)); (case aS => exact (below_size (kw HB.out))); (case aL => have := LMc8.out; omega); intro v431 w9 ho hb hg hat; rw [← Ny430.out] at ho; replace HB := ka (hb); have HO432 := ka (ho); clear HO_7; clear ho hb hg hat))
        go_roundg k2
        case measure => have := HK1.out; have := HK2.out; omega
        case rel => exact ⟨(y430), (wrap64 (x8_1 + 1)), (by first | rfl | (simp; done) | (simp [*]; done)), H', ⟨by have := HK1.out; have := HK2.out; omega⟩, ⟨kr HO432.out⟩, ⟨by repeat (first | (with_reducible first | exact HB.out | apply kc1 | apply kc2 | apply kc3) | exact HB.out)⟩⟩
       ·rw [if_neg c8] at H
        exact absurd H (by simp)
   ·rw [if_neg c4] at H
    have c4b0 : decide (x8_1 < 12) = false := decide_eq_false c4
    clear c4
    obtain rfl := Option.some.inj H
    go_wp2
    go_ret
    exact ⟨_, by first | rfl | (simp [errW_none, errW_some] <;> rfl) | (simp [*, errW_none, errW_some] <;> rfl), by (with_reducible repeat (first | apply Kd.R_alloc | apply Kd.R_drewN | apply Kd.R_drew)); exact HO_7.out, by repeat (first | (with_reducible first | exact HB.out | apply kc1 | apply kc2 | apply kc3) | exact HB.out)⟩

end Go.Proofs.YtbbhdlbpefibeaaGreatDoor.P
