-- Written by a program of this session out of the translation of the seat: Lean functions and the proofs that the Go functions come to them.
import Derived.Test.YtonjhfneeejdaaaPx0
import Derived.Test.YtonjhfneeejdaaaPx4
namespace Go.Proofs.Ytonjhfneeejdaaa.P
open Go.RowKit Go.Proofs.YtonjhfneeejdaaaW.PrintWords Go.Proofs.YtonjhfneeejdaaaW.PrintLast Go.Proofs.YtonjhfneeejdaaaW.PrintMore
attribute [local go_sem] max2_int min2_int max_two min_two max_three min_three max_four min_four   -- for this text's walks alone
set_option linter.unusedVariables false
set_option linter.unusedSimpArgs false

/-! ### trivetref01_less: function 40 -/
def trivetref01_less.l0 : Nat → List Int → List Int → Int → Option (Bool)
 | 0, _, _, _ => none
 | k + 1, x0, x1, x5 => if x5 ≥ 0 then (if 0 ≤ x5 then (if x5 < (x0.length : Int) then (if x5 < (x1.length : Int) then (if (rd x0 x5) = (rd x1 x5) then (trivetref01_less.l0 k x0 x1 (wrap64 (x5 - 1))) else (some (decide ((rd x0 x5) < (rd x1 x5))))) else (none)) else (none)) else (none)) else (some false)
def trivetref01_less.f (k : Nat) (l0 : List Int) (l1 : List Int) : Option (Bool) := if (l0.length : Int) = (l1.length : Int) then (trivetref01_less.l0 k l0 l1 (wrap64 ((l0.length : Int) - 1))) else (some (decide ((l0.length : Int) < (l1.length : Int))))
theorem trivetref01_less.mono_l : ∀ k, (∀ y0 y1 y2, LeO (trivetref01_less.l0 k y0 y1 y2) (trivetref01_less.l0 (k + 1) y0 y1 y2))
 | 0 => fun _ _ _ r h => by simp [trivetref01_less.l0] at h
 | k + 1 => by
  have ih0 := trivetref01_less.mono_l k
  ·intro y0 y1 y2
   unfold trivetref01_less.l0
   repeat' first
   | (with_reducible exact ih0 _ _ _)
   | (with_reducible exact LeO.refl _)
   | (with_reducible exact LeO.none _)
   | (with_reducible refine LeO.ite ?_ ?_)
   | (with_reducible refine LeO.bind ?_ (fun _ => ?_))
   | exact ih0 _ _ _
   | exact LeO.none _
   | refine LeO.ite ?_ ?_
   | refine LeO.bind ?_ (fun _ => ?_)
theorem trivetref01_less.mono : ∀ a0 a1 k, LeO (trivetref01_less.f k a0 a1) (trivetref01_less.f (k + 1) a0 a1) := by
 intro a0 a1 k
 have ih0 := trivetref01_less.mono_l k
 unfold trivetref01_less.f
 repeat' first
   | (with_reducible exact ih0 _ _ _)
   | (with_reducible exact LeO.refl _)
   | (with_reducible exact LeO.none _)
   | (with_reducible refine LeO.ite ?_ ?_)
   | (with_reducible refine LeO.bind ?_ (fun _ => ?_))
   | exact ih0 _ _ _
   | exact LeO.none _
   | refine LeO.ite ?_ ?_
   | refine LeO.bind ?_ (fun _ => ?_)
set_option maxHeartbeats 8000000 in
set_option maxRecDepth 100000 in
theorem trivetref01_less.calls (k : Nat) (A0 : Option Addr) (c0 : Nat) (l0 : List Int) (A1 : Option Addr) (c1 : Nat) (l1 : List Int) (r : Bool) (w : World) (hr0 : Kd.C (Kd.int .u64) w A0 l0.length l0) (hc0 : l0.length ≤ c0) (hr1 : Kd.C (Kd.int .u64) w A1 l1.length l1) (hc1 : l1.length ≤ c1) (h : trivetref01_less.f k l0 l1 = some r) :
  Calls Try.prog 40 #[.slice A0 l0.length c0, .slice A1 l1.length c1] w fun e w' => e = .returned (.bool r) ∧ Drawn0 w w' := by
 have HR0 := ka hr0
 have HC0 := ka hc0
 clear hr0 hc0
 have HR1 := ka hr1
 have HC1 := ka hc1
 clear hr1 hc1
 have H : (if (l0.length : Int) = (l1.length : Int) then (trivetref01_less.l0 k l0 l1 (wrap64 ((l0.length : Int) - 1))) else (some (decide ((l0.length : Int) < (l1.length : Int))))) = some r := h
 clear h
 by_cases c3 : (l0.length : Int) = (l1.length : Int)
 ·rw [if_pos c3] at H
  have c3b0 : ((l0.length : Int) == (l1.length : Int)) = true := beq_iff_eq.mpr c3
  have c3b1 : ((l0.length : Int) != (l1.length : Int)) = false := bne_eq_false_iff_eq.mpr c3
  have c3b2 : (l0.length == l1.length) = true := by first | simpa using c3 | (simp at c3 ⊢; omega)
  clear c3
  have H' := ka H
  clear H
  go_enter Try.func40, Try.ntmps40
  go_wp2
  repeat (go_quiet (fail); try go_wp2)
  (try simp only [Act.put, List.setIfInBounds_toArray, List.set_cons_zero, List.set_cons_succ])
  go_loopg [5] k (fun kq v5 w' => ∃ (x5_1 : Int), v5 = .int .i64 x5_1 ∧ Aside0 (trivetref01_less.l0 kq l0 l1 x5_1 = some r) ∧ Aside0 (kq ≤ k) ∧ Drawn0 w w')
  case atStart => exact ⟨(wrap64 ((l0.length : Int) - 1)), (by first | rfl | (simp; done) | (simp [*]; done)), H', ⟨Nat.le_refl _⟩, by repeat (first | exact Drawn0.refl _ | apply Drawn0.step)⟩
  case round =>
   clear H'
   try clear c1
   try clear p2
   try clear c3
   try clear c3b0
   try clear c3b1
   try clear c3b2
   obtain ⟨x5_1, rfl, HA, HK1, ⟨m1, rfl⟩⟩ := hrel
   cases gk with
   | zero => exact absurd HA.out (by simp [trivetref01_less.l0])
   | succ k1 =>
    have H := HA.out
    clear HA
    simp only [trivetref01_less.l0] at H
    by_cases c4 : x5_1 ≥ 0
    ·rw [if_pos c4] at H
     have c4b0 : decide (0 ≤ x5_1) = true := decide_eq_true c4
     clear c4
     by_cases c5 : 0 ≤ x5_1
     ·rw [if_pos c5] at H
      have c5b0 : decide (0 ≤ x5_1) = true := decide_eq_true c5
      clear c5
      by_cases c6 : x5_1 < (l0.length : Int)
      ·rw [if_pos c6] at H
       have c6b0 : decide (x5_1 < (l0.length : Int)) = true := decide_eq_true c6
       clear c6
       by_cases c7 : x5_1 < (l1.length : Int)
       ·rw [if_pos c7] at H
        have c7b0 : decide (x5_1 < (l1.length : Int)) = true := decide_eq_true c7
        clear c7
        by_cases c8 : (rd l0 x5_1) = (rd l1 x5_1)
        ·rw [if_pos c8] at H
         have c8b0 : ((rd l0 x5_1) == (rd l1 x5_1)) = true := beq_iff_eq.mpr c8
         have c8b1 : ((rd l0 x5_1) != (rd l1 x5_1)) = false := bne_eq_false_iff_eq.mpr c8
         clear c8
         have H' := ka H
         clear H
         have p494 : 0 ≤ (x5_1 : Int) := of_decide_eq_true (by first | (with_reducible assumption) | assumption)
         have q494 : x5_1 < (l0.length : Int) := of_decide_eq_true (by first | (with_reducible assumption) | assumption)
         obtain ⟨ad494, e494, hx494_0⟩ := Kd.at_int HR0.out x5_1 p494 q494
         cases e494
         replace p494 := eq_true p494
         replace q494 := eq_true q494
         have p495 : 0 ≤ (x5_1 : Int) := of_decide_eq_true (by first | (with_reducible assumption) | assumption)
         have q495 : x5_1 < (l1.length : Int) := of_decide_eq_true (by first | (with_reducible assumption) | assumption)
         obtain ⟨ad495, e495, hx495_0⟩ := Kd.at_int HR1.out x5_1 p495 q495
         cases e495
         replace p495 := eq_true p495
         replace q495 := eq_true q495
         go_wp2
         repeat (go_quiet (fail); try go_wp2)
         go_roundg k1
         case measure => have := HK1.out; omega
         case rel => exact ⟨(wrap64 (x5_1 - 1)), (by first | rfl | (simp; done) | (simp [*]; done)), H', ⟨by have := HK1.out; omega⟩, by repeat (first | exact Drawn0.refl _ | apply Drawn0.step)⟩
        ·rw [if_neg c8] at H
         have c8b0 : ((rd l0 x5_1) == (rd l1 x5_1)) = false := beq_eq_false_iff_ne.mpr c8
         have c8b1 : ((rd l0 x5_1) != (rd l1 x5_1)) = true := bne_iff_ne.mpr c8
         obtain rfl := Option.some.inj H
         have p494 : 0 ≤ (x5_1 : Int) := of_decide_eq_true (by first | (with_reducible assumption) | assumption)
         have q494 : x5_1 < (l0.length : Int) := of_decide_eq_true (by first | (with_reducible assumption) | assumption)
         obtain ⟨ad494, e494, hx494_0⟩ := Kd.at_int HR0.out x5_1 p494 q494
         cases e494
         replace p494 := eq_true p494
         replace q494 := eq_true q494
         have p495 : 0 ≤ (x5_1 : Int) := of_decide_eq_true (by first | (with_reducible assumption) | assumption)
         have q495 : x5_1 < (l1.length : Int) := of_decide_eq_true (by first | (with_reducible assumption) | assumption)
         obtain ⟨ad495, e495, hx495_0⟩ := Kd.at_int HR1.out x5_1 p495 q495
         cases e495
         replace p495 := eq_true p495
         replace q495 := eq_true q495
         have p496 : 0 ≤ (x5_1 : Int) := of_decide_eq_true (by first | (with_reducible assumption) | assumption)
         have q496 : x5_1 < (l0.length : Int) := of_decide_eq_true (by first | (with_reducible assumption) | assumption)
         obtain ⟨ad496, e496, hx496_0⟩ := Kd.at_int HR0.out x5_1 p496 q496
         obtain rfl : ad494 = ad496 := (by injection e496)
         replace p496 := eq_true p496
         replace q496 := eq_true q496
         have p497 : 0 ≤ (x5_1 : Int) := of_decide_eq_true (by first | (with_reducible assumption) | assumption)
         have q497 : x5_1 < (l1.length : Int) := of_decide_eq_true (by first | (with_reducible assumption) | assumption)
         obtain ⟨ad497, e497, hx497_0⟩ := Kd.at_int HR1.out x5_1 p497 q497
         obtain rfl : ad495 = ad497 := (by injection e497)
         replace p497 := eq_true p497
         replace q497 := eq_true q497
         go_wp2
         repeat (go_quiet (fail); try go_wp2)
         go_ret
         exact ⟨by first | rfl | (simp; done) | (simp [*]; done), by repeat (first | exact Drawn0.refl _ | apply Drawn0.step)⟩
       ·rw [if_neg c7] at H
        exact absurd H (by simp)
      ·rw [if_neg c6] at H
       exact absurd H (by simp)
     ·rw [if_neg c5] at H
      exact absurd H (by simp)
    ·rw [if_neg c4] at H
     have c4b0 : decide (0 ≤ x5_1) = false := decide_eq_false c4
     clear c4
     obtain rfl := Option.some.inj H
     go_wp2
     repeat (go_quiet (fail); try go_wp2)
     go_ret
     exact ⟨by first | rfl | (simp; done) | (simp [*]; done), by repeat (first | exact Drawn0.refl _ | apply Drawn0.step)⟩
 ·rw [if_neg c3] at H
  have c3b0 : ((l0.length : Int) == (l1.length : Int)) = false := beq_eq_false_iff_ne.mpr c3
  have c3b1 : ((l0.length : Int) != (l1.length : Int)) = true := bne_iff_ne.mpr c3
  have c3b2 : (l0.length == l1.length) = false := by first | simpa using c3 | (simp at c3 ⊢; omega)
  obtain rfl := Option.some.inj H
  go_enter Try.func40, Try.ntmps40
  go_wp2
  repeat (go_quiet (fail); try go_wp2)
  go_ret
  exact ⟨by first | rfl | (simp; done) | (simp [*]; done), by repeat (first | exact Drawn0.refl _ | apply Drawn0.step)⟩

/-! ### trivetref01_less: function 40, its laws -/
theorem trivetref01_less.loop (i : Nat) : ∀ (k : Nat) (a b : List Int), U.Dg a → U.Dg b → a.length = b.length → i ≤ a.length → (i : Int) < 1000000 → i < k → trivetref01_less.l0 k a b ((i : Int) - 1) = some (decide (U.val (a.take i) < U.val (b.take i))) := by
 induction i with
 | zero =>
  intro k a b ha hb hl hi hm hk
  obtain ⟨j, rfl⟩ : ∃ j, k = j + 1 := ⟨k - 1, by omega⟩
  simp only [trivetref01_less.l0]
  rw [if_neg (by omega)]
  simp [U.val]
 | succ i ih =>
  intro k a b ha hb hl hi hm hk
  obtain ⟨j, rfl⟩ : ∃ j, k = j + 1 := ⟨k - 1, by omega⟩
  have ra : rd a ((i + 1 : Nat) - 1 : Int) = a.getD i 0 := by unfold rd; congr 1; omega
  have rb : rd b ((i + 1 : Nat) - 1 : Int) = b.getD i 0 := by unfold rd; congr 1; omega
  have va := U.val_lt (d := a.take i) (fun x hx => ha x (List.mem_of_mem_take hx))
  have vb := U.val_lt (d := b.take i) (fun x hx => hb x (List.mem_of_mem_take hx))
  have va0 := U.val_nonneg (d := a.take i) (fun x hx => ha x (List.mem_of_mem_take hx))
  have vb0 := U.val_nonneg (d := b.take i) (fun x hx => hb x (List.mem_of_mem_take hx))
  rw [List.length_take, show min i a.length = i by omega] at va
  rw [List.length_take, show min i b.length = i by omega] at vb
  have ih' := ih j a b ha hb hl (by omega) (by omega) (by omega)
  simp only [trivetref01_less.l0]
  rw [if_pos (show ((i + 1 : Nat) - 1 : Int) ≥ 0 by omega), if_pos (show 0 ≤ ((i + 1 : Nat) - 1 : Int) by omega), if_pos (show ((i + 1 : Nat) - 1 : Int) < a.length by omega), if_pos (show ((i + 1 : Nat) - 1 : Int) < b.length by omega), ra, rb, U.take_succ a i (by omega), U.take_succ b i (by omega)]
  rw [M.w64_id (n := ((i + 1 : Nat) - 1 : Int) - 1) (by omega) (by omega), show ((i + 1 : Nat) - 1 : Int) - 1 = (i : Int) - 1 by omega, ih']
  generalize a.getD i 0 = x at *
  generalize b.getD i 0 = y at *
  generalize U.val (a.take i) = u at *
  generalize U.val (b.take i) = v at *
  have hp := U.pow_pos i
  generalize (65536 : Int) ^ i = p at *
  by_cases h : x = y
  ·rw [if_pos h, h]; congr 1; apply decide_eq_decide.mpr; omega
  ·rw [if_neg h]
   congr 1
   apply decide_eq_decide.mpr
   constructor
   ·intro hxy
    have h1 := Int.mul_le_mul_of_nonneg_left (show x + 1 ≤ y by omega) (Int.le_of_lt hp)
    rw [Int.mul_add] at h1
    omega
   ·intro hv
    refine Classical.byContradiction fun hn => ?_
    have h1 := Int.mul_le_mul_of_nonneg_left (show y + 1 ≤ x by omega) (Int.le_of_lt hp)
    rw [Int.mul_add] at h1
    omega
theorem trivetref01_less.num (k : Nat) (x y : Int) (hx : 0 ≤ x) (hy : 0 ≤ y) (lx : (U.dig x).length ≤ 1000) (ly : (U.dig y).length ≤ 1000) (hk : (U.dig x).length + 2 ≤ k) : trivetref01_less.f k (U.dig x) (U.dig y) = some (decide (x < y)) := by
 unfold trivetref01_less.f
 have ax := U.val_dig hx
 have ay := U.val_dig hy
 by_cases h : (U.dig x).length = (U.dig y).length
 ·rw [if_pos (by omega)]
  have hw : wrap64 (((U.dig x).length : Int) - 1) = ((U.dig x).length : Int) - 1 := M.w64_id (by omega) (by omega)
  rw [hw, trivetref01_less.loop _ k _ _ (U.dig_dg x) (U.dig_dg y) h (Nat.le_refl _) (by omega) (by omega), List.take_length, h, List.take_length, ax, ay]
 ·rw [if_neg (by omega)]
  congr 1
  apply decide_eq_decide.mpr
  constructor
  ·intro hl
   refine Classical.byContradiction fun hn => ?_
   have h1 := U.val_lt (U.dig_dg x)
   rw [ax] at h1
   have := U.len_dig (U.dig x).length y (by omega)
   omega
  ·intro hl
   refine Classical.byContradiction fun hn => ?_
   have h1 := U.val_lt (U.dig_dg y)
   rw [ay] at h1
   have := U.len_dig (U.dig y).length x (by omega)
   omega

/-! ### trivetref01_minus: function 41 -/
@[go_sem] theorem fieldAgg37_0 (x0 x1 : Value) (w : World) : (Instr.field 37 (.agg #[x0, x1]) 0).run Try.prog w = .ok x0 w := by
 have h1 : (isAgg 35).run Try.prog w = .ok false w := by simp [isAgg, run_underlying Try.underlying35]
 simp [Instr.field, run_underlying Try.underlying37, asAgg, part, h1]
def trivetref01_minus.l0 : Nat → List Int → List Int → List Int → Int → Int → Option (List Int)
 | 0, _, _, _, _, _ => none
 | k + 1, x0, x1, x5, x6, x7 => if x7 < (x0.length : Int) then (if 0 ≤ x7 then ((trivetref01_at.f x1 x7).bind fun t499 => (if x5.length < 17592186044416 then (trivetref01_minus.l0 k x0 x1 (x5 ++ [Int.tmod (IntKind.u64.wrap ((IntKind.u64.wrap ((IntKind.u64.wrap (65536 + (rd x0 x7))) - t499)) - x6)) 65536]) (IntKind.u64.wrap (1 - (IntKind.u64.wrap (Int.tdiv (IntKind.u64.wrap ((IntKind.u64.wrap ((IntKind.u64.wrap (65536 + (rd x0 x7))) - t499)) - x6)) 65536)))) (wrap64 (x7 + 1))) else (none))) else (none)) else ((trivetref01_norm.f k x5 false).bind fun bt503 => (some bt503.1))
def trivetref01_minus.f (k : Nat) (l0 : List Int) (l1 : List Int) : Option (List Int) := trivetref01_minus.l0 k l0 l1 ([] : List Int) 0 0
theorem trivetref01_minus.mono_l : ∀ k, (∀ y0 y1 y2 y3 y4, LeO (trivetref01_minus.l0 k y0 y1 y2 y3 y4) (trivetref01_minus.l0 (k + 1) y0 y1 y2 y3 y4))
 | 0 => fun _ _ _ _ _ r h => by simp [trivetref01_minus.l0] at h
 | k + 1 => by
  have ih0 := trivetref01_minus.mono_l k
  ·intro y0 y1 y2 y3 y4
   unfold trivetref01_minus.l0
   repeat' first
   | (with_reducible exact ih0 _ _ _ _ _)
   | (with_reducible exact trivetref01_norm.mono _ _ _)
   | (with_reducible exact LeO.refl _)
   | (with_reducible exact LeO.none _)
   | (with_reducible refine LeO.ite ?_ ?_)
   | (with_reducible refine LeO.bind ?_ (fun _ => ?_))
   | exact ih0 _ _ _ _ _
   | exact trivetref01_norm.mono _ _ _
   | exact LeO.none _
   | refine LeO.ite ?_ ?_
   | refine LeO.bind ?_ (fun _ => ?_)
theorem trivetref01_minus.mono : ∀ a0 a1 k, LeO (trivetref01_minus.f k a0 a1) (trivetref01_minus.f (k + 1) a0 a1) := by
 intro a0 a1 k
 have ih0 := trivetref01_minus.mono_l k
 unfold trivetref01_minus.f
 repeat' first
   | (with_reducible exact ih0 _ _ _ _ _)
   | (with_reducible exact trivetref01_norm.mono _ _ _)
   | (with_reducible exact LeO.refl _)
   | (with_reducible exact LeO.none _)
   | (with_reducible refine LeO.ite ?_ ?_)
   | (with_reducible refine LeO.bind ?_ (fun _ => ?_))
   | exact ih0 _ _ _ _ _
   | exact trivetref01_norm.mono _ _ _
   | exact LeO.none _
   | refine LeO.ite ?_ ?_
   | refine LeO.bind ?_ (fun _ => ?_)
set_option maxHeartbeats 8000000 in
set_option maxRecDepth 100000 in
theorem trivetref01_minus.calls (k : Nat) (A0 : Option Addr) (c0 : Nat) (l0 : List Int) (A1 : Option Addr) (c1 : Nat) (l1 : List Int) (r : List Int) (w : World) (hr0 : Kd.C (Kd.int .u64) w A0 l0.length l0) (hc0 : l0.length ≤ c0) (hr1 : Kd.C (Kd.int .u64) w A1 l1.length l1) (hc1 : l1.length ≤ c1) (h : trivetref01_minus.f k l0 l1 = some r) :
  Calls Try.prog 41 #[.slice A0 l0.length c0, .slice A1 l1.length c1] w fun e w' => ∃ v0_ : Value, e = .returned (v0_) ∧ Kd.V (Kd.int .u64) 53 w' w.heap.size (fun k_ => (w.heap.size ≤ k_)) v0_ r ∧ Below w.heap.size w w' := by
 have HR0 := ka hr0
 have HC0 := ka hc0
 clear hr0 hc0
 have HR1 := ka hr1
 have HC1 := ka hc1
 clear hr1 hc1
 have HB := ka (Below.refl w.heap.size w)
 have H : (trivetref01_minus.l0 k l0 l1 ([] : List Int) 0 0) = some r := h
 clear h
 have H' := ka H
 clear H
 go_enter Try.func41, Try.ntmps41
 go_wp2
 repeat (go_quiet (fail); try go_wp2)
 (try simp only [Act.put, List.setIfInBounds_toArray, List.set_cons_zero, List.set_cons_succ])
 go_loopg [5, 6, 7] k (fun kq v5 v6 v7 w' => ∃ (x5_1 : List Int) (x6_1 : Int) (x7_1 : Int), v6 = .int .u64 x6_1 ∧ v7 = .int .i64 x7_1 ∧ Aside0 (trivetref01_minus.l0 kq l0 l1 x5_1 x6_1 x7_1 = some r) ∧ Aside0 (kq ≤ k) ∧ Aside0 (Kd.R (Kd.int .u64) 53 w' w.heap.size (fun k_ => (w.heap.size ≤ k_)) v5 x5_1) ∧ Aside0 (Below w.heap.size w w'))
 case atStart => exact ⟨(([] : List Int)), (0), (0), (by first | rfl | (simp; done) | (simp [*]; done)), (by first | rfl | (simp; done) | (simp [*]; done)), H', ⟨Nat.le_refl _⟩, ⟨by first | exact Kd.R_nil _ _ _ _ _ | exact Kd.N_nil _ _ _ _ _ | exact Kd.V_nil _ _ _ _ _ | exact Kd.Q_nil _ _ _ _ _ | exact Kd.S_nil _ _ _ _ _⟩, ⟨by repeat (first | (with_reducible first | exact HB.out | apply kc1 | apply kc2 | apply kc3) | exact HB.out)⟩⟩
 case round =>
  clear H'
  try clear c1
  try clear p2
  obtain ⟨x5_1, x6_1, x7_1, rfl, rfl, HA, HK1, HO_5, HB⟩ := hrel
  cases gk with
  | zero => exact absurd HA.out (by simp [trivetref01_minus.l0])
  | succ k1 =>
   have H := HA.out
   clear HA
   simp only [trivetref01_minus.l0] at H
   by_cases c3 : x7_1 < (l0.length : Int)
   ·rw [if_pos c3] at H
    have c3b0 : decide (x7_1 < (l0.length : Int)) = true := decide_eq_true c3
    clear c3
    by_cases c4 : 0 ≤ x7_1
    ·rw [if_pos c4] at H
     have c4b0 : decide (0 ≤ x7_1) = true := decide_eq_true c4
     clear c4
     replace H := Option.bind_eq_some_iff.mp H
     obtain ⟨t499, A50, H⟩ := H
     replace H : (if x5_1.length < 17592186044416 then (trivetref01_minus.l0 k1 l0 l1 (x5_1 ++ [Int.tmod (IntKind.u64.wrap ((IntKind.u64.wrap ((IntKind.u64.wrap (65536 + (rd l0 x7_1))) - t499)) - x6_1)) 65536]) (IntKind.u64.wrap (1 - (IntKind.u64.wrap (Int.tdiv (IntKind.u64.wrap ((IntKind.u64.wrap ((IntKind.u64.wrap (65536 + (rd l0 x7_1))) - t499)) - x6_1)) 65536)))) (wrap64 (x7_1 + 1))) else (none)) = some r := H
     have A5 := ka A50
     clear A50
     by_cases c6 : x5_1.length < 17592186044416
     ·rw [if_pos c6] at H
      have LMc6 := ka c6
      clear c6
      obtain ⟨y500, hy500⟩ : ∃ y_ : List Int, y_ = (x5_1 ++ [Int.tmod (IntKind.u64.wrap ((IntKind.u64.wrap ((IntKind.u64.wrap (65536 + (rd l0 x7_1))) - t499)) - x6_1)) 65536]) := ⟨_, rfl⟩
      replace H : (trivetref01_minus.l0 k1 l0 l1 y500 (IntKind.u64.wrap (1 - (IntKind.u64.wrap (Int.tdiv (IntKind.u64.wrap ((IntKind.u64.wrap ((IntKind.u64.wrap (65536 + (rd l0 x7_1))) - t499)) - x6_1)) 65536)))) (wrap64 (x7_1 + 1))) = some r := by first | (rw [hy500]; with_reducible exact H) | (have H2_ := (Option.bind_some _ _).symm.trans H; rw [hy500]; with_reducible exact H2_) | (have H2_ := (Option.bind_some _ _).symm.trans H; with_reducible exact H2_) | with_reducible exact H | (rw [hy500]; exact H) | exact H
      have Ny500 := ka hy500
      clear hy500
      have H' := ka H
      clear H
      have p498 : 0 ≤ (x7_1 : Int) := of_decide_eq_true (by first | (with_reducible assumption) | assumption)
      have q498 : x7_1 < (l0.length : Int) := of_decide_eq_true (by first | (with_reducible assumption) | assumption)
      obtain ⟨ad498, e498, hx498_0⟩ := Kd.at_int HR0.out x7_1 p498 q498
      cases e498
      replace hx498_0 := (HB.out.cell (World.block_lt_of_cell? w _ hx498_0)).trans hx498_0
      replace p498 := eq_true p498
      replace q498 := eq_true q498
      go_wp2_with (first | (go_at_call 39; (with_reducible refine (trivetref01_at.calls _ _ l1 x7_1 t499 _ ?side1 ?side2 A5.out).mono ?_); (case side1 => repeat (first | exact (Kd.C_below HR1.out HB.out) | (with_reducible refine Kd.C_alloc ?_ _) | (with_reducible refine Kd.C_drewN ?_ _) | (with_reducible refine Kd.C_drew ?_))); (case side2 => exact HC1.out); rintro e w' ⟨rfl, ⟨nd, rfl⟩⟩; (try first | exact ⟨rfl, _, World.drewN_drewN _ _ _⟩ | exact ⟨rfl, _, Eq.trans (World.drewN_drewN _ _ _) (congrArg (World.drewN _) (Nat.add_assoc _ _ _))⟩)) | ((with_reducible refine gate_builtin (b := .append) (xs := #[.tmp 26, .tmp 29]) rfl ?_); at_builtin; refine Kd.R_append (Kd.int .u64) (w0 := w) w.heap.size rfl (.tmp 26) (.tmp 29) 35 53 (.int .u64 0) 8 rfl Try.underlying35 info53 rfl (by decide) (by omega) u5 x5_1 (Int.tmod (IntKind.u64.wrap ((IntKind.u64.wrap ((IntKind.u64.wrap (65536 + (rd l0 x7_1))) - t499)) - x6_1)) 65536) [.int .u64 (Int.tmod (IntKind.u64.wrap ((IntKind.u64.wrap ((IntKind.u64.wrap (65536 + (rd l0 x7_1))) - t499)) - x6_1)) 65536)] (fun k_ => (w.heap.size ≤ k_)) (fun _ => False) rfl rfl ?aP (fun _ hk => hk.elim) ?aF ?aO ?aB ?aS ?aL ?_; (case aP => exact rfl); (case aB => exact (kw HB.out)); (case aF => exact (fun k_ hk => (Nat.le_trans (below_size (kw HB.out)) hk))); (case aO => exact (kr HO_5.out)); (case aS => exact (below_size (kw HB.out))); (case aL => have := LMc6.out; omega); intro v501 w7 ho hb hg hat; rw [← Ny500.out] at ho; replace HB := ka (hb); have HO502 := ka (ho); clear HO_5; clear ho hb hg hat))
      repeat (go_quiet (first | (go_at_call 39; (with_reducible refine (trivetref01_at.calls _ _ l1 x7_1 t499 _ ?side1 ?side2 A5.out).mono ?_); (case side1 => repeat (first | exact (Kd.C_below HR1.out HB.out) | (with_reducible refine Kd.C_alloc ?_ _) | (with_reducible refine Kd.C_drewN ?_ _) | (with_reducible refine Kd.C_drew ?_))); (case side2 => exact HC1.out); rintro e w' ⟨rfl, ⟨nd, rfl⟩⟩; (try first | exact ⟨rfl, _, World.drewN_drewN _ _ _⟩ | exact ⟨rfl, _, Eq.trans (World.drewN_drewN _ _ _) (congrArg (World.drewN _) (Nat.add_assoc _ _ _))⟩)) | ((with_reducible refine gate_builtin (b := .append) (xs := #[.tmp 26, .tmp 29]) rfl ?_); at_builtin; refine Kd.R_append (Kd.int .u64) (w0 := w) w.heap.size rfl (.tmp 26) (.tmp 29) 35 53 (.int .u64 0) 8 rfl Try.underlying35 info53 rfl (by decide) (by omega) u5 x5_1 (Int.tmod (IntKind.u64.wrap ((IntKind.u64.wrap ((IntKind.u64.wrap (65536 + (rd l0 x7_1))) - t499)) - x6_1)) 65536) [.int .u64 (Int.tmod (IntKind.u64.wrap ((IntKind.u64.wrap ((IntKind.u64.wrap (65536 + (rd l0 x7_1))) - t499)) - x6_1)) 65536)] (fun k_ => (w.heap.size ≤ k_)) (fun _ => False) rfl rfl ?aP (fun _ hk => hk.elim) ?aF ?aO ?aB ?aS ?aL ?_; (case aP => exact rfl); (case aB => exact (kw HB.out)); (case aF => exact (fun k_ hk => (Nat.le_trans (below_size (kw HB.out)) hk))); (case aO => exact (kr HO_5.out)); (case aS => exact (below_size (kw HB.out))); (case aL => have := LMc6.out; omega); intro v501 w7 ho hb hg hat; rw [← Ny500.out] at ho; replace HB := ka (hb); have HO502 := ka (ho); clear HO_5; clear ho hb hg hat)); try go_wp2_with (first | (go_at_call 39; (with_reducible refine (trivetref01_at.calls _ _ l1 x7_1 t499 _ ?side1 ?side2 A5.out).mono ?_); (case side1 => repeat (first | exact (Kd.C_below HR1.out HB.out) | (with_reducible refine Kd.C_alloc ?_ _) | (with_reducible refine Kd.C_drewN ?_ _) | (with_reducible refine Kd.C_drew ?_))); (case side2 => exact HC1.out); rintro e w' ⟨rfl, ⟨nd, rfl⟩⟩; (try first | exact ⟨rfl, _, World.drewN_drewN _ _ _⟩ | exact ⟨rfl, _, Eq.trans (World.drewN_drewN _ _ _) (congrArg (World.drewN _) (Nat.add_assoc _ _ _))⟩)) | ((with_reducible refine gate_builtin (b := .append) (xs := #[.tmp 26, .tmp 29]) rfl ?_); at_builtin; refine Kd.R_append (Kd.int .u64) (w0 := w) w.heap.size rfl (.tmp 26) (.tmp 29) 35 53 (.int .u64 0) 8 rfl Try.underlying35 info53 rfl (by decide) (by omega) u5 x5_1 (Int.tmod (IntKind.u64.wrap ((IntKind.u64.wrap ((IntKind.u64.wrap (65536 + (rd l0 x7_1))) - t499)) - x6_1)) 65536) [.int .u64 (Int.tmod (IntKind.u64.wrap ((IntKind.u64.wrap ((IntKind.u64.wrap (65536 + (rd l0 x7_1))) - t499)) - x6_1)) 65536)] (fun k_ => (w.heap.size ≤ k_)) (fun _ => False) rfl rfl ?aP (fun _ hk => hk.elim) ?aF ?aO ?aB ?aS ?aL ?_; (case aP => exact rfl); (case aB => exact (kw HB.out)); (case aF => exact (fun k_ hk => (Nat.le_trans (below_size (kw HB.out)) hk))); (case aO => exact (kr HO_5.out)); (case aS => exact (below_size (kw HB.out))); (case aL => have := LMc6.out; omega); intro v501 w7 ho hb hg hat; rw [← Ny500.out] at ho; replace HB := ka (hb); have HO502 := ka (ho); clear HO_5; clear ho hb hg hat)))
      go_roundg k1
      case measure => have := HK1.out; omega
      case rel => exact ⟨(y500), (IntKind.u64.wrap (1 - (IntKind.u64.wrap (Int.tdiv (IntKind.u64.wrap ((IntKind.u64.wrap ((IntKind.u64.wrap (65536 + (rd l0 x7_1))) - t499)) - x6_1)) 65536)))), (wrap64 (x7_1 + 1)), (by first | rfl | (simp; done) | (simp [*]; done)), (by first | rfl | (simp; done) | (simp [*]; done)), H', ⟨by have := HK1.out; omega⟩, ⟨kr HO502.out⟩, ⟨by repeat (first | (with_reducible first | exact HB.out | apply kc1 | apply kc2 | apply kc3) | exact HB.out)⟩⟩
     ·rw [if_neg c6] at H
      exact absurd H (by simp)
    ·rw [if_neg c4] at H
     exact absurd H (by simp)
   ·rw [if_neg c3] at H
    have c3b0 : decide (x7_1 < (l0.length : Int)) = false := decide_eq_false c3
    clear c3
    replace H := Option.bind_eq_some_iff.mp H
    obtain ⟨⟨t503, t506⟩, A80, H⟩ := H
    replace H : (some t503) = some r := H
    have A8 := ka A80
    clear A80
    obtain rfl := Option.some.inj H
    obtain ⟨Ao9, co9, eo9⟩ := Kd.R_slice HO_5.out
    subst eo9
    go_wp2_with (first | (go_at_call 25; (with_reducible refine (trivetref01_norm.calls k1 (fun k_ => some k_ = (.slice Ao9 x5_1.length co9 : Value).ownBlock) _ _ x5_1 false t503 t506 _ ?side1 A8.out).mono ?_); (case side1 => exact Kd.R_V (Kd.R_tight rfl (HO_5.out))); rintro e w10 ⟨v504, rfl, ho0, hb⟩; have HO505 := ka (Kd.V_lower (Kd.V_mono (ok' := fun k_ => (w.heap.size ≤ k_)) ho0 (fun k_ hk_ => Or.elim hk_ (fun hs_ => ((HO_5.out).1 k_ hs_.symm)) (fun hn_ => (Nat.le_trans (below_size (kw HB.out)) hn_)))) (below_size (kw HB.out))); replace HO_5 := ka (Kd.R_below (kr HO_5.out) hb); replace HB := ka (below_step (kw HB.out) hb); (try clear hb); (try clear hb2); (try clear hk); (try clear hi); (try clear ho0)))
    repeat (go_quiet (first | (go_at_call 25; (with_reducible refine (trivetref01_norm.calls k1 (fun k_ => some k_ = (.slice Ao9 x5_1.length co9 : Value).ownBlock) _ _ x5_1 false t503 t506 _ ?side1 A8.out).mono ?_); (case side1 => exact Kd.R_V (Kd.R_tight rfl (HO_5.out))); rintro e w10 ⟨v504, rfl, ho0, hb⟩; have HO505 := ka (Kd.V_lower (Kd.V_mono (ok' := fun k_ => (w.heap.size ≤ k_)) ho0 (fun k_ hk_ => Or.elim hk_ (fun hs_ => ((HO_5.out).1 k_ hs_.symm)) (fun hn_ => (Nat.le_trans (below_size (kw HB.out)) hn_)))) (below_size (kw HB.out))); replace HO_5 := ka (Kd.R_below (kr HO_5.out) hb); replace HB := ka (below_step (kw HB.out) hb); (try clear hb); (try clear hb2); (try clear hk); (try clear hi); (try clear ho0))); try go_wp2_with (first | (go_at_call 25; (with_reducible refine (trivetref01_norm.calls k1 (fun k_ => some k_ = (.slice Ao9 x5_1.length co9 : Value).ownBlock) _ _ x5_1 false t503 t506 _ ?side1 A8.out).mono ?_); (case side1 => exact Kd.R_V (Kd.R_tight rfl (HO_5.out))); rintro e w10 ⟨v504, rfl, ho0, hb⟩; have HO505 := ka (Kd.V_lower (Kd.V_mono (ok' := fun k_ => (w.heap.size ≤ k_)) ho0 (fun k_ hk_ => Or.elim hk_ (fun hs_ => ((HO_5.out).1 k_ hs_.symm)) (fun hn_ => (Nat.le_trans (below_size (kw HB.out)) hn_)))) (below_size (kw HB.out))); replace HO_5 := ka (Kd.R_below (kr HO_5.out) hb); replace HB := ka (below_step (kw HB.out) hb); (try clear hb); (try clear hb2); (try clear hk); (try clear hi); (try clear ho0))))
    go_ret
    exact ⟨_, by first | rfl | (simp [errW_none, errW_some] <;> rfl) | (simp [*, errW_none, errW_some] <;> rfl), by (with_reducible repeat (first | apply Kd.V_alloc | apply Kd.V_drewN | apply Kd.V_drew)); exact HO505.out, by repeat (first | (with_reducible first | exact HB.out | apply kc1 | apply kc2 | apply kc3) | exact HB.out)⟩

/-! ### trivetref01_minus: function 41, its laws -/
theorem trivetref01_minus.loop (n : Nat) : ∀ (k : Nat) (a b acc : List Int) (c : Int) (i : Nat), U.Dg a → U.Dg b → U.Dg acc → 0 ≤ c ∧ c ≤ 1 → a.length = i + n → b.length ≤ a.length → acc.length = i → i + n < 500000 → U.val b ≤ U.val a → U.val acc + 65536 ^ i * (U.val (a.drop i) - U.val (b.drop i) - c) = U.val a - U.val b → 2 * n + i + 4 ≤ k →
  trivetref01_minus.l0 k a b acc c i = some (U.dig (U.val a - U.val b)) := by
 induction n with
 | zero =>
  intro k a b acc c i ha hb hacc hc la lb hl hi hv hi2 hk
  obtain ⟨j, rfl⟩ : ∃ j, k = j + 1 := ⟨k - 1, by omega⟩
  rw [List.drop_eq_nil_of_le (by omega), List.drop_eq_nil_of_le (by omega)] at hi2
  simp only [U.val] at hi2
  have hlt := U.val_lt hacc
  have h0 := U.val_nonneg hacc
  rw [hl] at hlt
  have hp := U.pow_pos i
  have ec : c = 0 := by
   refine Classical.byContradiction fun hn => ?_
   have : c = 1 := by omega
   subst this
   have e : (65536 : Int) ^ i * (0 - 0 - 1) = -65536 ^ i := by omega
   rw [e] at hi2
   omega
  subst ec
  have hi3 : U.val acc = U.val a - U.val b := by simpa using hi2
  simp only [trivetref01_minus.l0]
  rw [if_neg (by omega), trivetref01_norm.tells j acc false hacc (by omega) (by omega), hi3]
  rfl
 | succ n ih =>
  intro k a b acc c i ha hb hacc hc la lb hl hi hv hi2 hk
  obtain ⟨j, rfl⟩ : ∃ j, k = j + 1 := ⟨k - 1, by omega⟩
  have ga := ha.get i
  have gb := hb.get i
  have ra : rd a (i : Int) = a.getD i 0 := rfl
  rw [U.drop_step a i, U.drop_step b i] at hi2
  simp only [trivetref01_minus.l0]
  rw [if_pos (by omega), if_pos (by omega), trivetref01_at.num, Option.bind_some, if_pos (by omega), ra]
  have ih' := fun q r => ih j a b (acc ++ [r]) q (i + 1) ha hb
  generalize a.getD i 0 = x at *
  generalize b.getD i 0 = y at *
  rw [M.wrapu_id (n := 65536 + x) (by omega) (by omega), M.wrapu_id (n := 65536 + x - y) (by omega) (by omega), M.wrapu_id (n := 65536 + x - y - c) (by omega) (by omega), M.tdivu (show 0 ≤ 65536 + x - y - c by omega), M.tmodu (show 0 ≤ 65536 + x - y - c by omega), M.wrapu_id (n := (65536 + x - y - c) / 65536) (by omega) (by omega), M.wrapu_id (n := 1 - (65536 + x - y - c) / 65536) (by omega) (by omega), M.w64_id (n := (i : Int) + 1) (by omega) (by omega)]
  refine ih' _ _ (hacc.add (U.Dg.one (by omega))) (by omega) (by omega) lb (by simp; omega) (by omega) hv ?_ (by omega)
  rw [← hi2, U.val_append, U.val_one, hl, U.pow_succ]
  generalize U.val (a.drop (i + 1)) = u
  generalize U.val (b.drop (i + 1)) = v
  have : x + 65536 * u - (y + 65536 * v) - c = (65536 + x - y - c) % 65536 + 65536 * (u - v - (1 - (65536 + x - y - c) / 65536)) := by omega
  rw [this]
  generalize (65536 + x - y - c) % 65536 = r
  generalize u - v - (1 - (65536 + x - y - c) / 65536) = s
  generalize (65536 : Int) ^ i = p
  rw [Int.mul_add, Int.mul_comm 65536 p, Int.mul_assoc, Int.add_assoc]
theorem trivetref01_minus.num (k : Nat) (x y : Int) (hy : 0 ≤ y) (hxy : y ≤ x) (lx : (U.dig x).length ≤ 1000) (hk : 2 * (U.dig x).length + 4 ≤ k) : trivetref01_minus.f k (U.dig x) (U.dig y) = some (U.dig (x - y)) := by
 have ax := U.val_dig (n := x) (by omega)
 have ay := U.val_dig hy
 have ly : (U.dig y).length ≤ (U.dig x).length := by
  have h1 := U.val_lt (U.dig_dg x)
  rw [ax] at h1
  exact U.len_dig (U.dig x).length y (by omega)
 have := trivetref01_minus.loop (U.dig x).length k (U.dig x) (U.dig y) [] 0 0 (U.dig_dg x) (U.dig_dg y) U.Dg.nil (by omega) (by omega) ly rfl (by omega) (by omega) (by simp [U.val]) (by omega)
 rw [ax, ay] at this
 exact this

end Go.Proofs.Ytonjhfneeejdaaa.P
