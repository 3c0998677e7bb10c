-- Written by a program of this session out of the translation of the seat: Lean functions and the proofs that the Go functions come to them.
import Derived.Test.YtonjhfneeejdaaaPx0
namespace Go.Proofs.Ytonjhfneeejdaaa.P
open Go.RowKit Go.Proofs.YtonjhfneeejdaaaW.PrintWords Go.Proofs.YtonjhfneeejdaaaW.PrintLast Go.Proofs.YtonjhfneeejdaaaW.PrintMore
attribute [local go_sem] max2_int min2_int max_two min_two max_three min_three max_four min_four   -- for this text's walks alone
set_option linter.unusedVariables false
set_option linter.unusedSimpArgs false

/-! ### date_leap: function 42 -/
def date_leap.f (a0 : Int) : Option (Bool) := if (Int.tmod a0 4) = 0 then (if (Int.tmod a0 100) = 0 then (some ((Int.tmod a0 400) == 0)) else (some true)) else (some ((Int.tmod a0 400) == 0))
set_option maxHeartbeats 8000000 in
set_option maxRecDepth 100000 in
theorem date_leap.calls (a0 : Int) (r : Bool) (w : World) (h : date_leap.f a0 = some r) :
  Calls Try.prog 42 #[.int .i64 a0] w fun e w' => e = .returned (.bool r) ∧ Drawn0 w w' := by
 have H : (if (Int.tmod a0 4) = 0 then (if (Int.tmod a0 100) = 0 then (some ((Int.tmod a0 400) == 0)) else (some true)) else (some ((Int.tmod a0 400) == 0))) = some r := h
 clear h
 by_cases c2 : (Int.tmod a0 4) = 0
 ·rw [if_pos c2] at H
  have c2b0 : ((Int.tmod a0 4) == 0) = true := beq_iff_eq.mpr c2
  have c2b1 : ((Int.tmod a0 4) != 0) = false := bne_eq_false_iff_eq.mpr c2
  clear c2
  by_cases c3 : (Int.tmod a0 100) = 0
  ·rw [if_pos c3] at H
   have c3b0 : ((Int.tmod a0 100) == 0) = true := beq_iff_eq.mpr c3
   have c3b1 : ((Int.tmod a0 100) != 0) = false := bne_eq_false_iff_eq.mpr c3
   clear c3
   obtain rfl := Option.some.inj H
   go_enter Try.func42, Try.ntmps42
   go_wp2
   go_ret
   exact ⟨by first | rfl | (simp; done) | (simp [*]; done), by repeat (first | exact Drawn0.refl _ | apply Drawn0.step)⟩
  ·rw [if_neg c3] at H
   have c3b0 : ((Int.tmod a0 100) == 0) = false := beq_eq_false_iff_ne.mpr c3
   have c3b1 : ((Int.tmod a0 100) != 0) = true := bne_iff_ne.mpr c3
   obtain rfl := Option.some.inj H
   go_enter Try.func42, Try.ntmps42
   go_wp2
   go_ret
   exact ⟨by first | rfl | (simp; done) | (simp [*]; done), by repeat (first | exact Drawn0.refl _ | apply Drawn0.step)⟩
 ·rw [if_neg c2] at H
  have c2b0 : ((Int.tmod a0 4) == 0) = false := beq_eq_false_iff_ne.mpr c2
  have c2b1 : ((Int.tmod a0 4) != 0) = true := bne_iff_ne.mpr c2
  obtain rfl := Option.some.inj H
  go_enter Try.func42, Try.ntmps42
  go_wp2
  go_ret
  exact ⟨by first | rfl | (simp; done) | (simp [*]; done), by repeat (first | exact Drawn0.refl _ | apply Drawn0.step)⟩

/-! ### date_leap_s: function 42, told plainly -/
theorem date_leap.tells (y : Int) (h : 0 ≤ y) : date_leap.f y = some (M.leap y) := by
 unfold date_leap.f M.leap
 rw [M.tmodu h, M.tmodu h, M.tmodu h]
 by_cases h1 : y % 4 = 0
 ·by_cases h2 : y % 100 = 0
  ·by_cases h3 : y % 400 = 0 <;> simp [h1, h2, h3]
  ·simp [h1, h2]
 ·have : ¬ y % 400 = 0 := by omega
  simp [h1, this]
def date_leap_s.f (y : Int) : Option Bool := if 0 ≤ y then some (M.leap y) else none
theorem date_leap_s.calls (a0 : Int) (r : Bool) (w : World) (h : date_leap_s.f a0 = some r) :
  Calls Try.prog 42 #[.int .i64 a0] w fun e w' => e = .returned (.bool r) ∧ Drawn0 w w' := by
 unfold date_leap_s.f at h
 split at h
 ·rename_i hr
  exact date_leap.calls a0 r w ((date_leap.tells a0 hr).trans h)
 ·cases h

/-! ### date_Days: function 32 -/
def date_Days.f (y m : Int) : Option Int := some (M.days y m)
set_option maxHeartbeats 8000000 in
set_option maxRecDepth 100000 in
theorem date_Days.zero (a0 a1 : Int) (w : World) (h : a0 < 1900 ∨ 2199 < a0 ∨ a1 < 1 ∨ 12 < a1) :
  Calls Try.prog 32 #[.int .i64 a0, .int .i64 a1] w fun e w' => e = .returned (.int .i64 0) ∧ Below w.heap.size w w' := by
 by_cases h1 : a0 < 1900
 ·have b1 : decide (a0 < 1900) = true := decide_eq_true h1
  clear h h1
  go_enter Try.func32, Try.ntmps32
  go_wp2
  go_ret
  exact ⟨rfl, Below.refl _ _⟩
 ·have b1 : decide (a0 < 1900) = false := decide_eq_false h1
  by_cases h2 : 2199 < a0
  ·have b2 : decide (2199 < a0) = true := decide_eq_true h2
   clear h h1 h2
   go_enter Try.func32, Try.ntmps32
   go_wp2
   go_ret
   exact ⟨rfl, Below.refl _ _⟩
  ·have b2 : decide (2199 < a0) = false := decide_eq_false h2
   by_cases h3 : a1 < 1
   ·have b3 : decide (a1 < 1) = true := decide_eq_true h3
    clear h h1 h2 h3
    go_enter Try.func32, Try.ntmps32
    go_wp2
    go_ret
    exact ⟨rfl, Below.refl _ _⟩
   ·have b3 : decide (a1 < 1) = false := decide_eq_false h3
    have b4 : decide (12 < a1) = true := decide_eq_true (by omega)
    clear h h1 h2 h3
    go_enter Try.func32, Try.ntmps32
    go_wp2
    go_ret
    exact ⟨rfl, Below.refl _ _⟩
set_option maxHeartbeats 8000000 in
set_option maxRecDepth 100000 in
theorem date_Days.calls (a0 a1 r : Int) (w : World) (h : date_Days.f a0 a1 = some r) :
  Calls Try.prog 32 #[.int .i64 a0, .int .i64 a1] w fun e w' => e = .returned (.int .i64 r) ∧ Below w.heap.size w w' := by
 unfold date_Days.f at h
 injection h with h
 subst h
 by_cases hin : 1900 ≤ a0 ∧ a0 ≤ 2199 ∧ 1 ≤ a1 ∧ a1 ≤ 12
 ·obtain ⟨i1, i2, i3, i4⟩ := hin
  have hm : a1 = 1 ∨ a1 = 2 ∨ a1 = 3 ∨ a1 = 4 ∨ a1 = 5 ∨ a1 = 6 ∨ a1 = 7 ∨ a1 = 8 ∨ a1 = 9 ∨ a1 = 10 ∨ a1 = 11 ∨ a1 = 12 := by omega
  have hd : M.days a0 a1 = if a1 = 2 then (if M.leap a0 = true then 29 else 28) else if a1 = 4 ∨ a1 = 6 ∨ a1 = 9 ∨ a1 = 11 then 30 else 31 := by unfold M.days; rw [if_pos ⟨i1, i2, i3, i4⟩]
  have hl : date_leap_s.f a0 = some (M.leap a0) := by unfold date_leap_s.f; rw [if_pos (by omega)]
  have b1 : decide (a0 < 1900) = false := decide_eq_false (by omega)
  have b2 : decide (2199 < a0) = false := decide_eq_false (by omega)
  have HL := ka hl
  have HD := ka hd
  clear hl hd i1 i2 i3 i4
  rcases hm with rfl | rfl | rfl | rfl | rfl | rfl | rfl | rfl | rfl | rfl | rfl | rfl
  case inr.inl =>
   cases hlp : M.leap a0 with
   | false =>
    rw [hlp] at HL HD
    clear hlp
    go_enter Try.func32, Try.ntmps32
    go_wp2_with (go_at_call 42; refine (date_leap_s.calls a0 _ _ HL.out).mono ?_; rintro e w' ⟨rfl, ⟨nd, rfl⟩⟩)
    go_ret
    exact ⟨by rw [HD.out]; rfl, pw_below_drewN ((Below.refl _ _).alloc (Nat.le_refl _) _) _⟩
   | true =>
    rw [hlp] at HL HD
    clear hlp
    go_enter Try.func32, Try.ntmps32
    go_wp2_with (go_at_call 42; refine (date_leap_s.calls a0 _ _ HL.out).mono ?_; rintro e w' ⟨rfl, ⟨nd, rfl⟩⟩)
    go_ret
    exact ⟨by rw [HD.out]; rfl, pw_below_drewN ((Below.refl _ _).alloc (Nat.le_refl _) _) _⟩
  all_goals
   go_enter Try.func32, Try.ntmps32
   go_wp2
   go_ret
   exact ⟨by rw [HD.out]; rfl, (Below.refl _ _).alloc (Nat.le_refl _) _⟩
 ·have hd : M.days a0 a1 = 0 := by unfold M.days; rw [if_neg hin]
  rw [hd]
  exact date_Days.zero a0 a1 w (by omega)

/-! ### date_May: function 31 -/
def date_May.f (a0_0 : Int) (a0_1 : Int) (a0_2 : Int) : Option (Bool) := if a0_2 ≥ 1 then ((date_Days.f a0_0 a0_1).bind fun t402 => (some (decide (a0_2 ≤ t402)))) else (some false)
def date_May.T1 : Bool × List (List Nat × List Nat) := (true, [([], []), ([0], [0]), ([1], [1]), ([2], [2]), ([3], [3]), ([4, 3], [3, 4]), ([3], [3]), ([6, 3], [3, 6]), ([3], [3]), ([8, 3], [3, 8]), ([7, 9, 3, 3], [3, 7, 9]), ([5, 10, 3], [3, 5, 10]), ([3, 11], [3, 11]), ([12, 10, 0, 1, 2, 3, 4, 5, 6, 7, 8, 9, 10, 11, 12], [12])])
def date_May.B1 : List Nat := [0, 1, 3, 7, 15, 31, 15, 79, 15, 271, 975, 2047, 4095, 8191]
theorem date_May.tab1 : rtab .any (opsOf Try.f31 1) = date_May.T1 := by kernel_rfl
theorem date_May.bits1 : waitsOk date_May.T1.2 date_May.B1 = true := by kernel_rfl
set_option maxHeartbeats 8000000 in
set_option maxRecDepth 100000 in
theorem date_May.calls (a0_0 : Int) (a0_1 : Int) (a0_2 : Int) (r : Bool) (w : World) (h : date_May.f a0_0 a0_1 a0_2 = some r) :
  Calls Try.prog 31 #[.agg #[.int .i64 a0_0, .int .i64 a0_1, .int .i64 a0_2]] w fun e w' => e = .returned (.bool r) ∧ Below w.heap.size w w' := by
 have hu23 := Try.underlying23
 have HB := ka (Below.refl w.heap.size w)
 have H : (if a0_2 ≥ 1 then ((date_Days.f a0_0 a0_1).bind fun t402 => (some (decide (a0_2 ≤ t402)))) else (some false)) = some r := h
 clear h
 by_cases c2 : a0_2 ≥ 1
 ·rw [if_pos c2] at H
  have c2b0 : decide (1 ≤ a0_2) = true := decide_eq_true c2
  clear c2
  replace H := Option.bind_eq_some_iff.mp H
  obtain ⟨t402, A30, H⟩ := H
  replace H : (some (decide (a0_2 ≤ t402))) = some r := H
  have A3 := ka A30
  clear A30
  obtain rfl := Option.some.inj H
  go_enter Try.func31, Try.ntmps31
  try go_wp2_with (first | ((with_reducible refine gate_dst (N := 1) rfl ?_); refine kx (N := 1) (cs := #[.int .i64 a0_0, .int .i64 a0_1, .int .i64 a0_2]) (t := 23) ?_; intro gb401 hg w4 hbox hb; have n0_ := ka (below_step (kw HB.out) hb); have n1_ := ka (hbox); have n2_ := ka ((by rw [hg]; exact (below_size (kw HB.out)) : w.heap.size ≤ gb401)); have n3_ := n2_; clear HB; have HB := n0_; have BK401 := n1_; have GW401 := n2_; have GE401 := n3_; clear n0_ n1_ n2_ n3_; clear hb hbox hg))
  replace BK401 := ka (blk_drew BK401.out)
  replace HB := ka (below_drew1 HB.out)
  refine start_ (n := 14) (S := fun w' => w'.cell? ⟨gb401, 0, none⟩ = some (.int .i64 a0_0) ∧ w'.cell? ⟨gb401, 1, none⟩ = some (.int .i64 a0_1) ∧ w'.cell? ⟨gb401, 2, none⟩ = some (.int .i64 a0_2)) (ds := []) #[false, false, false, false, false, false, false, false, false, false, false, false, false, false] (by kernel_rfl) rfl rfl ⟨(blk_cell BK401.out 0).trans rfl, (blk_cell BK401.out 1).trans rfl, (blk_cell BK401.out 2).trans rfl⟩ (fun hHeld => ?_); refine with_tabW date_May.tab1 date_May.bits1 (fun HT_ HW_ => ?_)
  generalize w4.drew = w5 at BK401 HB hHeld ⊢
  refine pure_ (i := 0) (N := some 3) (v := ?_) (a' := ?_) #[true, false, false, false, false, false, false, false, false, false, false, false, false, false] rfl rfl (any_of HT_.out (by kernel_rfl)) (fun _ _ _ h => h) (Or.inl ⟨by rfl, ?_⟩) ?_ ?_
  rotate_left
  ·intro w'
   go_simp
   with_reducible rfl
  rotate_left
  ·simp only [Act.put, List.setIfInBounds_toArray, List.set_cons_zero, List.set_cons_succ, i64_w, i32_w]
   rfl
  refine take_ (i := 1) (N := some 4) (v := ?_) (a' := ?_) #[true, true, false, false, false, false, false, false, false, false, false, false, false, false] rfl rfl (take_ofW HT_.out HW_.out (by kernel_rfl)) (fun _ _ _ h => h) (Or.inl ⟨by rfl, ?_⟩) hHeld ?_ ?_
  rotate_left
  ·rintro w' ⟨s0, s1, s2⟩
   go_simp
   with_reducible rfl
  rotate_left
  ·simp only [Act.put, List.setIfInBounds_toArray, List.set_cons_zero, List.set_cons_succ, i64_w, i32_w]
   rfl
  refine pure_ (i := 2) (N := some 5) (v := ?_) (a' := ?_) #[true, true, true, false, false, false, false, false, false, false, false, false, false, false] rfl rfl (any_of HT_.out (by kernel_rfl)) (fun _ _ _ h => h) (Or.inl ⟨by rfl, ?_⟩) ?_ ?_
  rotate_left
  ·intro w'
   go_simp
   with_reducible rfl
  rotate_left
  ·simp only [Act.put, List.setIfInBounds_toArray, List.set_cons_zero, List.set_cons_succ, i64_w, i32_w]
   rfl
  refine pure_ (i := 3) (N := some 6) (v := ?_) (a' := ?_) #[true, true, true, true, false, false, false, false, false, false, false, false, false, false] rfl rfl (any_of HT_.out (by kernel_rfl)) (fun _ _ _ h => h) (Or.inl ⟨by rfl, ?_⟩) ?_ ?_
  rotate_left
  ·intro w'
   go_simp
   with_reducible rfl
  rotate_left
  ·simp only [Act.put, List.setIfInBounds_toArray, List.set_cons_zero, List.set_cons_succ, i64_w, i32_w]
   rfl
  refine pure_ (i := 4) (N := some 7) (v := ?_) (a' := ?_) #[true, true, true, true, true, false, false, false, false, false, false, false, false, false] rfl rfl (any_of HT_.out (by kernel_rfl)) (fun _ _ _ h => h) (Or.inl ⟨by rfl, ?_⟩) ?_ ?_
  rotate_left
  ·intro w'
   go_simp
   with_reducible rfl
  rotate_left
  ·simp only [Act.put, List.setIfInBounds_toArray, List.set_cons_zero, List.set_cons_succ, i64_w, i32_w]
   rfl
  refine pure_ (i := 6) (N := some 9) (v := ?_) (a' := ?_) #[true, true, true, true, true, false, true, false, false, false, false, false, false, false] rfl rfl (any_of HT_.out (by kernel_rfl)) (fun _ _ _ h => h) (Or.inl ⟨by rfl, ?_⟩) ?_ ?_
  rotate_left
  ·intro w'
   go_simp
   with_reducible rfl
  rotate_left
  ·simp only [Act.put, List.setIfInBounds_toArray, List.set_cons_zero, List.set_cons_succ, i64_w, i32_w]
   rfl
  refine pure_ (i := 8) (N := some 11) (v := ?_) (a' := ?_) #[true, true, true, true, true, false, true, false, true, false, false, false, false, false] rfl rfl (any_of HT_.out (by kernel_rfl)) (fun _ _ _ h => h) (Or.inl ⟨by rfl, ?_⟩) ?_ ?_
  rotate_left
  ·intro w'
   go_simp
   with_reducible rfl
  rotate_left
  ·simp only [Act.put, List.setIfInBounds_toArray, List.set_cons_zero, List.set_cons_succ, i64_w, i32_w]
   rfl
  refine take_ (i := 5) (N := some 8) (v := ?_) (a' := ?_) #[true, true, true, true, true, true, true, false, true, false, false, false, false, false] rfl rfl (take_ofW HT_.out HW_.out (by kernel_rfl)) (fun _ _ _ h => h) (Or.inl ⟨by rfl, ?_⟩) hHeld ?_ ?_
  rotate_left
  ·rintro w' ⟨s0, s1, s2⟩
   go_simp
   with_reducible rfl
  rotate_left
  ·simp only [Act.put, List.setIfInBounds_toArray, List.set_cons_zero, List.set_cons_succ, i64_w, i32_w]
   rfl
  refine take_ (i := 7) (N := some 10) (v := ?_) (a' := ?_) #[true, true, true, true, true, true, true, true, true, false, false, false, false, false] rfl rfl (take_ofW HT_.out HW_.out (by kernel_rfl)) (fun _ _ _ h => h) (Or.inl ⟨by rfl, ?_⟩) hHeld ?_ ?_
  rotate_left
  ·rintro w' ⟨s0, s1, s2⟩
   go_simp
   with_reducible rfl
  rotate_left
  ·simp only [Act.put, List.setIfInBounds_toArray, List.set_cons_zero, List.set_cons_succ, i64_w, i32_w]
   rfl
  refine take_ (i := 9) (N := some 12) (v := ?_) (a' := ?_) #[true, true, true, true, true, true, true, true, true, true, false, false, false, false] rfl rfl (take_ofW HT_.out HW_.out (by kernel_rfl)) (fun _ _ _ h => h) (Or.inl ⟨by rfl, ?_⟩) hHeld ?_ ?_
  rotate_left
  ·rintro w' ⟨s0, s1, s2⟩
   go_simp
   with_reducible rfl
  rotate_left
  ·simp only [Act.put, List.setIfInBounds_toArray, List.set_cons_zero, List.set_cons_succ, i64_w, i32_w]
   rfl
  refine one_ (i := 10) (N := some 13) #[true, true, true, true, true, true, true, true, true, true, true, false, false, false] rfl rfl (one_of HT_.out (by kernel_rfl)) (by decide) (fun K hK => ?_)
  refine goes_ Try.func32 (by kernel_rfl) rfl #[.int .i64 a0_0, .int .i64 a0_1] (by rfl) rfl rfl (by (try simp only [List.map_toArray, List.map_cons, List.map_nil]); first | done | rfl | (simp only [List.length_drop, List.length_take]; rfl)) ?_
  with_reducible refine (date_Days.calls a0_0 a0_1 t402 _ A3.out).mono ?_
  rintro e w6 ⟨rfl, hb⟩
  refine ⟨_, rfl, ?_⟩
  replace BK401 := kbb BK401 hb
  replace HB := ka (below_step (kw HB.out) hb)
  (try clear hb)
  (try clear hb2)
  (try clear hk)
  (try clear hi)
  refine hK.out _ _ ⟨(blk_cell BK401.out 0).trans rfl, (blk_cell BK401.out 1).trans rfl, (blk_cell BK401.out 2).trans rfl⟩ (fun hHeld => ?_)
  clear hK K
  refine norm_ (a' := ?_) ?_ ?_
  rotate_left
  ·show Act.put _ (some 13) _ = _
   simp only [Act.put, List.setIfInBounds_toArray, List.set_cons_zero, List.set_cons_succ, i64_w, i32_w]
   rfl
  refine pure_ (i := 11) (N := some 14) (v := ?_) (a' := ?_) #[true, true, true, true, true, true, true, true, true, true, true, true, false, false] rfl rfl (any_of HT_.out (by kernel_rfl)) (fun _ _ _ h => h) (Or.inl ⟨by rfl, ?_⟩) ?_ ?_
  rotate_left
  ·intro w'
   go_simp
   with_reducible rfl
  rotate_left
  ·simp only [Act.put, List.setIfInBounds_toArray, List.set_cons_zero, List.set_cons_succ, i64_w, i32_w]
   rfl
  refine pure_ (i := 12) (N := some 15) (v := ?_) (a' := ?_) #[true, true, true, true, true, true, true, true, true, true, true, true, true, false] rfl rfl (any_of HT_.out (by kernel_rfl)) (fun _ _ _ h => h) (Or.inl ⟨by rfl, ?_⟩) ?_ ?_
  rotate_left
  ·intro w'
   go_simp
   with_reducible rfl
  rotate_left
  ·simp only [Act.put, List.setIfInBounds_toArray, List.set_cons_zero, List.set_cons_succ, i64_w, i32_w]
   rfl
  refine pure_ (i := 13) (N := some 2) (v := ?_) (a' := ?_) #[true, true, true, true, true, true, true, true, true, true, true, true, true, true] rfl rfl (any_of HT_.out (by kernel_rfl)) (fun _ _ _ h => h) (Or.inl ⟨by rfl, ?_⟩) ?_ ?_
  rotate_left
  ·intro w'
   go_simp
   with_reducible rfl
  rotate_left
  ·simp only [Act.put, List.setIfInBounds_toArray, List.set_cons_zero, List.set_cons_succ, i64_w, i32_w]
   rfl
  refine done_ (done_of HT_.out (by kernel_rfl)) ?_
  try go_wp2
  go_ret
  exact ⟨by first | rfl | (simp [errW_none, errW_some] <;> rfl) | (simp [*, errW_none, errW_some] <;> rfl), by repeat (first | (with_reducible first | exact HB.out | apply kc1 | apply kc2 | apply kc3 | refine kc4 ?_ GE401.out) | exact HB.out)⟩
 ·rw [if_neg c2] at H
  have c2b0 : decide (1 ≤ a0_2) = false := decide_eq_false c2
  clear c2
  obtain rfl := Option.some.inj H
  go_enter Try.func31, Try.ntmps31
  try go_wp2_with (first | ((with_reducible refine gate_dst (N := 1) rfl ?_); refine kx (N := 1) (cs := #[.int .i64 a0_0, .int .i64 a0_1, .int .i64 a0_2]) (t := 23) ?_; intro gb401 hg w7 hbox hb; have n0_ := ka (below_step (kw HB.out) hb); have n1_ := ka (hbox); have n2_ := ka ((by rw [hg]; exact (below_size (kw HB.out)) : w.heap.size ≤ gb401)); have n3_ := n2_; clear HB; have HB := n0_; have BK401 := n1_; have GW401 := n2_; have GE401 := n3_; clear n0_ n1_ n2_ n3_; clear hb hbox hg))
  replace BK401 := ka (blk_drew BK401.out)
  replace HB := ka (below_drew1 HB.out)
  refine start_ (n := 14) (S := fun w' => w'.cell? ⟨gb401, 0, none⟩ = some (.int .i64 a0_0) ∧ w'.cell? ⟨gb401, 1, none⟩ = some (.int .i64 a0_1) ∧ w'.cell? ⟨gb401, 2, none⟩ = some (.int .i64 a0_2)) (ds := []) #[false, false, false, false, false, false, false, false, false, false, false, false, false, false] (by kernel_rfl) rfl rfl ⟨(blk_cell BK401.out 0).trans rfl, (blk_cell BK401.out 1).trans rfl, (blk_cell BK401.out 2).trans rfl⟩ (fun hHeld => ?_); refine with_tabW date_May.tab1 date_May.bits1 (fun HT_ HW_ => ?_)
  generalize w7.drew = w8 at BK401 HB hHeld ⊢
  refine pure_ (i := 0) (N := some 3) (v := ?_) (a' := ?_) #[true, false, false, false, false, false, false, false, false, false, false, false, false, false] rfl rfl (any_of HT_.out (by kernel_rfl)) (fun _ _ _ h => h) (Or.inl ⟨by rfl, ?_⟩) ?_ ?_
  rotate_left
  ·intro w'
   go_simp
   with_reducible rfl
  rotate_left
  ·simp only [Act.put, List.setIfInBounds_toArray, List.set_cons_zero, List.set_cons_succ, i64_w, i32_w]
   rfl
  refine take_ (i := 1) (N := some 4) (v := ?_) (a' := ?_) #[true, true, false, false, false, false, false, false, false, false, false, false, false, false] rfl rfl (take_ofW HT_.out HW_.out (by kernel_rfl)) (fun _ _ _ h => h) (Or.inl ⟨by rfl, ?_⟩) hHeld ?_ ?_
  rotate_left
  ·rintro w' ⟨s0, s1, s2⟩
   go_simp
   with_reducible rfl
  rotate_left
  ·simp only [Act.put, List.setIfInBounds_toArray, List.set_cons_zero, List.set_cons_succ, i64_w, i32_w]
   rfl
  refine pure_ (i := 2) (N := some 5) (v := ?_) (a' := ?_) #[true, true, true, false, false, false, false, false, false, false, false, false, false, false] rfl rfl (any_of HT_.out (by kernel_rfl)) (fun _ _ _ h => h) (Or.inl ⟨by rfl, ?_⟩) ?_ ?_
  rotate_left
  ·intro w'
   go_simp
   with_reducible rfl
  rotate_left
  ·simp only [Act.put, List.setIfInBounds_toArray, List.set_cons_zero, List.set_cons_succ, i64_w, i32_w]
   rfl
  refine pure_ (i := 3) (N := some 6) (v := ?_) (a' := ?_) #[true, true, true, true, false, false, false, false, false, false, false, false, false, false] rfl rfl (any_of HT_.out (by kernel_rfl)) (fun _ _ _ h => h) (Or.inl ⟨by rfl, ?_⟩) ?_ ?_
  rotate_left
  ·intro w'
   go_simp
   with_reducible rfl
  rotate_left
  ·simp only [Act.put, List.setIfInBounds_toArray, List.set_cons_zero, List.set_cons_succ, i64_w, i32_w]
   rfl
  refine pure_ (i := 4) (N := some 7) (v := undef) (a' := ?_) #[true, true, true, true, true, false, false, false, false, false, false, false, false, false] rfl rfl (any_of HT_.out (by kernel_rfl)) (fun _ _ _ h => h) (Or.inr ⟨by rfl, rfl⟩) ?_ ?_
  rotate_left
  ·simp only [Act.put, List.setIfInBounds_toArray, List.set_cons_zero, List.set_cons_succ, i64_w, i32_w]
   rfl
  refine pure_ (i := 5) (N := some 8) (v := undef) (a' := ?_) #[true, true, true, true, true, true, false, false, false, false, false, false, false, false] rfl rfl (any_of HT_.out (by kernel_rfl)) (fun _ _ _ h => h) (Or.inr ⟨by rfl, rfl⟩) ?_ ?_
  rotate_left
  ·simp only [Act.put, List.setIfInBounds_toArray, List.set_cons_zero, List.set_cons_succ, i64_w, i32_w]
   rfl
  refine pure_ (i := 6) (N := some 9) (v := undef) (a' := ?_) #[true, true, true, true, true, true, true, false, false, false, false, false, false, false] rfl rfl (any_of HT_.out (by kernel_rfl)) (fun _ _ _ h => h) (Or.inr ⟨by rfl, rfl⟩) ?_ ?_
  rotate_left
  ·simp only [Act.put, List.setIfInBounds_toArray, List.set_cons_zero, List.set_cons_succ, i64_w, i32_w]
   rfl
  refine pure_ (i := 7) (N := some 10) (v := undef) (a' := ?_) #[true, true, true, true, true, true, true, true, false, false, false, false, false, false] rfl rfl (any_of HT_.out (by kernel_rfl)) (fun _ _ _ h => h) (Or.inr ⟨by rfl, rfl⟩) ?_ ?_
  rotate_left
  ·simp only [Act.put, List.setIfInBounds_toArray, List.set_cons_zero, List.set_cons_succ, i64_w, i32_w]
   rfl
  refine pure_ (i := 8) (N := some 11) (v := undef) (a' := ?_) #[true, true, true, true, true, true, true, true, true, false, false, false, false, false] rfl rfl (any_of HT_.out (by kernel_rfl)) (fun _ _ _ h => h) (Or.inr ⟨by rfl, rfl⟩) ?_ ?_
  rotate_left
  ·simp only [Act.put, List.setIfInBounds_toArray, List.set_cons_zero, List.set_cons_succ, i64_w, i32_w]
   rfl
  refine pure_ (i := 9) (N := some 12) (v := undef) (a' := ?_) #[true, true, true, true, true, true, true, true, true, true, false, false, false, false] rfl rfl (any_of HT_.out (by kernel_rfl)) (fun _ _ _ h => h) (Or.inr ⟨by rfl, rfl⟩) ?_ ?_
  rotate_left
  ·simp only [Act.put, List.setIfInBounds_toArray, List.set_cons_zero, List.set_cons_succ, i64_w, i32_w]
   rfl
  refine pure_ (i := 10) (N := some 13) (v := undef) (a' := ?_) #[true, true, true, true, true, true, true, true, true, true, true, false, false, false] rfl rfl (any_of HT_.out (by kernel_rfl)) (fun _ _ _ h => h) (Or.inr ⟨by rfl, rfl⟩) ?_ ?_
  rotate_left
  ·simp only [Act.put, List.setIfInBounds_toArray, List.set_cons_zero, List.set_cons_succ, i64_w, i32_w]
   rfl
  refine pure_ (i := 11) (N := some 14) (v := undef) (a' := ?_) #[true, true, true, true, true, true, true, true, true, true, true, true, false, false] rfl rfl (any_of HT_.out (by kernel_rfl)) (fun _ _ _ h => h) (Or.inr ⟨by rfl, rfl⟩) ?_ ?_
  rotate_left
  ·simp only [Act.put, List.setIfInBounds_toArray, List.set_cons_zero, List.set_cons_succ, i64_w, i32_w]
   rfl
  refine pure_ (i := 12) (N := some 15) (v := ?_) (a' := ?_) #[true, true, true, true, true, true, true, true, true, true, true, true, true, false] rfl rfl (any_of HT_.out (by kernel_rfl)) (fun _ _ _ h => h) (Or.inl ⟨by rfl, ?_⟩) ?_ ?_
  rotate_left
  ·intro w'
   go_simp
   with_reducible rfl
  rotate_left
  ·simp only [Act.put, List.setIfInBounds_toArray, List.set_cons_zero, List.set_cons_succ, i64_w, i32_w]
   rfl
  refine pure_ (i := 13) (N := some 2) (v := ?_) (a' := ?_) #[true, true, true, true, true, true, true, true, true, true, true, true, true, true] rfl rfl (any_of HT_.out (by kernel_rfl)) (fun _ _ _ h => h) (Or.inl ⟨by rfl, ?_⟩) ?_ ?_
  rotate_left
  ·intro w'
   go_simp
   with_reducible rfl
  rotate_left
  ·simp only [Act.put, List.setIfInBounds_toArray, List.set_cons_zero, List.set_cons_succ, i64_w, i32_w]
   rfl
  refine done_ (done_of HT_.out (by kernel_rfl)) ?_
  try go_wp2
  go_ret
  exact ⟨by first | rfl | (simp [errW_none, errW_some] <;> rfl) | (simp [*, errW_none, errW_some] <;> rfl), by repeat (first | (with_reducible first | exact HB.out | apply kc1 | apply kc2 | apply kc3 | refine kc4 ?_ GE401.out) | exact HB.out)⟩

/-! ### date_May_s: function 31, told plainly -/
theorem date_May.tells (y m d : Int) : date_May.f y m d = some (decide (M.date y m d)) := by
 unfold date_May.f date_Days.f M.date
 by_cases h : d ≥ 1
 ·rw [if_pos h, Option.bind_some]
  simp [h]
 ·rw [if_neg h]
  simp [show ¬ 1 ≤ d by omega]
def date_May_s.f (y m d : Int) : Option Bool := some (decide (M.date y m d))
theorem date_May_s.calls (a0_0 : Int) (a0_1 : Int) (a0_2 : Int) (r : Bool) (w : World) (h : date_May_s.f a0_0 a0_1 a0_2 = some r) :
  Calls Try.prog 31 #[.agg #[.int .i64 a0_0, .int .i64 a0_1, .int .i64 a0_2]] w fun e w' => e = .returned (.bool r) ∧ Below w.heap.size w w' := by
 exact date_May.calls a0_0 a0_1 a0_2 r w ((date_May.tells a0_0 a0_1 a0_2).trans h)

/-! ### date_civil: function 33 -/
def date_civil.f (a0 : Int) (a1 : Int) (a2 : Int) : Option (Int) := if a1 ≤ 2 then (some (wrap64 ((wrap64 ((wrap64 ((wrap64 ((wrap64 ((wrap64 ((wrap64 ((wrap64 ((wrap64 (Int.tdiv (wrap64 (a0 - 1)) 400)) * 146097)) + (wrap64 ((Int.tmod (wrap64 (a0 - 1)) 400) * 365)))) + (wrap64 (Int.tdiv (Int.tmod (wrap64 (a0 - 1)) 400) 4)))) - (wrap64 (Int.tdiv (Int.tmod (wrap64 (a0 - 1)) 400) 100)))) + (wrap64 (Int.tdiv (wrap64 ((wrap64 (153 * (wrap64 ((wrap64 (a1 + 12)) - 3)))) + 2)) 5)))) + a2)) - 1)) - 719468))) else (some (wrap64 ((wrap64 ((wrap64 ((wrap64 ((wrap64 ((wrap64 ((wrap64 ((wrap64 ((wrap64 (Int.tdiv a0 400)) * 146097)) + (wrap64 ((Int.tmod a0 400) * 365)))) + (wrap64 (Int.tdiv (Int.tmod a0 400) 4)))) - (wrap64 (Int.tdiv (Int.tmod a0 400) 100)))) + (wrap64 (Int.tdiv (wrap64 ((wrap64 (153 * (wrap64 (a1 - 3)))) + 2)) 5)))) + a2)) - 1)) - 719468)))
set_option maxHeartbeats 8000000 in
set_option maxRecDepth 100000 in
theorem date_civil.calls (a0 : Int) (a1 : Int) (a2 : Int) (r : Int) (w : World) (h : date_civil.f a0 a1 a2 = some r) :
  Calls Try.prog 33 #[.int .i64 a0, .int .i64 a1, .int .i64 a2] w fun e w' => e = .returned (.int .i64 r) ∧ Drawn0 w w' := by
 have H : (if a1 ≤ 2 then (some (wrap64 ((wrap64 ((wrap64 ((wrap64 ((wrap64 ((wrap64 ((wrap64 ((wrap64 ((wrap64 (Int.tdiv (wrap64 (a0 - 1)) 400)) * 146097)) + (wrap64 ((Int.tmod (wrap64 (a0 - 1)) 400) * 365)))) + (wrap64 (Int.tdiv (Int.tmod (wrap64 (a0 - 1)) 400) 4)))) - (wrap64 (Int.tdiv (Int.tmod (wrap64 (a0 - 1)) 400) 100)))) + (wrap64 (Int.tdiv (wrap64 ((wrap64 (153 * (wrap64 ((wrap64 (a1 + 12)) - 3)))) + 2)) 5)))) + a2)) - 1)) - 719468))) else (some (wrap64 ((wrap64 ((wrap64 ((wrap64 ((wrap64 ((wrap64 ((wrap64 ((wrap64 ((wrap64 (Int.tdiv a0 400)) * 146097)) + (wrap64 ((Int.tmod a0 400) * 365)))) + (wrap64 (Int.tdiv (Int.tmod a0 400) 4)))) - (wrap64 (Int.tdiv (Int.tmod a0 400) 100)))) + (wrap64 (Int.tdiv (wrap64 ((wrap64 (153 * (wrap64 (a1 - 3)))) + 2)) 5)))) + a2)) - 1)) - 719468)))) = some r := h
 clear h
 by_cases c4 : a1 ≤ 2
 ·rw [if_pos c4] at H
  have c4b0 : decide (a1 ≤ 2) = true := decide_eq_true c4
  clear c4
  obtain rfl := Option.some.inj H
  go_enter Try.func33, Try.ntmps33
  go_wp2
  go_ret
  exact ⟨by first | rfl | (simp; done) | (simp [*]; done), by repeat (first | exact Drawn0.refl _ | apply Drawn0.step)⟩
 ·rw [if_neg c4] at H
  have c4b0 : decide (a1 ≤ 2) = false := decide_eq_false c4
  clear c4
  obtain rfl := Option.some.inj H
  go_enter Try.func33, Try.ntmps33
  go_wp2
  go_ret
  exact ⟨by first | rfl | (simp; done) | (simp [*]; done), by repeat (first | exact Drawn0.refl _ | apply Drawn0.step)⟩

/-! ### date_civil_s: function 33, told plainly -/
theorem date_civil.tells (y m d : Int) (h : 1900 ≤ y ∧ y ≤ 2199 ∧ 1 ≤ m ∧ m ≤ 12 ∧ 1 ≤ d ∧ d ≤ 31) : date_civil.f y m d = some (M.civ y m d) := by
 unfold date_civil.f M.civ
 by_cases h2 : m ≤ 2
 ·rw [if_pos h2, if_pos h2]
  rw [M.w64_id (n := y - 1) (by omega) (by omega), M.tdivu (a := y - 1) (by omega), M.tmodu (a := y - 1) (by omega)]
  rw [M.w64_id (n := (y - 1) / 400) (by omega) (by omega), M.tdivu (a := (y - 1) % 400) (by omega), M.tdivu (a := (y - 1) % 400) (by omega)]
  rw [M.w64_id (n := m + 12) (by omega) (by omega), M.w64_id (n := m + 12 - 3) (by omega) (by omega), M.w64_id (n := 153 * (m + 12 - 3)) (by omega) (by omega), M.w64_id (n := 153 * (m + 12 - 3) + 2) (by omega) (by omega), M.tdivu (a := 153 * (m + 12 - 3) + 2) (by omega)]
  simp only [wrap64]
  refine congrArg some ?_
  omega
 ·rw [if_neg h2, if_neg h2]
  rw [M.tdivu (a := y) (by omega), M.tmodu (a := y) (by omega)]
  rw [M.w64_id (n := y / 400) (by omega) (by omega), M.tdivu (a := y % 400) (by omega), M.tdivu (a := y % 400) (by omega)]
  rw [M.w64_id (n := m - 3) (by omega) (by omega), M.w64_id (n := 153 * (m - 3)) (by omega) (by omega), M.w64_id (n := 153 * (m - 3) + 2) (by omega) (by omega), M.tdivu (a := 153 * (m - 3) + 2) (by omega)]
  simp only [wrap64]
  refine congrArg some ?_
  omega
def date_civil_s.f (y m d : Int) : Option Int := if 1900 ≤ y ∧ y ≤ 2199 ∧ 1 ≤ m ∧ m ≤ 12 ∧ 1 ≤ d ∧ d ≤ 31 then some (M.civ y m d) else none
theorem date_civil_s.calls (a0 : Int) (a1 : Int) (a2 : Int) (r : Int) (w : World) (h : date_civil_s.f a0 a1 a2 = some r) :
  Calls Try.prog 33 #[.int .i64 a0, .int .i64 a1, .int .i64 a2] w fun e w' => e = .returned (.int .i64 r) ∧ Drawn0 w w' := by
 unfold date_civil_s.f at h
 split at h
 ·rename_i hr
  exact date_civil.calls a0 a1 a2 r w ((date_civil.tells a0 a1 a2 hr).trans h)
 ·cases h

/-! ### date_Number: function 19 -/
def date_Number.f (a0_0 : Int) (a0_1 : Int) (a0_2 : Int) : Option (Int × Option Int) := (date_May_s.f a0_0 a0_1 a0_2).bind fun t404 => (if t404 = true then ((date_civil_s.f a0_0 a0_1 a0_2).bind fun t405 => (some (t405, none))) else (some (0, some 2)))
set_option maxHeartbeats 8000000 in
set_option maxRecDepth 100000 in
theorem date_Number.calls (a0_0 : Int) (a0_1 : Int) (a0_2 : Int) (r1 : Int) (r2 : Option Int) (w : World) (h : date_Number.f a0_0 a0_1 a0_2 = some (r1, r2)) :
  Calls Try.prog 19 #[.agg #[.int .i64 a0_0, .int .i64 a0_1, .int .i64 a0_2]] w fun e w' => e = .returned (.tuple #[.int .i64 r1, errW r2]) ∧ Below w.heap.size w w' := by
 have hu23 := Try.underlying23
 have hu26 := Try.underlying26
 have hu30 := Try.underlying30
 have HB := ka (Below.refl w.heap.size w)
 have H : ((date_May_s.f a0_0 a0_1 a0_2).bind fun t404 => (if t404 = true then ((date_civil_s.f a0_0 a0_1 a0_2).bind fun t405 => (some (t405, none))) else (some (0, some 2)))) = some (r1, r2) := h
 clear h
 replace H := Option.bind_eq_some_iff.mp H
 obtain ⟨t404, A20, H⟩ := H
 replace H : (if t404 = true then ((date_civil_s.f a0_0 a0_1 a0_2).bind fun t405 => (some (t405, none))) else (some (0, some 2))) = some (r1, r2) := H
 have A2 := ka A20
 clear A20
 by_cases c3 : t404 = true
 ·subst c3
  have H1 : ((date_civil_s.f a0_0 a0_1 a0_2).bind fun t405 => (some (t405, none))) = some (r1, r2) := by rw [if_pos rfl] at H; exact H
  clear H
  have H := H1
  clear H1
  replace H := Option.bind_eq_some_iff.mp H
  obtain ⟨t405, A40, H⟩ := H
  replace H : (some (t405, none)) = some (r1, r2) := H
  have A4 := ka A40
  clear A40
  simp only [Option.some.injEq, Prod.mk.injEq] at H
  obtain ⟨rfl, rfl⟩ := H
  go_enter Try.func19, Try.ntmps19
  go_wp2_with (first | ((with_reducible refine gate_dst (N := 1) rfl ?_); refine kx (N := 1) (cs := #[.int .i64 a0_0, .int .i64 a0_1, .int .i64 a0_2]) (t := 23) ?_; intro gb403 hg w5 hbox hb; have n0_ := ka (below_step (kw HB.out) hb); have n1_ := ka (hbox); have n2_ := ka ((by rw [hg]; exact (below_size (kw HB.out)) : w.heap.size ≤ gb403)); have n3_ := n2_; clear HB; have HB := n0_; have BK403 := n1_; have GW403 := n2_; have GE403 := n3_; clear n0_ n1_ n2_ n3_; clear hb hbox hg; have hcz6 := blkAll3 BK403.out) | ((with_reducible refine gate_callee (f := 31) rfl ?_); refine kg (some 5) rfl rfl Try.func31 (by kernel_rfl) rfl #[.agg #[.int .i64 a0_0, .int .i64 a0_1, .int .i64 a0_2]] rfl ?_; (with_reducible refine (date_May_s.calls a0_0 a0_1 a0_2 true _ A2.out).mono ?_); rintro e w7 ⟨rfl, hb⟩; refine ⟨_, rfl, ?_⟩; replace BK403 := kbb BK403 hb; replace HB := ka (below_step (kw HB.out) hb); (try clear hb); (try clear hb2); (try clear hk); (try clear hi); have hcz8 := blkAll3 BK403.out) | ((with_reducible refine gate_callee (f := 33) rfl ?_); refine kg (some 14) rfl rfl Try.func33 (by kernel_rfl) rfl #[.int .i64 a0_0, .int .i64 a0_1, .int .i64 a0_2] rfl ?_; (with_reducible refine (date_civil_s.calls a0_0 a0_1 a0_2 t405 _ A4.out).mono ?_); rintro e w' ⟨rfl, ⟨nd, rfl⟩⟩; refine ⟨_, rfl, ?_⟩))
  go_ret2
  exact ⟨by first | rfl | (simp [errW_none, errW_some] <;> rfl) | (simp [*, errW_none, errW_some] <;> rfl), by repeat (first | (with_reducible first | exact HB.out | apply kc1 | apply kc2 | apply kc3 | refine kc4 ?_ GE403.out) | exact HB.out)⟩
 ·replace c3 := Bool.eq_false_iff.mpr c3
  subst c3
  have H1 : (some (0, some 2)) = some (r1, r2) := by rw [if_neg (show ¬ (false = true) by decide)] at H; exact H
  clear H
  have H := H1
  clear H1
  simp only [Option.some.injEq, Prod.mk.injEq] at H
  obtain ⟨rfl, rfl⟩ := H
  go_enter Try.func19, Try.ntmps19
  go_wp2_with (first | ((with_reducible refine gate_dst (N := 1) rfl ?_); refine kx (N := 1) (cs := #[.int .i64 a0_0, .int .i64 a0_1, .int .i64 a0_2]) (t := 23) ?_; intro gb403 hg w9 hbox hb; have n0_ := ka (below_step (kw HB.out) hb); have n1_ := ka (hbox); have n2_ := ka ((by rw [hg]; exact (below_size (kw HB.out)) : w.heap.size ≤ gb403)); have n3_ := n2_; clear HB; have HB := n0_; have BK403 := n1_; have GW403 := n2_; have GE403 := n3_; clear n0_ n1_ n2_ n3_; clear hb hbox hg; have hcz10 := blkAll3 BK403.out) | ((with_reducible refine gate_callee (f := 31) rfl ?_); refine kg (some 5) rfl rfl Try.func31 (by kernel_rfl) rfl #[.agg #[.int .i64 a0_0, .int .i64 a0_1, .int .i64 a0_2]] rfl ?_; (with_reducible refine (date_May_s.calls a0_0 a0_1 a0_2 false _ A2.out).mono ?_); rintro e w11 ⟨rfl, hb⟩; refine ⟨_, rfl, ?_⟩; replace BK403 := kbb BK403 hb; replace HB := ka (below_step (kw HB.out) hb); (try clear hb); (try clear hb2); (try clear hk); (try clear hi)))
  go_ret2
  exact ⟨by first | rfl | (simp [errW_none, errW_some] <;> rfl) | (simp [*, errW_none, errW_some] <;> rfl), by repeat (first | (with_reducible first | exact HB.out | apply kc1 | apply kc2 | apply kc3 | refine kc4 ?_ GE403.out) | exact HB.out)⟩

/-! ### date_Number_s: function 19, told plainly -/
theorem date_Number.tells (y m d : Int) : date_Number.f y m d = some (if M.date y m d then (M.civ y m d, none) else (0, some 2)) := by
 unfold date_Number.f date_May_s.f
 rw [Option.bind_some]
 by_cases h : M.date y m d
 ·have a := M.date_in h
  rw [if_pos (decide_eq_true h), if_pos h]
  unfold date_civil_s.f
  rw [if_pos (by omega)]
  rfl
 ·rw [if_neg (by simpa using h), if_neg h]
def date_Number_s.f (y m d : Int) : Option (Int × Option Int) := some (if M.date y m d then (M.civ y m d, none) else (0, some 2))
theorem date_Number_s.calls (a0_0 : Int) (a0_1 : Int) (a0_2 : Int) (r1 : Int) (r2 : Option Int) (w : World) (h : date_Number_s.f a0_0 a0_1 a0_2 = some (r1, r2)) :
  Calls Try.prog 19 #[.agg #[.int .i64 a0_0, .int .i64 a0_1, .int .i64 a0_2]] w fun e w' => e = .returned (.tuple #[.int .i64 r1, errW r2]) ∧ Below w.heap.size w w' := by
 exact date_Number.calls a0_0 a0_1 a0_2 r1 r2 w ((date_Number.tells a0_0 a0_1 a0_2).trans h)
theorem date_Number_s.yes {y m d : Int} (h : M.date y m d) : date_Number_s.f y m d = some (M.civ y m d, none) := by unfold date_Number_s.f; rw [if_pos h]
theorem date_Number_s.no {y m d : Int} (h : ¬ M.date y m d) : date_Number_s.f y m d = some (0, some 2) := by unfold date_Number_s.f; rw [if_neg h]

/-! ### count_thirty: function 20 -/
def count_thirty.f (a0_0 : Int) (a0_1 : Int) (a0_2 : Int) : Option (Int) := some (wrap64 ((wrap64 ((wrap64 (a0_0 * 360)) + (wrap64 (a0_1 * 30)))) + (mn a0_2 30)))
set_option maxHeartbeats 8000000 in
set_option maxRecDepth 100000 in
theorem count_thirty.calls (a0_0 : Int) (a0_1 : Int) (a0_2 : Int) (r : Int) (w : World) (h : count_thirty.f a0_0 a0_1 a0_2 = some r) :
  Calls Try.prog 20 #[.agg #[.int .i64 a0_0, .int .i64 a0_1, .int .i64 a0_2]] w fun e w' => e = .returned (.int .i64 r) ∧ Below w.heap.size w w' := by
 have hu23 := Try.underlying23
 have HB := ka (Below.refl w.heap.size w)
 have H : (some (wrap64 ((wrap64 ((wrap64 (a0_0 * 360)) + (wrap64 (a0_1 * 30)))) + (mn a0_2 30)))) = some r := h
 clear h
 obtain ⟨ji2, hji2⟩ : ∃ j_ : Int, (mn a0_2 30) = j_ := ⟨_, rfl⟩
 replace H : (some (wrap64 ((wrap64 ((wrap64 (a0_0 * 360)) + (wrap64 (a0_1 * 30)))) + (ji2)))) = some r := by first | (rw [hji2] at H; exact H) | (simp only [hji2] at H ⊢; exact H)
 (try (have hji2h : ji2 ≤ 30 := by (rw [← hji2]; unfold mn; (repeat' split) <;> omega)))
 (try (have hji2g : ji2 ≤ 64 := by omega))
 have hji2_ : (if 30 < a0_2 then 30 else a0_2) = ji2 := hji2
 obtain rfl := Option.some.inj H
 go_enter Try.func20, Try.ntmps20
 go_wp2_with (first | ((with_reducible refine gate_dst (N := 1) rfl ?_); refine kx (N := 1) (cs := #[.int .i64 a0_0, .int .i64 a0_1, .int .i64 a0_2]) (t := 23) ?_; intro gb406 hg w3 hbox hb; have n0_ := ka (below_step (kw HB.out) hb); have n1_ := ka (hbox); have n2_ := ka ((by rw [hg]; exact (below_size (kw HB.out)) : w.heap.size ≤ gb406)); have n3_ := n2_; clear HB; have HB := n0_; have BK406 := n1_; have GW406 := n2_; have GE406 := n3_; clear n0_ n1_ n2_ n3_; clear hb hbox hg; have hcz4 := blkAll3 BK406.out))
 go_ret
 exact ⟨by first | rfl | (simp [errW_none, errW_some] <;> rfl) | (simp only [← hji2]; first | rfl | (simp [errW_none, errW_some] <;> rfl)) | (simp [*, errW_none, errW_some] <;> rfl), by repeat (first | (with_reducible first | exact HB.out | apply kc1 | apply kc2 | apply kc3 | refine kc4 ?_ GE406.out) | exact HB.out)⟩

/-! ### count_Between: function 8 -/
def count_Between.f (a0_0 : Int) (a0_1 : Int) (a0_2 : Int) (a1_0 : Int) (a1_1 : Int) (a1_2 : Int) (a2 : Bool) : Option (Int × Option Int) := (date_Number_s.f a0_0 a0_1 a0_2).bind fun bt409 => (if bt409.2.isNone = true then ((date_Number_s.f a1_0 a1_1 a1_2).bind fun bt412 => (if bt412.2.isNone = true then (if a2 = true then ((count_thirty.f a1_0 a1_1 a1_2).bind fun t415 => ((count_thirty.f a0_0 a0_1 a0_2).bind fun t416 => (some (wrap64 (t415 - t416), none)))) else (some (wrap64 (bt412.1 - bt409.1), none))) else (some (0, some (bt412.2.getD 0))))) else (some (0, some (bt409.2.getD 0))))
set_option maxHeartbeats 8000000 in
set_option maxRecDepth 100000 in
theorem count_Between.calls (a0_0 : Int) (a0_1 : Int) (a0_2 : Int) (a1_0 : Int) (a1_1 : Int) (a1_2 : Int) (a2 : Bool) (r1 : Int) (r2 : Option Int) (w : World) (h : count_Between.f a0_0 a0_1 a0_2 a1_0 a1_1 a1_2 a2 = some (r1, r2)) :
  Calls Try.prog 8 #[.agg #[.int .i64 a0_0, .int .i64 a0_1, .int .i64 a0_2], .agg #[.int .i64 a1_0, .int .i64 a1_1, .int .i64 a1_2], .bool a2] w fun e w' => e = .returned (.tuple #[.int .i64 r1, errW r2]) ∧ Below w.heap.size w w' := by
 have hu23 := Try.underlying23
 have hu26 := Try.underlying26
 have hu30 := Try.underlying30
 have HB := ka (Below.refl w.heap.size w)
 have H : ((date_Number_s.f a0_0 a0_1 a0_2).bind fun bt409 => (if bt409.2.isNone = true then ((date_Number_s.f a1_0 a1_1 a1_2).bind fun bt412 => (if bt412.2.isNone = true then (if a2 = true then ((count_thirty.f a1_0 a1_1 a1_2).bind fun t415 => ((count_thirty.f a0_0 a0_1 a0_2).bind fun t416 => (some (wrap64 (t415 - t416), none)))) else (some (wrap64 (bt412.1 - bt409.1), none))) else (some (0, some (bt412.2.getD 0))))) else (some (0, some (bt409.2.getD 0))))) = some (r1, r2) := h
 clear h
 replace H := Option.bind_eq_some_iff.mp H
 obtain ⟨⟨t409, t410⟩, A40, H⟩ := H
 replace H : (if t410.isNone = true then ((date_Number_s.f a1_0 a1_1 a1_2).bind fun bt412 => (if bt412.2.isNone = true then (if a2 = true then ((count_thirty.f a1_0 a1_1 a1_2).bind fun t415 => ((count_thirty.f a0_0 a0_1 a0_2).bind fun t416 => (some (wrap64 (t415 - t416), none)))) else (some (wrap64 (bt412.1 - t409), none))) else (some (0, some (bt412.2.getD 0))))) else (some (0, some (t410.getD 0)))) = some (r1, r2) := H
 have A4 := ka A40
 clear A40
 rcases t410 with _ | q411
 ·have H1 : ((date_Number_s.f a1_0 a1_1 a1_2).bind fun bt412 => (if bt412.2.isNone = true then (if a2 = true then ((count_thirty.f a1_0 a1_1 a1_2).bind fun t415 => ((count_thirty.f a0_0 a0_1 a0_2).bind fun t416 => (some (wrap64 (t415 - t416), none)))) else (some (wrap64 (bt412.1 - t409), none))) else (some (0, some (bt412.2.getD 0))))) = some (r1, r2) := by rw [if_pos (show (none : Option Int).isNone = true by rfl)] at H; exact H
  clear H
  have H := H1
  clear H1
  try simp only [errW_none, errW_some]
  replace H := Option.bind_eq_some_iff.mp H
  obtain ⟨⟨t412, t413⟩, A50, H⟩ := H
  replace H : (if t413.isNone = true then (if a2 = true then ((count_thirty.f a1_0 a1_1 a1_2).bind fun t415 => ((count_thirty.f a0_0 a0_1 a0_2).bind fun t416 => (some (wrap64 (t415 - t416), none)))) else (some (wrap64 (t412 - t409), none))) else (some (0, some (t413.getD 0)))) = some (r1, r2) := H
  have A5 := ka A50
  clear A50
  rcases t413 with _ | q414
  ·have H1 : (if a2 = true then ((count_thirty.f a1_0 a1_1 a1_2).bind fun t415 => ((count_thirty.f a0_0 a0_1 a0_2).bind fun t416 => (some (wrap64 (t415 - t416), none)))) else (some (wrap64 (t412 - t409), none))) = some (r1, r2) := by rw [if_pos (show (none : Option Int).isNone = true by rfl)] at H; exact H
   clear H
   have H := H1
   clear H1
   try simp only [errW_none, errW_some]
   by_cases c6 : a2 = true
   ·subst c6
    have H1 : ((count_thirty.f a1_0 a1_1 a1_2).bind fun t415 => ((count_thirty.f a0_0 a0_1 a0_2).bind fun t416 => (some (wrap64 (t415 - t416), none)))) = some (r1, r2) := by rw [if_pos rfl] at H; exact H
    clear H
    have H := H1
    clear H1
    replace H := Option.bind_eq_some_iff.mp H
    obtain ⟨t415, A70, H⟩ := H
    replace H : ((count_thirty.f a0_0 a0_1 a0_2).bind fun t416 => (some (wrap64 (t415 - t416), none))) = some (r1, r2) := H
    have A7 := ka A70
    clear A70
    replace H := Option.bind_eq_some_iff.mp H
    obtain ⟨t416, A80, H⟩ := H
    replace H : (some (wrap64 (t415 - t416), none)) = some (r1, r2) := H
    have A8 := ka A80
    clear A80
    simp only [Option.some.injEq, Prod.mk.injEq] at H
    obtain ⟨rfl, rfl⟩ := H
    go_enter Try.func8, Try.ntmps8
    try go_wp2_with (first | ((with_reducible refine gate_dst (N := 3) rfl ?_); refine kx (N := 3) (cs := #[.int .i64 a0_0, .int .i64 a0_1, .int .i64 a0_2]) (t := 23) ?_; intro gb407 hg w9 hbox hb; have n0_ := ka (below_step (kw HB.out) hb); have n1_ := ka (hbox); have n2_ := ka ((by rw [hg]; exact (below_size (kw HB.out)) : w.heap.size ≤ gb407)); have n3_ := n2_; clear HB; have HB := n0_; have BK407 := n1_; have GW407 := n2_; have GE407 := n3_; clear n0_ n1_ n2_ n3_; clear hb hbox hg) | ((with_reducible refine gate_dst (N := 4) rfl ?_); refine kx (N := 4) (cs := #[.int .i64 a1_0, .int .i64 a1_1, .int .i64 a1_2]) (t := 23) ?_; intro gb408 hg w10 hbox hb; have n0_ := ka (blk_below (g := gb407) (kz BK407.out) hb); have n1_ := ka (below_step (kw HB.out) hb); have n2_ := ka (hbox); have n3_ := ka ((by rw [hg]; exact (below_size (kw HB.out)) : w.heap.size ≤ gb408)); have n4_ := n3_; have n5_ := ka ((by rw [hg]; exact Nat.ne_of_lt (blk_lt (g := gb407) (kz BK407.out)) : gb407 ≠ gb408)); have n6_ := ka n5_.out.symm; clear BK407; clear HB; have BK407 := n0_; have HB := n1_; have BK408 := n2_; have GW408 := n3_; have GE408 := n4_; have NB407_408 := n5_; have NB408_407 := n6_; clear n0_ n1_ n2_ n3_ n4_ n5_ n6_; clear hb hbox hg; have hnb11 := NB407_408.out; have hnc11 := NB408_407.out; have hcz12 := blkAll3 BK407.out) | ((with_reducible refine gate_callee (f := 19) rfl ?_); refine kg (some 13) rfl rfl Try.func19 (by kernel_rfl) rfl #[.agg #[.int .i64 a0_0, .int .i64 a0_1, .int .i64 a0_2]] rfl ?_; (with_reducible refine (date_Number_s.calls a0_0 a0_1 a0_2 t409 none _ A4.out).mono ?_); rintro e w13 ⟨rfl, hb⟩; refine ⟨_, rfl, ?_⟩; replace BK407 := kbb BK407 hb; replace BK408 := kbb BK408 hb; replace HB := ka (below_step (kw HB.out) hb); (try clear hb); (try clear hb2); (try clear hk); (try clear hi); (try simp only [errW_none, errW_some]); have hcz14 := blkAll3 BK408.out) | ((with_reducible refine gate_callee (f := 19) rfl ?_); refine kg (some 21) rfl rfl Try.func19 (by kernel_rfl) rfl #[.agg #[.int .i64 a1_0, .int .i64 a1_1, .int .i64 a1_2]] rfl ?_; (with_reducible refine (date_Number_s.calls a1_0 a1_1 a1_2 t412 none _ A5.out).mono ?_); rintro e w15 ⟨rfl, hb⟩; refine ⟨_, rfl, ?_⟩; replace BK407 := kbb BK407 hb; replace BK408 := kbb BK408 hb; replace HB := ka (below_step (kw HB.out) hb); (try clear hb); (try clear hb2); (try clear hk); (try clear hi); (try simp only [errW_none, errW_some])))
    replace BK407 := ka (blk_drew BK407.out)
    replace BK408 := ka (blk_drew BK408.out)
    replace HB := ka (below_drew1 HB.out)
    refine start_ (n := 7) (S := fun w' => w'.cell? ⟨gb408, 0, none⟩ = some (.int .i64 a1_0) ∧ w'.cell? ⟨gb408, 1, none⟩ = some (.int .i64 a1_1) ∧ w'.cell? ⟨gb408, 2, none⟩ = some (.int .i64 a1_2) ∧ w'.cell? ⟨gb407, 0, none⟩ = some (.int .i64 a0_0) ∧ w'.cell? ⟨gb407, 1, none⟩ = some (.int .i64 a0_1) ∧ w'.cell? ⟨gb407, 2, none⟩ = some (.int .i64 a0_2)) (ds := []) #[false, false, false, false, false, false, false] (by kernel_rfl) rfl rfl ⟨(blk_cell BK408.out 0).trans rfl, (blk_cell BK408.out 1).trans rfl, (blk_cell BK408.out 2).trans rfl, (blk_cell BK407.out 0).trans rfl, (blk_cell BK407.out 1).trans rfl, (blk_cell BK407.out 2).trans rfl⟩ (fun hHeld => ?_)
    generalize w15.drew = w16 at BK407 BK408 HB hHeld ⊢
    refine take_ (i := 0) (N := some 28) (v := ?_) (a' := ?_) #[true, false, false, false, false, false, false] rfl rfl (by kernel_rfl) (fun _ _ _ h => h) (Or.inl ⟨by rfl, ?_⟩) hHeld ?_ ?_
    rotate_left
    ·rintro w' ⟨s0, s1, s2, s3, s4, s5⟩
     go_simp
     with_reducible rfl
    rotate_left
    ·simp only [Act.put, List.setIfInBounds_toArray, List.set_cons_zero, List.set_cons_succ, i64_w, i32_w]
     rfl
    refine take_ (i := 2) (N := some 30) (v := ?_) (a' := ?_) #[true, false, true, false, false, false, false] rfl rfl (by kernel_rfl) (fun _ _ _ h => h) (Or.inl ⟨by rfl, ?_⟩) hHeld ?_ ?_
    rotate_left
    ·rintro w' ⟨s0, s1, s2, s3, s4, s5⟩
     go_simp
     with_reducible rfl
    rotate_left
    ·simp only [Act.put, List.setIfInBounds_toArray, List.set_cons_zero, List.set_cons_succ, i64_w, i32_w]
     rfl
    refine one_ (i := 1) (N := some 29) #[true, true, true, false, false, false, false] rfl rfl (by kernel_rfl) (by decide) (fun K hK => ?_)
    refine goes_ Try.func20 (by kernel_rfl) rfl #[.agg #[.int .i64 a1_0, .int .i64 a1_1, .int .i64 a1_2]] (by rfl) rfl rfl (by (try simp only [List.map_toArray, List.map_cons, List.map_nil]); first | done | rfl | (simp only [List.length_drop, List.length_take]; rfl)) ?_
    with_reducible refine (count_thirty.calls a1_0 a1_1 a1_2 t415 _ A7.out).mono ?_
    rintro e w17 ⟨rfl, hb⟩
    refine ⟨_, rfl, ?_⟩
    replace BK407 := kbb BK407 hb
    replace BK408 := kbb BK408 hb
    replace HB := ka (below_step (kw HB.out) hb)
    (try clear hb)
    (try clear hb2)
    (try clear hk)
    (try clear hi)
    refine hK.out _ _ ⟨(blk_cell BK408.out 0).trans rfl, (blk_cell BK408.out 1).trans rfl, (blk_cell BK408.out 2).trans rfl, (blk_cell BK407.out 0).trans rfl, (blk_cell BK407.out 1).trans rfl, (blk_cell BK407.out 2).trans rfl⟩ (fun hHeld => ?_)
    clear hK K
    refine norm_ (a' := ?_) ?_ ?_
    rotate_left
    ·show Act.put _ (some 29) _ = _
     simp only [Act.put, List.setIfInBounds_toArray, List.set_cons_zero, List.set_cons_succ, i64_w, i32_w]
     rfl
    refine one_ (i := 3) (N := some 31) #[true, true, true, true, false, false, false] rfl rfl (by kernel_rfl) (by decide) (fun K hK => ?_)
    refine goes_ Try.func20 (by kernel_rfl) rfl #[.agg #[.int .i64 a0_0, .int .i64 a0_1, .int .i64 a0_2]] (by rfl) rfl rfl (by (try simp only [List.map_toArray, List.map_cons, List.map_nil]); first | done | rfl | (simp only [List.length_drop, List.length_take]; rfl)) ?_
    with_reducible refine (count_thirty.calls a0_0 a0_1 a0_2 t416 _ A8.out).mono ?_
    rintro e w18 ⟨rfl, hb⟩
    refine ⟨_, rfl, ?_⟩
    replace BK407 := kbb BK407 hb
    replace BK408 := kbb BK408 hb
    replace HB := ka (below_step (kw HB.out) hb)
    (try clear hb)
    (try clear hb2)
    (try clear hk)
    (try clear hi)
    refine hK.out _ _ ⟨(blk_cell BK408.out 0).trans rfl, (blk_cell BK408.out 1).trans rfl, (blk_cell BK408.out 2).trans rfl, (blk_cell BK407.out 0).trans rfl, (blk_cell BK407.out 1).trans rfl, (blk_cell BK407.out 2).trans rfl⟩ (fun hHeld => ?_)
    clear hK K
    refine norm_ (a' := ?_) ?_ ?_
    rotate_left
    ·show Act.put _ (some 31) _ = _
     simp only [Act.put, List.setIfInBounds_toArray, List.set_cons_zero, List.set_cons_succ, i64_w, i32_w]
     rfl
    refine pure_ (i := 4) (N := some 32) (v := ?_) (a' := ?_) #[true, true, true, true, true, false, false] rfl rfl (by kernel_rfl) (fun _ _ _ h => h) (Or.inl ⟨by rfl, ?_⟩) ?_ ?_
    rotate_left
    ·intro w'
     go_simp
     with_reducible rfl
    rotate_left
    ·simp only [Act.put, List.setIfInBounds_toArray, List.set_cons_zero, List.set_cons_succ, i64_w, i32_w]
     rfl
    refine pure_ (i := 5) (N := some 6) (v := ?_) (a' := ?_) #[true, true, true, true, true, true, false] rfl rfl (by kernel_rfl) (fun _ _ _ h => h) (Or.inl ⟨by rfl, ?_⟩) ?_ ?_
    rotate_left
    ·intro w'
     go_simp
     with_reducible rfl
    rotate_left
    ·simp only [Act.put, List.setIfInBounds_toArray, List.set_cons_zero, List.set_cons_succ, i64_w, i32_w]
     rfl
    refine pure_ (i := 6) (N := some 7) (v := ?_) (a' := ?_) #[true, true, true, true, true, true, true] rfl rfl (by kernel_rfl) (fun _ _ _ h => h) (Or.inl ⟨by rfl, ?_⟩) ?_ ?_
    rotate_left
    ·intro w'
     go_simp
     with_reducible rfl
    rotate_left
    ·simp only [Act.put, List.setIfInBounds_toArray, List.set_cons_zero, List.set_cons_succ, i64_w, i32_w]
     rfl
    refine done_ (by kernel_rfl) ?_
    try go_wp2
    go_ret2
    exact ⟨by first | rfl | (simp [errW_none, errW_some] <;> rfl) | (simp [*, errW_none, errW_some] <;> rfl), by repeat (first | (with_reducible first | exact HB.out | apply kc1 | apply kc2 | apply kc3 | refine kc4 ?_ GE407.out | refine kc4 ?_ GE408.out) | exact HB.out)⟩
   ·replace c6 := Bool.eq_false_iff.mpr c6
    subst c6
    have H1 : (some (wrap64 (t412 - t409), none)) = some (r1, r2) := by rw [if_neg (show ¬ (false = true) by decide)] at H; exact H
    clear H
    have H := H1
    clear H1
    simp only [Option.some.injEq, Prod.mk.injEq] at H
    obtain ⟨rfl, rfl⟩ := H
    go_enter Try.func8, Try.ntmps8
    go_wp2_with (first | ((with_reducible refine gate_dst (N := 3) rfl ?_); refine kx (N := 3) (cs := #[.int .i64 a0_0, .int .i64 a0_1, .int .i64 a0_2]) (t := 23) ?_; intro gb407 hg w19 hbox hb; have n0_ := ka (below_step (kw HB.out) hb); have n1_ := ka (hbox); have n2_ := ka ((by rw [hg]; exact (below_size (kw HB.out)) : w.heap.size ≤ gb407)); have n3_ := n2_; clear HB; have HB := n0_; have BK407 := n1_; have GW407 := n2_; have GE407 := n3_; clear n0_ n1_ n2_ n3_; clear hb hbox hg) | ((with_reducible refine gate_dst (N := 4) rfl ?_); refine kx (N := 4) (cs := #[.int .i64 a1_0, .int .i64 a1_1, .int .i64 a1_2]) (t := 23) ?_; intro gb408 hg w20 hbox hb; have n0_ := ka (blk_below (g := gb407) (kz BK407.out) hb); have n1_ := ka (below_step (kw HB.out) hb); have n2_ := ka (hbox); have n3_ := ka ((by rw [hg]; exact (below_size (kw HB.out)) : w.heap.size ≤ gb408)); have n4_ := n3_; have n5_ := ka ((by rw [hg]; exact Nat.ne_of_lt (blk_lt (g := gb407) (kz BK407.out)) : gb407 ≠ gb408)); have n6_ := ka n5_.out.symm; clear BK407; clear HB; have BK407 := n0_; have HB := n1_; have BK408 := n2_; have GW408 := n3_; have GE408 := n4_; have NB407_408 := n5_; have NB408_407 := n6_; clear n0_ n1_ n2_ n3_ n4_ n5_ n6_; clear hb hbox hg; have hnb21 := NB407_408.out; have hnc21 := NB408_407.out; have hcz22 := blkAll3 BK407.out) | ((with_reducible refine gate_callee (f := 19) rfl ?_); refine kg (some 13) rfl rfl Try.func19 (by kernel_rfl) rfl #[.agg #[.int .i64 a0_0, .int .i64 a0_1, .int .i64 a0_2]] rfl ?_; (with_reducible refine (date_Number_s.calls a0_0 a0_1 a0_2 t409 none _ A4.out).mono ?_); rintro e w23 ⟨rfl, hb⟩; refine ⟨_, rfl, ?_⟩; replace BK407 := kbb BK407 hb; replace BK408 := kbb BK408 hb; replace HB := ka (below_step (kw HB.out) hb); (try clear hb); (try clear hb2); (try clear hk); (try clear hi); (try simp only [errW_none, errW_some]); have hcz24 := blkAll3 BK408.out) | ((with_reducible refine gate_callee (f := 19) rfl ?_); refine kg (some 21) rfl rfl Try.func19 (by kernel_rfl) rfl #[.agg #[.int .i64 a1_0, .int .i64 a1_1, .int .i64 a1_2]] rfl ?_; (with_reducible refine (date_Number_s.calls a1_0 a1_1 a1_2 t412 none _ A5.out).mono ?_); rintro e w25 ⟨rfl, hb⟩; refine ⟨_, rfl, ?_⟩; replace BK407 := kbb BK407 hb; replace BK408 := kbb BK408 hb; replace HB := ka (below_step (kw HB.out) hb); (try clear hb); (try clear hb2); (try clear hk); (try clear hi); (try simp only [errW_none, errW_some])))
    go_ret2
    exact ⟨by first | rfl | (simp [errW_none, errW_some] <;> rfl) | (simp [*, errW_none, errW_some] <;> rfl), by repeat (first | (with_reducible first | exact HB.out | apply kc1 | apply kc2 | apply kc3 | refine kc4 ?_ GE407.out | refine kc4 ?_ GE408.out) | exact HB.out)⟩
  ·have H1 : (some (0, some q414)) = some (r1, r2) := by rw [if_neg (show ¬ (some q414).isNone = true by simp)] at H; exact H
   clear H
   have H := H1
   clear H1
   try simp only [errW_none, errW_some]
   simp only [Option.some.injEq, Prod.mk.injEq] at H
   obtain ⟨rfl, rfl⟩ := H
   go_enter Try.func8, Try.ntmps8
   go_wp2_with (first | ((with_reducible refine gate_dst (N := 3) rfl ?_); refine kx (N := 3) (cs := #[.int .i64 a0_0, .int .i64 a0_1, .int .i64 a0_2]) (t := 23) ?_; intro gb407 hg w26 hbox hb; have n0_ := ka (below_step (kw HB.out) hb); have n1_ := ka (hbox); have n2_ := ka ((by rw [hg]; exact (below_size (kw HB.out)) : w.heap.size ≤ gb407)); have n3_ := n2_; clear HB; have HB := n0_; have BK407 := n1_; have GW407 := n2_; have GE407 := n3_; clear n0_ n1_ n2_ n3_; clear hb hbox hg) | ((with_reducible refine gate_dst (N := 4) rfl ?_); refine kx (N := 4) (cs := #[.int .i64 a1_0, .int .i64 a1_1, .int .i64 a1_2]) (t := 23) ?_; intro gb408 hg w27 hbox hb; have n0_ := ka (blk_below (g := gb407) (kz BK407.out) hb); have n1_ := ka (below_step (kw HB.out) hb); have n2_ := ka (hbox); have n3_ := ka ((by rw [hg]; exact (below_size (kw HB.out)) : w.heap.size ≤ gb408)); have n4_ := n3_; have n5_ := ka ((by rw [hg]; exact Nat.ne_of_lt (blk_lt (g := gb407) (kz BK407.out)) : gb407 ≠ gb408)); have n6_ := ka n5_.out.symm; clear BK407; clear HB; have BK407 := n0_; have HB := n1_; have BK408 := n2_; have GW408 := n3_; have GE408 := n4_; have NB407_408 := n5_; have NB408_407 := n6_; clear n0_ n1_ n2_ n3_ n4_ n5_ n6_; clear hb hbox hg; have hnb28 := NB407_408.out; have hnc28 := NB408_407.out; have hcz29 := blkAll3 BK407.out) | ((with_reducible refine gate_callee (f := 19) rfl ?_); refine kg (some 13) rfl rfl Try.func19 (by kernel_rfl) rfl #[.agg #[.int .i64 a0_0, .int .i64 a0_1, .int .i64 a0_2]] rfl ?_; (with_reducible refine (date_Number_s.calls a0_0 a0_1 a0_2 t409 none _ A4.out).mono ?_); rintro e w30 ⟨rfl, hb⟩; refine ⟨_, rfl, ?_⟩; replace BK407 := kbb BK407 hb; replace BK408 := kbb BK408 hb; replace HB := ka (below_step (kw HB.out) hb); (try clear hb); (try clear hb2); (try clear hk); (try clear hi); (try simp only [errW_none, errW_some]); have hcz31 := blkAll3 BK408.out) | ((with_reducible refine gate_callee (f := 19) rfl ?_); refine kg (some 21) rfl rfl Try.func19 (by kernel_rfl) rfl #[.agg #[.int .i64 a1_0, .int .i64 a1_1, .int .i64 a1_2]] rfl ?_; (with_reducible refine (date_Number_s.calls a1_0 a1_1 a1_2 t412 (some q414) _ A5.out).mono ?_); rintro e w32 ⟨rfl, hb⟩; refine ⟨_, rfl, ?_⟩; replace BK407 := kbb BK407 hb; replace BK408 := kbb BK408 hb; replace HB := ka (below_step (kw HB.out) hb); (try clear hb); (try clear hb2); (try clear hk); (try clear hi); (try simp only [errW_none, errW_some])))
   go_ret2
   exact ⟨by first | rfl | (simp [errW_none, errW_some] <;> rfl) | (simp [*, errW_none, errW_some] <;> rfl), by repeat (first | (with_reducible first | exact HB.out | apply kc1 | apply kc2 | apply kc3 | refine kc4 ?_ GE407.out | refine kc4 ?_ GE408.out) | exact HB.out)⟩
 ·have H1 : (some (0, some q411)) = some (r1, r2) := by rw [if_neg (show ¬ (some q411).isNone = true by simp)] at H; exact H
  clear H
  have H := H1
  clear H1
  try simp only [errW_none, errW_some]
  simp only [Option.some.injEq, Prod.mk.injEq] at H
  obtain ⟨rfl, rfl⟩ := H
  go_enter Try.func8, Try.ntmps8
  go_wp2_with (first | ((with_reducible refine gate_dst (N := 3) rfl ?_); refine kx (N := 3) (cs := #[.int .i64 a0_0, .int .i64 a0_1, .int .i64 a0_2]) (t := 23) ?_; intro gb407 hg w33 hbox hb; have n0_ := ka (below_step (kw HB.out) hb); have n1_ := ka (hbox); have n2_ := ka ((by rw [hg]; exact (below_size (kw HB.out)) : w.heap.size ≤ gb407)); have n3_ := n2_; clear HB; have HB := n0_; have BK407 := n1_; have GW407 := n2_; have GE407 := n3_; clear n0_ n1_ n2_ n3_; clear hb hbox hg) | ((with_reducible refine gate_dst (N := 4) rfl ?_); refine kx (N := 4) (cs := #[.int .i64 a1_0, .int .i64 a1_1, .int .i64 a1_2]) (t := 23) ?_; intro gb408 hg w34 hbox hb; have n0_ := ka (blk_below (g := gb407) (kz BK407.out) hb); have n1_ := ka (below_step (kw HB.out) hb); have n2_ := ka (hbox); have n3_ := ka ((by rw [hg]; exact (below_size (kw HB.out)) : w.heap.size ≤ gb408)); have n4_ := n3_; have n5_ := ka ((by rw [hg]; exact Nat.ne_of_lt (blk_lt (g := gb407) (kz BK407.out)) : gb407 ≠ gb408)); have n6_ := ka n5_.out.symm; clear BK407; clear HB; have BK407 := n0_; have HB := n1_; have BK408 := n2_; have GW408 := n3_; have GE408 := n4_; have NB407_408 := n5_; have NB408_407 := n6_; clear n0_ n1_ n2_ n3_ n4_ n5_ n6_; clear hb hbox hg; have hnb35 := NB407_408.out; have hnc35 := NB408_407.out; have hcz36 := blkAll3 BK407.out) | ((with_reducible refine gate_callee (f := 19) rfl ?_); refine kg (some 13) rfl rfl Try.func19 (by kernel_rfl) rfl #[.agg #[.int .i64 a0_0, .int .i64 a0_1, .int .i64 a0_2]] rfl ?_; (with_reducible refine (date_Number_s.calls a0_0 a0_1 a0_2 t409 (some q411) _ A4.out).mono ?_); rintro e w37 ⟨rfl, hb⟩; refine ⟨_, rfl, ?_⟩; replace BK407 := kbb BK407 hb; replace BK408 := kbb BK408 hb; replace HB := ka (below_step (kw HB.out) hb); (try clear hb); (try clear hb2); (try clear hk); (try clear hi); (try simp only [errW_none, errW_some])))
  go_ret2
  exact ⟨by first | rfl | (simp [errW_none, errW_some] <;> rfl) | (simp [*, errW_none, errW_some] <;> rfl), by repeat (first | (with_reducible first | exact HB.out | apply kc1 | apply kc2 | apply kc3 | refine kc4 ?_ GE407.out | refine kc4 ?_ GE408.out) | exact HB.out)⟩

/-! ### count_Between_s: function 8, told plainly -/
theorem count_Between.tells (y m d y' m' d' : Int) (b : Bool) : count_Between.f y m d y' m' d' b =
  some (if M.date y m d ∧ M.date y' m' d' then ((if b = true then 360 * (y' - y) + 30 * (m' - m) + (M.cut d' 30 - M.cut d 30) else M.civ y' m' d' - M.civ y m d), none) else (0, some 2)) := by
 unfold count_Between.f
 by_cases h : M.date y m d
 ·rw [date_Number_s.yes h, Option.bind_some]
  simp only [Option.isNone_none, if_true]
  by_cases h' : M.date y' m' d'
  ·have hb : M.date y m d ∧ M.date y' m' d' := ⟨h, h'⟩
   rw [date_Number_s.yes h', Option.bind_some, if_pos hb]
   simp only [Option.isNone_none, if_true]
   have a := M.date_in h
   have a' := M.date_in h'
   have c := M.civ_bd h
   have c' := M.civ_bd h'
   cases b with
   | true =>
    unfold count_thirty.f
    have e : ∀ x : Int, mn x 30 = M.cut x 30 := fun x => by unfold mn M.cut; split <;> split <;> omega
    have k1 : M.cut d 30 ≤ 31 ∧ 0 ≤ M.cut d 30 := by unfold M.cut; split <;> omega
    have k2 : M.cut d' 30 ≤ 31 ∧ 0 ≤ M.cut d' 30 := by unfold M.cut; split <;> omega
    simp only [if_true, Option.bind_some, e]
    refine congrArg some (Prod.ext ?_ rfl)
    simp only [wrap64]
    omega
   | false =>
    simp only [Bool.false_eq_true, if_false]
    rw [M.w64_id (by omega) (by omega)]
  ·have hb : ¬ (M.date y m d ∧ M.date y' m' d') := fun hh => h' hh.2
   rw [date_Number_s.no h', Option.bind_some, if_neg hb]
   rfl
 ·have hb : ¬ (M.date y m d ∧ M.date y' m' d') := fun hh => h hh.1
  rw [date_Number_s.no h, Option.bind_some, if_neg hb]
  rfl
def count_Between_s.f (y m d y' m' d' : Int) (b : Bool) : Option (Int × Option Int) :=
 some (if M.date y m d ∧ M.date y' m' d' then ((if b = true then 360 * (y' - y) + 30 * (m' - m) + (M.cut d' 30 - M.cut d 30) else M.civ y' m' d' - M.civ y m d), none) else (0, some 2))
theorem count_Between_s.calls (a0_0 : Int) (a0_1 : Int) (a0_2 : Int) (a1_0 : Int) (a1_1 : Int) (a1_2 : Int) (a2 : Bool) (r1 : Int) (r2 : Option Int) (w : World) (h : count_Between_s.f a0_0 a0_1 a0_2 a1_0 a1_1 a1_2 a2 = some (r1, r2)) :
  Calls Try.prog 8 #[.agg #[.int .i64 a0_0, .int .i64 a0_1, .int .i64 a0_2], .agg #[.int .i64 a1_0, .int .i64 a1_1, .int .i64 a1_2], .bool a2] w fun e w' => e = .returned (.tuple #[.int .i64 r1, errW r2]) ∧ Below w.heap.size w w' := by
 exact count_Between.calls a0_0 a0_1 a0_2 a1_0 a1_1 a1_2 a2 r1 r2 w ((count_Between.tells a0_0 a0_1 a0_2 a1_0 a1_1 a1_2 a2).trans h)
theorem count_Between_s.yes {y m d y' m' d' : Int} {b : Bool} (h : M.date y m d) (h' : M.date y' m' d') : count_Between_s.f y m d y' m' d' b = some ((if b = true then 360 * (y' - y) + 30 * (m' - m) + (M.cut d' 30 - M.cut d 30) else M.civ y' m' d' - M.civ y m d), none) := by
 unfold count_Between_s.f
 have hb : M.date y m d ∧ M.date y' m' d' := ⟨h, h'⟩
 rw [if_pos hb]
theorem count_Between_s.no {y m d y' m' d' : Int} {b : Bool} (h : ¬ (M.date y m d ∧ M.date y' m' d')) : count_Between_s.f y m d y' m' d' b = some (0, some 2) := by
 unfold count_Between_s.f
 rw [if_neg h]

/-! ### cents_size: function 34 -/
def cents_size.f (a0 : Int) : Option (Int × Bool) := if a0 < 0 then (some (IntKind.u64.wrap (-(IntKind.u64.wrap (a0))), true)) else (some (IntKind.u64.wrap (a0), false))
set_option maxHeartbeats 8000000 in
set_option maxRecDepth 100000 in
theorem cents_size.calls (a0 : Int) (r1 : Int) (r2 : Bool) (w : World) (h : cents_size.f a0 = some (r1, r2)) :
  Calls Try.prog 34 #[.int .i64 a0] w fun e w' => e = .returned (.tuple #[.int .u64 r1, .bool r2]) ∧ Drawn0 w w' := by
 have H : (if a0 < 0 then (some (IntKind.u64.wrap (-(IntKind.u64.wrap (a0))), true)) else (some (IntKind.u64.wrap (a0), false))) = some (r1, r2) := h
 clear h
 by_cases c2 : a0 < 0
 ·rw [if_pos c2] at H
  have c2b0 : decide (a0 < 0) = true := decide_eq_true c2
  clear c2
  simp only [Option.some.injEq, Prod.mk.injEq] at H
  obtain ⟨rfl, rfl⟩ := H
  go_enter Try.func34, Try.ntmps34
  go_wp2
  go_ret2
  exact ⟨by first | rfl | (simp; done) | (simp [*]; done), by repeat (first | exact Drawn0.refl _ | apply Drawn0.step)⟩
 ·rw [if_neg c2] at H
  have c2b0 : decide (a0 < 0) = false := decide_eq_false c2
  clear c2
  simp only [Option.some.injEq, Prod.mk.injEq] at H
  obtain ⟨rfl, rfl⟩ := H
  go_enter Try.func34, Try.ntmps34
  go_wp2
  go_ret2
  exact ⟨by first | rfl | (simp; done) | (simp [*]; done), by repeat (first | exact Drawn0.refl _ | apply Drawn0.step)⟩

/-! ### bits_Mul64: function 35 -/
def bits_Mul64.f (a0 : Int) (a1 : Int) : Option (Int × Int) := some (IntKind.u64.wrap ((IntKind.u64.wrap ((IntKind.u64.wrap ((a0 / 4294967296) * (a1 / 4294967296))) + ((IntKind.u64.wrap ((IntKind.u64.wrap ((a0 / 4294967296) * (Go.bits .and .u64 a1 4294967295))) + ((IntKind.u64.wrap ((Go.bits .and .u64 a0 4294967295) * (Go.bits .and .u64 a1 4294967295))) / 4294967296))) / 4294967296))) + ((IntKind.u64.wrap ((Go.bits .and .u64 (IntKind.u64.wrap ((IntKind.u64.wrap ((a0 / 4294967296) * (Go.bits .and .u64 a1 4294967295))) + ((IntKind.u64.wrap ((Go.bits .and .u64 a0 4294967295) * (Go.bits .and .u64 a1 4294967295))) / 4294967296))) 4294967295) + (IntKind.u64.wrap ((Go.bits .and .u64 a0 4294967295) * (a1 / 4294967296))))) / 4294967296)), IntKind.u64.wrap (a0 * a1))
set_option maxHeartbeats 8000000 in
set_option maxRecDepth 100000 in
theorem bits_Mul64.calls (a0 : Int) (a1 : Int) (r1 : Int) (r2 : Int) (w : World) (h : bits_Mul64.f a0 a1 = some (r1, r2)) :
  Calls Try.prog 35 #[.int .u64 a0, .int .u64 a1] w fun e w' => e = .returned (.tuple #[.int .u64 r1, .int .u64 r2]) ∧ Drawn0 w w' := by
 have H : (some (IntKind.u64.wrap ((IntKind.u64.wrap ((IntKind.u64.wrap ((a0 / 4294967296) * (a1 / 4294967296))) + ((IntKind.u64.wrap ((IntKind.u64.wrap ((a0 / 4294967296) * (Go.bits .and .u64 a1 4294967295))) + ((IntKind.u64.wrap ((Go.bits .and .u64 a0 4294967295) * (Go.bits .and .u64 a1 4294967295))) / 4294967296))) / 4294967296))) + ((IntKind.u64.wrap ((Go.bits .and .u64 (IntKind.u64.wrap ((IntKind.u64.wrap ((a0 / 4294967296) * (Go.bits .and .u64 a1 4294967295))) + ((IntKind.u64.wrap ((Go.bits .and .u64 a0 4294967295) * (Go.bits .and .u64 a1 4294967295))) / 4294967296))) 4294967295) + (IntKind.u64.wrap ((Go.bits .and .u64 a0 4294967295) * (a1 / 4294967296))))) / 4294967296)), IntKind.u64.wrap (a0 * a1))) = some (r1, r2) := h
 clear h
 simp only [Option.some.injEq, Prod.mk.injEq] at H
 obtain ⟨rfl, rfl⟩ := H
 go_enter Try.func35, Try.ntmps35
 go_wp2
 go_ret2
 exact ⟨by first | rfl | (simp; done) | (simp [*]; done), by repeat (first | exact Drawn0.refl _ | apply Drawn0.step)⟩

/-! ### bits_Mul64_s: function 35, told plainly -/
theorem bits_Mul64.tells (a0 a1 : Int) (h : 0 ≤ a0 ∧ a0 < 18446744073709551616 ∧ 0 ≤ a1 ∧ a1 < 18446744073709551616) :
  bits_Mul64.f a0 a1 = some (a0 * a1 / 18446744073709551616, a0 * a1 % 18446744073709551616) := by
 obtain ⟨p0, p1, p2, p3⟩ := h
 obtain ⟨x, rfl⟩ := Int.eq_ofNat_of_zero_le p0
 obtain ⟨y, rfl⟩ := Int.eq_ofNat_of_zero_le p2
 unfold bits_Mul64.f
 rw [M.and_low _ p0 p1, M.and_low _ p2 p3]
 obtain ⟨h1, h2, h3, h4⟩ := Go.Lib.mul64_hi x y (by omega) (by omega)
 have ha := Go.Lib.half_mul_le (a := x / 4294967296) (b := y / 4294967296) (by omega) (by omega)
 have hb := Go.Lib.half_mul_le (a := x / 4294967296) (b := y % 4294967296) (by omega) (by omega)
 have hc := Go.Lib.half_mul_le (a := x % 4294967296) (b := y / 4294967296) (by omega) (by omega)
 have hd := Go.Lib.half_mul_le (a := x % 4294967296) (b := y % 4294967296) (by omega) (by omega)
 have ca : (x : Int) / 4294967296 * ((y : Int) / 4294967296) = ((x / 4294967296 * (y / 4294967296) : Nat) : Int) := by simp
 have cb : (x : Int) / 4294967296 * ((y : Int) % 4294967296) = ((x / 4294967296 * (y % 4294967296) : Nat) : Int) := by simp
 have cc : (x : Int) % 4294967296 * ((y : Int) / 4294967296) = ((x % 4294967296 * (y / 4294967296) : Nat) : Int) := by simp
 have cd : (x : Int) % 4294967296 * ((y : Int) % 4294967296) = ((x % 4294967296 * (y % 4294967296) : Nat) : Int) := by simp
 have ce : (x : Int) * (y : Int) = ((x * y : Nat) : Int) := by simp
 rw [ca, cb, cc, cd, ce]
 generalize x / 4294967296 * (y / 4294967296) = a at *
 generalize x / 4294967296 * (y % 4294967296) = b at *
 generalize x % 4294967296 * (y / 4294967296) = c at *
 generalize x % 4294967296 * (y % 4294967296) = d at *
 generalize x * y = e at *
 rw [M.wrapu_id (n := (a : Int)) (by omega) (by omega), M.wrapu_id (n := (b : Int)) (by omega) (by omega), M.wrapu_id (n := (c : Int)) (by omega) (by omega), M.wrapu_id (n := (d : Int)) (by omega) (by omega)]
 rw [M.wrapu_id (n := (b : Int) + (d : Int) / 4294967296) (by omega) (by omega)]
 rw [M.and_low _ (by omega) (by omega)]
 rw [M.wrapu_id (n := (a : Int) + ((b : Int) + (d : Int) / 4294967296) / 4294967296) (by omega) (by omega)]
 rw [M.wrapu_id (n := ((b : Int) + (d : Int) / 4294967296) % 4294967296 + (c : Int)) (by omega) (by omega)]
 rw [M.wrapu_id (by omega) (by omega), M.wrapu]
 congr 2
 omega
def bits_Mul64_s.f (a0 : Int) (a1 : Int) : Option (Int × Int) :=
 if 0 ≤ a0 ∧ a0 < 18446744073709551616 ∧ 0 ≤ a1 ∧ a1 < 18446744073709551616 then some (a0 * a1 / 18446744073709551616, a0 * a1 % 18446744073709551616) else none
theorem bits_Mul64_s.calls (a0 : Int) (a1 : Int) (r1 : Int) (r2 : Int) (w : World) (h : bits_Mul64_s.f a0 a1 = some (r1, r2)) :
  Calls Try.prog 35 #[.int .u64 a0, .int .u64 a1] w fun e w' => e = .returned (.tuple #[.int .u64 r1, .int .u64 r2]) ∧ Drawn0 w w' := by
 unfold bits_Mul64_s.f at h
 split at h
 ·rename_i hr
  exact bits_Mul64.calls a0 a1 r1 r2 w ((bits_Mul64.tells a0 a1 hr).trans h)
 ·cases h

/-! ### bits_Len64: function 44 -/
def bits_Len64.f (a0 : Int) : Option (Int) := if 0 ≤ a0 ∧ a0 < 18446744073709551616 then some (Go.Lib.bitLen a0.toNat : Int) else none
theorem bits_Len64.calls (a0 : Int) (r : Int) (w : World) (h : bits_Len64.f a0 = some r) :
  Calls Try.prog 44 #[.int .u64 a0] w fun e w' => e = .returned (.int .i64 r) ∧ Drawn0 w w' := by
 unfold bits_Len64.f at h
 split at h
 ·rename_i hr
  injection h with h
  subst h
  refine (B.len64 a0 w hr.1 (by omega)).mono ?_
  rintro e w' ⟨rfl, rfl⟩
  exact ⟨rfl, Drawn0.refl _⟩
 ·cases h

end Go.Proofs.Ytonjhfneeejdaaa.P
