-- Written by a program of this session out of the translation of the seat: Lean functions and the proofs that the Go functions come to them.
import Derived.Test.YtbbhdlbpefibeaaGreatDoorPx0
namespace Go.Proofs.YtbbhdlbpefibeaaGreatDoor.P
open Go.RowKit Go.Proofs.YtbbhdlbpefibeaaGreatDoorW.PrintWords Go.Proofs.YtbbhdlbpefibeaaGreatDoorW.PrintLast Go.Proofs.YtbbhdlbpefibeaaGreatDoorW.PrintMore
attribute [local go_sem] max2_int min2_int max_two min_two max_three min_three max_four min_four   -- for this text's walks alone
set_option linter.unusedVariables false
set_option linter.unusedSimpArgs false

/-! ### date_leap: function 127 -/
def date_leap.f (a0 : Int) : Option (Bool) := if (Int.tmod a0 4) = 0 then (if (Int.tmod a0 100) = 0 then (some ((Int.tmod a0 400) == 0)) else (some true)) else (some ((Int.tmod a0 400) == 0))
set_option maxHeartbeats 8000000 in
set_option maxRecDepth 100000 in
theorem date_leap.calls (a0 : Int) (r : Bool) (w : World) (h : date_leap.f a0 = some r) :
    Calls Tryz.prog 127 #[.int .i64 a0] w fun e w' => e = .returned (.bool r) ∧ Drawn0 w w' := by
  have H : (if (Int.tmod a0 4) = 0 then (if (Int.tmod a0 100) = 0 then (some ((Int.tmod a0 400) == 0)) else (some true)) else (some ((Int.tmod a0 400) == 0))) = some r := h
  clear h
  by_cases c2 : (Int.tmod a0 4) = 0
  · rw [if_pos c2] at H
    have c2b0 : ((Int.tmod a0 4) == 0) = true := beq_iff_eq.mpr c2
    have c2b1 : ((Int.tmod a0 4) != 0) = false := bne_eq_false_iff_eq.mpr c2
    clear c2
    by_cases c3 : (Int.tmod a0 100) = 0
    · rw [if_pos c3] at H
      have c3b0 : ((Int.tmod a0 100) == 0) = true := beq_iff_eq.mpr c3
      have c3b1 : ((Int.tmod a0 100) != 0) = false := bne_eq_false_iff_eq.mpr c3
      clear c3
      obtain rfl := Option.some.inj H
      go_enter Tryz.func127, Tryz.ntmps127
      go_wp2
      go_ret
      exact ⟨by first | rfl | (simp; done) | (simp [*]; done), by repeat (first | exact Drawn0.refl _ | apply Drawn0.step)⟩
    · rw [if_neg c3] at H
      have c3b0 : ((Int.tmod a0 100) == 0) = false := beq_eq_false_iff_ne.mpr c3
      have c3b1 : ((Int.tmod a0 100) != 0) = true := bne_iff_ne.mpr c3
      obtain rfl := Option.some.inj H
      go_enter Tryz.func127, Tryz.ntmps127
      go_wp2
      go_ret
      exact ⟨by first | rfl | (simp; done) | (simp [*]; done), by repeat (first | exact Drawn0.refl _ | apply Drawn0.step)⟩
  · rw [if_neg c2] at H
    have c2b0 : ((Int.tmod a0 4) == 0) = false := beq_eq_false_iff_ne.mpr c2
    have c2b1 : ((Int.tmod a0 4) != 0) = true := bne_iff_ne.mpr c2
    obtain rfl := Option.some.inj H
    go_enter Tryz.func127, Tryz.ntmps127
    go_wp2
    go_ret
    exact ⟨by first | rfl | (simp; done) | (simp [*]; done), by repeat (first | exact Drawn0.refl _ | apply Drawn0.step)⟩

/-! ### date_leap_s: function 127, told plainly -/
theorem date_leap.tells (y : Int) (h : 0 ≤ y) : date_leap.f y = some (M.leap y) := by
  unfold date_leap.f M.leap
  rw [M.tmodu h, M.tmodu h, M.tmodu h]
  by_cases h1 : y % 4 = 0
  · by_cases h2 : y % 100 = 0
    · by_cases h3 : y % 400 = 0 <;> simp [h1, h2, h3]
    · simp [h1, h2]
  · have : ¬ y % 400 = 0 := by omega
    simp [h1, this]
def date_leap_s.f (y : Int) : Option Bool := if 0 ≤ y then some (M.leap y) else none
theorem date_leap_s.calls (a0 : Int) (r : Bool) (w : World) (h : date_leap_s.f a0 = some r) :
    Calls Tryz.prog 127 #[.int .i64 a0] w fun e w' => e = .returned (.bool r) ∧ Drawn0 w w' := by
  unfold date_leap_s.f at h
  split at h
  · rename_i hr
    exact date_leap.calls a0 r w ((date_leap.tells a0 hr).trans h)
  · cases h

/-! ### date_Days: function 92 -/
def date_Days.f (y m : Int) : Option Int := some (M.days y m)
set_option maxHeartbeats 8000000 in
set_option maxRecDepth 100000 in
theorem date_Days.zero (a0 a1 : Int) (w : World) (h : a0 < 1900 ∨ 2199 < a0 ∨ a1 < 1 ∨ 12 < a1) :
    Calls Tryz.prog 92 #[.int .i64 a0, .int .i64 a1] w fun e w' => e = .returned (.int .i64 0) ∧ Below w.heap.size w w' := by
  by_cases h1 : a0 < 1900
  · have b1 : decide (a0 < 1900) = true := decide_eq_true h1
    clear h h1
    go_enter Tryz.func92, Tryz.ntmps92
    go_wp2
    go_ret
    exact ⟨rfl, Below.refl _ _⟩
  · have b1 : decide (a0 < 1900) = false := decide_eq_false h1
    by_cases h2 : 2199 < a0
    · have b2 : decide (2199 < a0) = true := decide_eq_true h2
      clear h h1 h2
      go_enter Tryz.func92, Tryz.ntmps92
      go_wp2
      go_ret
      exact ⟨rfl, Below.refl _ _⟩
    · have b2 : decide (2199 < a0) = false := decide_eq_false h2
      by_cases h3 : a1 < 1
      · have b3 : decide (a1 < 1) = true := decide_eq_true h3
        clear h h1 h2 h3
        go_enter Tryz.func92, Tryz.ntmps92
        go_wp2
        go_ret
        exact ⟨rfl, Below.refl _ _⟩
      · have b3 : decide (a1 < 1) = false := decide_eq_false h3
        have b4 : decide (12 < a1) = true := decide_eq_true (by omega)
        clear h h1 h2 h3
        go_enter Tryz.func92, Tryz.ntmps92
        go_wp2
        go_ret
        exact ⟨rfl, Below.refl _ _⟩
set_option maxHeartbeats 8000000 in
set_option maxRecDepth 100000 in
theorem date_Days.calls (a0 a1 r : Int) (w : World) (h : date_Days.f a0 a1 = some r) :
    Calls Tryz.prog 92 #[.int .i64 a0, .int .i64 a1] w fun e w' => e = .returned (.int .i64 r) ∧ Below w.heap.size w w' := by
  unfold date_Days.f at h
  injection h with h
  subst h
  by_cases hin : 1900 ≤ a0 ∧ a0 ≤ 2199 ∧ 1 ≤ a1 ∧ a1 ≤ 12
  · obtain ⟨i1, i2, i3, i4⟩ := hin
    have hm : a1 = 1 ∨ a1 = 2 ∨ a1 = 3 ∨ a1 = 4 ∨ a1 = 5 ∨ a1 = 6 ∨ a1 = 7 ∨ a1 = 8 ∨ a1 = 9 ∨ a1 = 10 ∨ a1 = 11 ∨ a1 = 12 := by omega
    have hd : M.days a0 a1 = if a1 = 2 then (if M.leap a0 = true then 29 else 28) else if a1 = 4 ∨ a1 = 6 ∨ a1 = 9 ∨ a1 = 11 then 30 else 31 := by unfold M.days; rw [if_pos ⟨i1, i2, i3, i4⟩]
    have hl : date_leap_s.f a0 = some (M.leap a0) := by unfold date_leap_s.f; rw [if_pos (by omega)]
    have b1 : decide (a0 < 1900) = false := decide_eq_false (by omega)
    have b2 : decide (2199 < a0) = false := decide_eq_false (by omega)
    have HL := ka hl
    have HD := ka hd
    clear hl hd i1 i2 i3 i4
    rcases hm with rfl | rfl | rfl | rfl | rfl | rfl | rfl | rfl | rfl | rfl | rfl | rfl
    case inr.inl =>
      cases hlp : M.leap a0 with
      | false =>
        rw [hlp] at HL HD
        clear hlp
        go_enter Tryz.func92, Tryz.ntmps92
        go_wp2_with (go_at_call 127; refine (date_leap_s.calls a0 _ _ HL.out).mono ?_; rintro e w' ⟨rfl, ⟨nd, rfl⟩⟩)
        go_ret
        exact ⟨by rw [HD.out]; rfl, pw_below_drewN ((Below.refl _ _).alloc (Nat.le_refl _) _) _⟩
      | true =>
        rw [hlp] at HL HD
        clear hlp
        go_enter Tryz.func92, Tryz.ntmps92
        go_wp2_with (go_at_call 127; refine (date_leap_s.calls a0 _ _ HL.out).mono ?_; rintro e w' ⟨rfl, ⟨nd, rfl⟩⟩)
        go_ret
        exact ⟨by rw [HD.out]; rfl, pw_below_drewN ((Below.refl _ _).alloc (Nat.le_refl _) _) _⟩
    all_goals
      go_enter Tryz.func92, Tryz.ntmps92
      go_wp2
      go_ret
      exact ⟨by rw [HD.out]; rfl, (Below.refl _ _).alloc (Nat.le_refl _) _⟩
  · have hd : M.days a0 a1 = 0 := by unfold M.days; rw [if_neg hin]
    rw [hd]
    exact date_Days.zero a0 a1 w (by omega)

/-! ### date_May: function 60 -/
def date_May.f (a0_0 : Int) (a0_1 : Int) (a0_2 : Int) : Option (Bool) := if a0_2 ≥ 1 then ((date_Days.f a0_0 a0_1).bind fun t402 => (some (decide (a0_2 ≤ t402)))) else (some false)
def date_May.T1 : Bool × List (List Nat × List Nat) := (true, [([], []), ([0], [0]), ([1], [1]), ([2], [2]), ([3], [3]), ([4, 3], [3, 4]), ([3], [3]), ([6, 3], [3, 6]), ([3], [3]), ([8, 3], [3, 8]), ([7, 9, 3, 3], [3, 7, 9]), ([5, 10, 3], [3, 5, 10]), ([3, 11], [3, 11]), ([12, 10, 0, 1, 2, 3, 4, 5, 6, 7, 8, 9, 10, 11, 12], [12])])
def date_May.B1 : List Nat := [0, 1, 3, 7, 15, 31, 15, 79, 15, 271, 975, 2047, 4095, 8191]
theorem date_May.tab1 : rtab .any (opsOf Tryz.f60 1) = date_May.T1 := by kernel_rfl
theorem date_May.bits1 : waitsOk date_May.T1.2 date_May.B1 = true := by kernel_rfl
set_option maxHeartbeats 8000000 in
set_option maxRecDepth 100000 in
theorem date_May.calls (a0_0 : Int) (a0_1 : Int) (a0_2 : Int) (r : Bool) (w : World) (h : date_May.f a0_0 a0_1 a0_2 = some r) :
    Calls Tryz.prog 60 #[.agg #[.int .i64 a0_0, .int .i64 a0_1, .int .i64 a0_2]] w fun e w' => e = .returned (.bool r) ∧ Below w.heap.size w w' := by
  have hu89 := Tryz.underlying89
  have HB := ka (Below.refl w.heap.size w)
  have H : (if a0_2 ≥ 1 then ((date_Days.f a0_0 a0_1).bind fun t402 => (some (decide (a0_2 ≤ t402)))) else (some false)) = some r := h
  clear h
  by_cases c2 : a0_2 ≥ 1
  · rw [if_pos c2] at H
    have c2b0 : decide (1 ≤ a0_2) = true := decide_eq_true c2
    clear c2
    replace H := Option.bind_eq_some_iff.mp H
    obtain ⟨t402, A30, H⟩ := H
    replace H : (some (decide (a0_2 ≤ t402))) = some r := H
    have A3 := ka A30
    clear A30
    obtain rfl := Option.some.inj H
    go_enter Tryz.func60, Tryz.ntmps60
    try go_wp2_with (first | ((with_reducible refine gate_dst (N := 1) rfl ?_); refine kx (N := 1) (cs := #[.int .i64 a0_0, .int .i64 a0_1, .int .i64 a0_2]) (t := 89) ?_; intro gb401 hg w4 hbox hb; have n0_ := ka (below_step (kw HB.out) hb); have n1_ := ka (hbox); have n2_ := ka ((by rw [hg]; exact (below_size (kw HB.out)) : w.heap.size ≤ gb401)); have n3_ := n2_; clear HB; have HB := n0_; have BK401 := n1_; have GW401 := n2_; have GE401 := n3_; clear n0_ n1_ n2_ n3_; clear hb hbox hg))
    replace BK401 := ka (blk_drew BK401.out)
    replace HB := ka (below_drew1 HB.out)
    refine start_ (n := 14) (S := fun w' => w'.cell? ⟨gb401, 0, none⟩ = some (.int .i64 a0_0) ∧ w'.cell? ⟨gb401, 1, none⟩ = some (.int .i64 a0_1) ∧ w'.cell? ⟨gb401, 2, none⟩ = some (.int .i64 a0_2)) (ds := []) #[false, false, false, false, false, false, false, false, false, false, false, false, false, false] (by kernel_rfl) rfl rfl ⟨(blk_cell BK401.out 0).trans rfl, (blk_cell BK401.out 1).trans rfl, (blk_cell BK401.out 2).trans rfl⟩ (fun hHeld => ?_); refine with_tabW date_May.tab1 date_May.bits1 (fun HT_ HW_ => ?_)
    generalize w4.drew = w5 at BK401 HB hHeld ⊢
    refine pure_ (i := 0) (N := some 3) (v := ?_) (a' := ?_) #[true, false, false, false, false, false, false, false, false, false, false, false, false, false] rfl rfl (any_of HT_.out (by kernel_rfl)) (fun _ _ _ h => h) (Or.inl ⟨by rfl, ?_⟩) ?_ ?_
    rotate_left
    · intro w'
      go_simp
      with_reducible rfl
    rotate_left
    · simp only [Act.put, List.setIfInBounds_toArray, List.set_cons_zero, List.set_cons_succ, i64_w, i32_w]
      rfl
    refine take_ (i := 1) (N := some 4) (v := ?_) (a' := ?_) #[true, true, false, false, false, false, false, false, false, false, false, false, false, false] rfl rfl (take_ofW HT_.out HW_.out (by kernel_rfl)) (fun _ _ _ h => h) (Or.inl ⟨by rfl, ?_⟩) hHeld ?_ ?_
    rotate_left
    · rintro w' ⟨s0, s1, s2⟩
      go_simp
      with_reducible rfl
    rotate_left
    · simp only [Act.put, List.setIfInBounds_toArray, List.set_cons_zero, List.set_cons_succ, i64_w, i32_w]
      rfl
    refine pure_ (i := 2) (N := some 5) (v := ?_) (a' := ?_) #[true, true, true, false, false, false, false, false, false, false, false, false, false, false] rfl rfl (any_of HT_.out (by kernel_rfl)) (fun _ _ _ h => h) (Or.inl ⟨by rfl, ?_⟩) ?_ ?_
    rotate_left
    · intro w'
      go_simp
      with_reducible rfl
    rotate_left
    · simp only [Act.put, List.setIfInBounds_toArray, List.set_cons_zero, List.set_cons_succ, i64_w, i32_w]
      rfl
    refine pure_ (i := 3) (N := some 6) (v := ?_) (a' := ?_) #[true, true, true, true, false, false, false, false, false, false, false, false, false, false] rfl rfl (any_of HT_.out (by kernel_rfl)) (fun _ _ _ h => h) (Or.inl ⟨by rfl, ?_⟩) ?_ ?_
    rotate_left
    · intro w'
      go_simp
      with_reducible rfl
    rotate_left
    · simp only [Act.put, List.setIfInBounds_toArray, List.set_cons_zero, List.set_cons_succ, i64_w, i32_w]
      rfl
    refine pure_ (i := 4) (N := some 7) (v := ?_) (a' := ?_) #[true, true, true, true, true, false, false, false, false, false, false, false, false, false] rfl rfl (any_of HT_.out (by kernel_rfl)) (fun _ _ _ h => h) (Or.inl ⟨by rfl, ?_⟩) ?_ ?_
    rotate_left
    · intro w'
      go_simp
      with_reducible rfl
    rotate_left
    · simp only [Act.put, List.setIfInBounds_toArray, List.set_cons_zero, List.set_cons_succ, i64_w, i32_w]
      rfl
    refine pure_ (i := 6) (N := some 9) (v := ?_) (a' := ?_) #[true, true, true, true, true, false, true, false, false, false, false, false, false, false] rfl rfl (any_of HT_.out (by kernel_rfl)) (fun _ _ _ h => h) (Or.inl ⟨by rfl, ?_⟩) ?_ ?_
    rotate_left
    · intro w'
      go_simp
      with_reducible rfl
    rotate_left
    · simp only [Act.put, List.setIfInBounds_toArray, List.set_cons_zero, List.set_cons_succ, i64_w, i32_w]
      rfl
    refine pure_ (i := 8) (N := some 11) (v := ?_) (a' := ?_) #[true, true, true, true, true, false, true, false, true, false, false, false, false, false] rfl rfl (any_of HT_.out (by kernel_rfl)) (fun _ _ _ h => h) (Or.inl ⟨by rfl, ?_⟩) ?_ ?_
    rotate_left
    · intro w'
      go_simp
      with_reducible rfl
    rotate_left
    · simp only [Act.put, List.setIfInBounds_toArray, List.set_cons_zero, List.set_cons_succ, i64_w, i32_w]
      rfl
    refine take_ (i := 5) (N := some 8) (v := ?_) (a' := ?_) #[true, true, true, true, true, true, true, false, true, false, false, false, false, false] rfl rfl (take_ofW HT_.out HW_.out (by kernel_rfl)) (fun _ _ _ h => h) (Or.inl ⟨by rfl, ?_⟩) hHeld ?_ ?_
    rotate_left
    · rintro w' ⟨s0, s1, s2⟩
      go_simp
      with_reducible rfl
    rotate_left
    · simp only [Act.put, List.setIfInBounds_toArray, List.set_cons_zero, List.set_cons_succ, i64_w, i32_w]
      rfl
    refine take_ (i := 7) (N := some 10) (v := ?_) (a' := ?_) #[true, true, true, true, true, true, true, true, true, false, false, false, false, false] rfl rfl (take_ofW HT_.out HW_.out (by kernel_rfl)) (fun _ _ _ h => h) (Or.inl ⟨by rfl, ?_⟩) hHeld ?_ ?_
    rotate_left
    · rintro w' ⟨s0, s1, s2⟩
      go_simp
      with_reducible rfl
    rotate_left
    · simp only [Act.put, List.setIfInBounds_toArray, List.set_cons_zero, List.set_cons_succ, i64_w, i32_w]
      rfl
    refine take_ (i := 9) (N := some 12) (v := ?_) (a' := ?_) #[true, true, true, true, true, true, true, true, true, true, false, false, false, false] rfl rfl (take_ofW HT_.out HW_.out (by kernel_rfl)) (fun _ _ _ h => h) (Or.inl ⟨by rfl, ?_⟩) hHeld ?_ ?_
    rotate_left
    · rintro w' ⟨s0, s1, s2⟩
      go_simp
      with_reducible rfl
    rotate_left
    · simp only [Act.put, List.setIfInBounds_toArray, List.set_cons_zero, List.set_cons_succ, i64_w, i32_w]
      rfl
    refine one_ (i := 10) (N := some 13) #[true, true, true, true, true, true, true, true, true, true, true, false, false, false] rfl rfl (one_of HT_.out (by kernel_rfl)) (by decide) (fun K hK => ?_)
    refine goes_ Tryz.func92 (by kernel_rfl) rfl #[.int .i64 a0_0, .int .i64 a0_1] (by rfl) rfl rfl (by (try simp only [List.map_toArray, List.map_cons, List.map_nil]); first | done | rfl | (simp only [List.length_drop, List.length_take]; rfl)) ?_
    with_reducible refine (date_Days.calls a0_0 a0_1 t402 _ A3.out).mono ?_
    rintro e w6 ⟨rfl, hb⟩
    refine ⟨_, rfl, ?_⟩
    replace BK401 := kbb BK401 hb
    replace HB := ka (below_step (kw HB.out) hb)
    (try clear hb)
    (try clear hb2)
    (try clear hk)
    (try clear hi)
    refine hK.out _ _ ⟨(blk_cell BK401.out 0).trans rfl, (blk_cell BK401.out 1).trans rfl, (blk_cell BK401.out 2).trans rfl⟩ (fun hHeld => ?_)
    clear hK K
    refine norm_ (a' := ?_) ?_ ?_
    rotate_left
    · show Act.put _ (some 13) _ = _
      simp only [Act.put, List.setIfInBounds_toArray, List.set_cons_zero, List.set_cons_succ, i64_w, i32_w]
      rfl
    refine pure_ (i := 11) (N := some 14) (v := ?_) (a' := ?_) #[true, true, true, true, true, true, true, true, true, true, true, true, false, false] rfl rfl (any_of HT_.out (by kernel_rfl)) (fun _ _ _ h => h) (Or.inl ⟨by rfl, ?_⟩) ?_ ?_
    rotate_left
    · intro w'
      go_simp
      with_reducible rfl
    rotate_left
    · simp only [Act.put, List.setIfInBounds_toArray, List.set_cons_zero, List.set_cons_succ, i64_w, i32_w]
      rfl
    refine pure_ (i := 12) (N := some 15) (v := ?_) (a' := ?_) #[true, true, true, true, true, true, true, true, true, true, true, true, true, false] rfl rfl (any_of HT_.out (by kernel_rfl)) (fun _ _ _ h => h) (Or.inl ⟨by rfl, ?_⟩) ?_ ?_
    rotate_left
    · intro w'
      go_simp
      with_reducible rfl
    rotate_left
    · simp only [Act.put, List.setIfInBounds_toArray, List.set_cons_zero, List.set_cons_succ, i64_w, i32_w]
      rfl
    refine pure_ (i := 13) (N := some 2) (v := ?_) (a' := ?_) #[true, true, true, true, true, true, true, true, true, true, true, true, true, true] rfl rfl (any_of HT_.out (by kernel_rfl)) (fun _ _ _ h => h) (Or.inl ⟨by rfl, ?_⟩) ?_ ?_
    rotate_left
    · intro w'
      go_simp
      with_reducible rfl
    rotate_left
    · simp only [Act.put, List.setIfInBounds_toArray, List.set_cons_zero, List.set_cons_succ, i64_w, i32_w]
      rfl
    refine done_ (done_of HT_.out (by kernel_rfl)) ?_
    try go_wp2
    go_ret
    exact ⟨by first | rfl | (simp [errW_none, errW_some] <;> rfl) | (simp [*, errW_none, errW_some] <;> rfl), by repeat (first | (with_reducible first | exact HB.out | apply kc1 | apply kc2 | apply kc3 | refine kc4 ?_ GE401.out) | exact HB.out)⟩
  · rw [if_neg c2] at H
    have c2b0 : decide (1 ≤ a0_2) = false := decide_eq_false c2
    clear c2
    obtain rfl := Option.some.inj H
    go_enter Tryz.func60, Tryz.ntmps60
    try go_wp2_with (first | ((with_reducible refine gate_dst (N := 1) rfl ?_); refine kx (N := 1) (cs := #[.int .i64 a0_0, .int .i64 a0_1, .int .i64 a0_2]) (t := 89) ?_; intro gb401 hg w7 hbox hb; have n0_ := ka (below_step (kw HB.out) hb); have n1_ := ka (hbox); have n2_ := ka ((by rw [hg]; exact (below_size (kw HB.out)) : w.heap.size ≤ gb401)); have n3_ := n2_; clear HB; have HB := n0_; have BK401 := n1_; have GW401 := n2_; have GE401 := n3_; clear n0_ n1_ n2_ n3_; clear hb hbox hg))
    replace BK401 := ka (blk_drew BK401.out)
    replace HB := ka (below_drew1 HB.out)
    refine start_ (n := 14) (S := fun w' => w'.cell? ⟨gb401, 0, none⟩ = some (.int .i64 a0_0) ∧ w'.cell? ⟨gb401, 1, none⟩ = some (.int .i64 a0_1) ∧ w'.cell? ⟨gb401, 2, none⟩ = some (.int .i64 a0_2)) (ds := []) #[false, false, false, false, false, false, false, false, false, false, false, false, false, false] (by kernel_rfl) rfl rfl ⟨(blk_cell BK401.out 0).trans rfl, (blk_cell BK401.out 1).trans rfl, (blk_cell BK401.out 2).trans rfl⟩ (fun hHeld => ?_); refine with_tabW date_May.tab1 date_May.bits1 (fun HT_ HW_ => ?_)
    generalize w7.drew = w8 at BK401 HB hHeld ⊢
    refine pure_ (i := 0) (N := some 3) (v := ?_) (a' := ?_) #[true, false, false, false, false, false, false, false, false, false, false, false, false, false] rfl rfl (any_of HT_.out (by kernel_rfl)) (fun _ _ _ h => h) (Or.inl ⟨by rfl, ?_⟩) ?_ ?_
    rotate_left
    · intro w'
      go_simp
      with_reducible rfl
    rotate_left
    · simp only [Act.put, List.setIfInBounds_toArray, List.set_cons_zero, List.set_cons_succ, i64_w, i32_w]
      rfl
    refine take_ (i := 1) (N := some 4) (v := ?_) (a' := ?_) #[true, true, false, false, false, false, false, false, false, false, false, false, false, false] rfl rfl (take_ofW HT_.out HW_.out (by kernel_rfl)) (fun _ _ _ h => h) (Or.inl ⟨by rfl, ?_⟩) hHeld ?_ ?_
    rotate_left
    · rintro w' ⟨s0, s1, s2⟩
      go_simp
      with_reducible rfl
    rotate_left
    · simp only [Act.put, List.setIfInBounds_toArray, List.set_cons_zero, List.set_cons_succ, i64_w, i32_w]
      rfl
    refine pure_ (i := 2) (N := some 5) (v := ?_) (a' := ?_) #[true, true, true, false, false, false, false, false, false, false, false, false, false, false] rfl rfl (any_of HT_.out (by kernel_rfl)) (fun _ _ _ h => h) (Or.inl ⟨by rfl, ?_⟩) ?_ ?_
    rotate_left
    · intro w'
      go_simp
      with_reducible rfl
    rotate_left
    · simp only [Act.put, List.setIfInBounds_toArray, List.set_cons_zero, List.set_cons_succ, i64_w, i32_w]
      rfl
    refine pure_ (i := 3) (N := some 6) (v := ?_) (a' := ?_) #[true, true, true, true, false, false, false, false, false, false, false, false, false, false] rfl rfl (any_of HT_.out (by kernel_rfl)) (fun _ _ _ h => h) (Or.inl ⟨by rfl, ?_⟩) ?_ ?_
    rotate_left
    · intro w'
      go_simp
      with_reducible rfl
    rotate_left
    · simp only [Act.put, List.setIfInBounds_toArray, List.set_cons_zero, List.set_cons_succ, i64_w, i32_w]
      rfl
    refine pure_ (i := 4) (N := some 7) (v := undef) (a' := ?_) #[true, true, true, true, true, false, false, false, false, false, false, false, false, false] rfl rfl (any_of HT_.out (by kernel_rfl)) (fun _ _ _ h => h) (Or.inr ⟨by rfl, rfl⟩) ?_ ?_
    rotate_left
    · simp only [Act.put, List.setIfInBounds_toArray, List.set_cons_zero, List.set_cons_succ, i64_w, i32_w]
      rfl
    refine pure_ (i := 5) (N := some 8) (v := undef) (a' := ?_) #[true, true, true, true, true, true, false, false, false, false, false, false, false, false] rfl rfl (any_of HT_.out (by kernel_rfl)) (fun _ _ _ h => h) (Or.inr ⟨by rfl, rfl⟩) ?_ ?_
    rotate_left
    · simp only [Act.put, List.setIfInBounds_toArray, List.set_cons_zero, List.set_cons_succ, i64_w, i32_w]
      rfl
    refine pure_ (i := 6) (N := some 9) (v := undef) (a' := ?_) #[true, true, true, true, true, true, true, false, false, false, false, false, false, false] rfl rfl (any_of HT_.out (by kernel_rfl)) (fun _ _ _ h => h) (Or.inr ⟨by rfl, rfl⟩) ?_ ?_
    rotate_left
    · simp only [Act.put, List.setIfInBounds_toArray, List.set_cons_zero, List.set_cons_succ, i64_w, i32_w]
      rfl
    refine pure_ (i := 7) (N := some 10) (v := undef) (a' := ?_) #[true, true, true, true, true, true, true, true, false, false, false, false, false, false] rfl rfl (any_of HT_.out (by kernel_rfl)) (fun _ _ _ h => h) (Or.inr ⟨by rfl, rfl⟩) ?_ ?_
    rotate_left
    · simp only [Act.put, List.setIfInBounds_toArray, List.set_cons_zero, List.set_cons_succ, i64_w, i32_w]
      rfl
    refine pure_ (i := 8) (N := some 11) (v := undef) (a' := ?_) #[true, true, true, true, true, true, true, true, true, false, false, false, false, false] rfl rfl (any_of HT_.out (by kernel_rfl)) (fun _ _ _ h => h) (Or.inr ⟨by rfl, rfl⟩) ?_ ?_
    rotate_left
    · simp only [Act.put, List.setIfInBounds_toArray, List.set_cons_zero, List.set_cons_succ, i64_w, i32_w]
      rfl
    refine pure_ (i := 9) (N := some 12) (v := undef) (a' := ?_) #[true, true, true, true, true, true, true, true, true, true, false, false, false, false] rfl rfl (any_of HT_.out (by kernel_rfl)) (fun _ _ _ h => h) (Or.inr ⟨by rfl, rfl⟩) ?_ ?_
    rotate_left
    · simp only [Act.put, List.setIfInBounds_toArray, List.set_cons_zero, List.set_cons_succ, i64_w, i32_w]
      rfl
    refine pure_ (i := 10) (N := some 13) (v := undef) (a' := ?_) #[true, true, true, true, true, true, true, true, true, true, true, false, false, false] rfl rfl (any_of HT_.out (by kernel_rfl)) (fun _ _ _ h => h) (Or.inr ⟨by rfl, rfl⟩) ?_ ?_
    rotate_left
    · simp only [Act.put, List.setIfInBounds_toArray, List.set_cons_zero, List.set_cons_succ, i64_w, i32_w]
      rfl
    refine pure_ (i := 11) (N := some 14) (v := undef) (a' := ?_) #[true, true, true, true, true, true, true, true, true, true, true, true, false, false] rfl rfl (any_of HT_.out (by kernel_rfl)) (fun _ _ _ h => h) (Or.inr ⟨by rfl, rfl⟩) ?_ ?_
    rotate_left
    · simp only [Act.put, List.setIfInBounds_toArray, List.set_cons_zero, List.set_cons_succ, i64_w, i32_w]
      rfl
    refine pure_ (i := 12) (N := some 15) (v := ?_) (a' := ?_) #[true, true, true, true, true, true, true, true, true, true, true, true, true, false] rfl rfl (any_of HT_.out (by kernel_rfl)) (fun _ _ _ h => h) (Or.inl ⟨by rfl, ?_⟩) ?_ ?_
    rotate_left
    · intro w'
      go_simp
      with_reducible rfl
    rotate_left
    · simp only [Act.put, List.setIfInBounds_toArray, List.set_cons_zero, List.set_cons_succ, i64_w, i32_w]
      rfl
    refine pure_ (i := 13) (N := some 2) (v := ?_) (a' := ?_) #[true, true, true, true, true, true, true, true, true, true, true, true, true, true] rfl rfl (any_of HT_.out (by kernel_rfl)) (fun _ _ _ h => h) (Or.inl ⟨by rfl, ?_⟩) ?_ ?_
    rotate_left
    · intro w'
      go_simp
      with_reducible rfl
    rotate_left
    · simp only [Act.put, List.setIfInBounds_toArray, List.set_cons_zero, List.set_cons_succ, i64_w, i32_w]
      rfl
    refine done_ (done_of HT_.out (by kernel_rfl)) ?_
    try go_wp2
    go_ret
    exact ⟨by first | rfl | (simp [errW_none, errW_some] <;> rfl) | (simp [*, errW_none, errW_some] <;> rfl), by repeat (first | (with_reducible first | exact HB.out | apply kc1 | apply kc2 | apply kc3 | refine kc4 ?_ GE401.out) | exact HB.out)⟩

/-! ### date_May_s: function 60, told plainly -/
theorem date_May.tells (y m d : Int) : date_May.f y m d = some (decide (M.date y m d)) := by
  unfold date_May.f date_Days.f M.date
  by_cases h : d ≥ 1
  · rw [if_pos h, Option.bind_some]
    simp [h]
  · rw [if_neg h]
    simp [show ¬ 1 ≤ d by omega]
def date_May_s.f (y m d : Int) : Option Bool := some (decide (M.date y m d))
theorem date_May_s.calls (a0_0 : Int) (a0_1 : Int) (a0_2 : Int) (r : Bool) (w : World) (h : date_May_s.f a0_0 a0_1 a0_2 = some r) :
    Calls Tryz.prog 60 #[.agg #[.int .i64 a0_0, .int .i64 a0_1, .int .i64 a0_2]] w fun e w' => e = .returned (.bool r) ∧ Below w.heap.size w w' := by
  exact date_May.calls a0_0 a0_1 a0_2 r w ((date_May.tells a0_0 a0_1 a0_2).trans h)

/-! ### date_civil: function 61 -/
def date_civil.f (a0 : Int) (a1 : Int) (a2 : Int) : Option (Int) := if a1 ≤ 2 then (some (wrap64 ((wrap64 ((wrap64 ((wrap64 ((wrap64 ((wrap64 ((wrap64 ((wrap64 ((wrap64 (Int.tdiv (wrap64 (a0 - 1)) 400)) * 146097)) + (wrap64 ((Int.tmod (wrap64 (a0 - 1)) 400) * 365)))) + (wrap64 (Int.tdiv (Int.tmod (wrap64 (a0 - 1)) 400) 4)))) - (wrap64 (Int.tdiv (Int.tmod (wrap64 (a0 - 1)) 400) 100)))) + (wrap64 (Int.tdiv (wrap64 ((wrap64 (153 * (wrap64 ((wrap64 (a1 + 12)) - 3)))) + 2)) 5)))) + a2)) - 1)) - 719468))) else (some (wrap64 ((wrap64 ((wrap64 ((wrap64 ((wrap64 ((wrap64 ((wrap64 ((wrap64 ((wrap64 (Int.tdiv a0 400)) * 146097)) + (wrap64 ((Int.tmod a0 400) * 365)))) + (wrap64 (Int.tdiv (Int.tmod a0 400) 4)))) - (wrap64 (Int.tdiv (Int.tmod a0 400) 100)))) + (wrap64 (Int.tdiv (wrap64 ((wrap64 (153 * (wrap64 (a1 - 3)))) + 2)) 5)))) + a2)) - 1)) - 719468)))
set_option maxHeartbeats 8000000 in
set_option maxRecDepth 100000 in
theorem date_civil.calls (a0 : Int) (a1 : Int) (a2 : Int) (r : Int) (w : World) (h : date_civil.f a0 a1 a2 = some r) :
    Calls Tryz.prog 61 #[.int .i64 a0, .int .i64 a1, .int .i64 a2] w fun e w' => e = .returned (.int .i64 r) ∧ Drawn0 w w' := by
  have H : (if a1 ≤ 2 then (some (wrap64 ((wrap64 ((wrap64 ((wrap64 ((wrap64 ((wrap64 ((wrap64 ((wrap64 ((wrap64 (Int.tdiv (wrap64 (a0 - 1)) 400)) * 146097)) + (wrap64 ((Int.tmod (wrap64 (a0 - 1)) 400) * 365)))) + (wrap64 (Int.tdiv (Int.tmod (wrap64 (a0 - 1)) 400) 4)))) - (wrap64 (Int.tdiv (Int.tmod (wrap64 (a0 - 1)) 400) 100)))) + (wrap64 (Int.tdiv (wrap64 ((wrap64 (153 * (wrap64 ((wrap64 (a1 + 12)) - 3)))) + 2)) 5)))) + a2)) - 1)) - 719468))) else (some (wrap64 ((wrap64 ((wrap64 ((wrap64 ((wrap64 ((wrap64 ((wrap64 ((wrap64 ((wrap64 (Int.tdiv a0 400)) * 146097)) + (wrap64 ((Int.tmod a0 400) * 365)))) + (wrap64 (Int.tdiv (Int.tmod a0 400) 4)))) - (wrap64 (Int.tdiv (Int.tmod a0 400) 100)))) + (wrap64 (Int.tdiv (wrap64 ((wrap64 (153 * (wrap64 (a1 - 3)))) + 2)) 5)))) + a2)) - 1)) - 719468)))) = some r := h
  clear h
  by_cases c4 : a1 ≤ 2
  · rw [if_pos c4] at H
    have c4b0 : decide (a1 ≤ 2) = true := decide_eq_true c4
    clear c4
    obtain rfl := Option.some.inj H
    go_enter Tryz.func61, Tryz.ntmps61
    go_wp2
    go_ret
    exact ⟨by first | rfl | (simp; done) | (simp [*]; done), by repeat (first | exact Drawn0.refl _ | apply Drawn0.step)⟩
  · rw [if_neg c4] at H
    have c4b0 : decide (a1 ≤ 2) = false := decide_eq_false c4
    clear c4
    obtain rfl := Option.some.inj H
    go_enter Tryz.func61, Tryz.ntmps61
    go_wp2
    go_ret
    exact ⟨by first | rfl | (simp; done) | (simp [*]; done), by repeat (first | exact Drawn0.refl _ | apply Drawn0.step)⟩

/-! ### date_civil_s: function 61, told plainly -/
theorem date_civil.tells (y m d : Int) (h : 1900 ≤ y ∧ y ≤ 2199 ∧ 1 ≤ m ∧ m ≤ 12 ∧ 1 ≤ d ∧ d ≤ 31) : date_civil.f y m d = some (M.civ y m d) := by
  unfold date_civil.f M.civ
  by_cases h2 : m ≤ 2
  · rw [if_pos h2, if_pos h2]
    rw [M.w64_id (n := y - 1) (by omega) (by omega), M.tdivu (a := y - 1) (by omega), M.tmodu (a := y - 1) (by omega)]
    rw [M.w64_id (n := (y - 1) / 400) (by omega) (by omega), M.tdivu (a := (y - 1) % 400) (by omega), M.tdivu (a := (y - 1) % 400) (by omega)]
    rw [M.w64_id (n := m + 12) (by omega) (by omega), M.w64_id (n := m + 12 - 3) (by omega) (by omega), M.w64_id (n := 153 * (m + 12 - 3)) (by omega) (by omega), M.w64_id (n := 153 * (m + 12 - 3) + 2) (by omega) (by omega), M.tdivu (a := 153 * (m + 12 - 3) + 2) (by omega)]
    simp only [wrap64]
    refine congrArg some ?_
    omega
  · rw [if_neg h2, if_neg h2]
    rw [M.tdivu (a := y) (by omega), M.tmodu (a := y) (by omega)]
    rw [M.w64_id (n := y / 400) (by omega) (by omega), M.tdivu (a := y % 400) (by omega), M.tdivu (a := y % 400) (by omega)]
    rw [M.w64_id (n := m - 3) (by omega) (by omega), M.w64_id (n := 153 * (m - 3)) (by omega) (by omega), M.w64_id (n := 153 * (m - 3) + 2) (by omega) (by omega), M.tdivu (a := 153 * (m - 3) + 2) (by omega)]
    simp only [wrap64]
    refine congrArg some ?_
    omega
def date_civil_s.f (y m d : Int) : Option Int := if 1900 ≤ y ∧ y ≤ 2199 ∧ 1 ≤ m ∧ m ≤ 12 ∧ 1 ≤ d ∧ d ≤ 31 then some (M.civ y m d) else none
theorem date_civil_s.calls (a0 : Int) (a1 : Int) (a2 : Int) (r : Int) (w : World) (h : date_civil_s.f a0 a1 a2 = some r) :
    Calls Tryz.prog 61 #[.int .i64 a0, .int .i64 a1, .int .i64 a2] w fun e w' => e = .returned (.int .i64 r) ∧ Drawn0 w w' := by
  unfold date_civil_s.f at h
  split at h
  · rename_i hr
    exact date_civil.calls a0 a1 a2 r w ((date_civil.tells a0 a1 a2 hr).trans h)
  · cases h

/-! ### date_Number: function 35 -/
def date_Number.f (a0_0 : Int) (a0_1 : Int) (a0_2 : Int) : Option (Int × Option Int) := (date_May_s.f a0_0 a0_1 a0_2).bind fun t404 => (if t404 = true then ((date_civil_s.f a0_0 a0_1 a0_2).bind fun t405 => (some (t405, none))) else (some (0, some 2)))
set_option maxHeartbeats 8000000 in
set_option maxRecDepth 100000 in
theorem date_Number.calls (a0_0 : Int) (a0_1 : Int) (a0_2 : Int) (r1 : Int) (r2 : Option Int) (w : World) (h : date_Number.f a0_0 a0_1 a0_2 = some (r1, r2)) :
    Calls Tryz.prog 35 #[.agg #[.int .i64 a0_0, .int .i64 a0_1, .int .i64 a0_2]] w fun e w' => e = .returned (.tuple #[.int .i64 r1, errW r2]) ∧ Below w.heap.size w w' := by
  have hu89 := Tryz.underlying89
  have hu27 := Tryz.underlying27
  have hu31 := Tryz.underlying31
  have HB := ka (Below.refl w.heap.size w)
  have H : ((date_May_s.f a0_0 a0_1 a0_2).bind fun t404 => (if t404 = true then ((date_civil_s.f a0_0 a0_1 a0_2).bind fun t405 => (some (t405, none))) else (some (0, some 2)))) = some (r1, r2) := h
  clear h
  replace H := Option.bind_eq_some_iff.mp H
  obtain ⟨t404, A20, H⟩ := H
  replace H : (if t404 = true then ((date_civil_s.f a0_0 a0_1 a0_2).bind fun t405 => (some (t405, none))) else (some (0, some 2))) = some (r1, r2) := H
  have A2 := ka A20
  clear A20
  by_cases c3 : t404 = true
  · subst c3
    have H1 : ((date_civil_s.f a0_0 a0_1 a0_2).bind fun t405 => (some (t405, none))) = some (r1, r2) := by rw [if_pos rfl] at H; exact H
    clear H
    have H := H1
    clear H1
    replace H := Option.bind_eq_some_iff.mp H
    obtain ⟨t405, A40, H⟩ := H
    replace H : (some (t405, none)) = some (r1, r2) := H
    have A4 := ka A40
    clear A40
    simp only [Option.some.injEq, Prod.mk.injEq] at H
    obtain ⟨rfl, rfl⟩ := H
    go_enter Tryz.func35, Tryz.ntmps35
    go_wp2_with (first | ((with_reducible refine gate_dst (N := 1) rfl ?_); refine kx (N := 1) (cs := #[.int .i64 a0_0, .int .i64 a0_1, .int .i64 a0_2]) (t := 89) ?_; intro gb403 hg w5 hbox hb; have n0_ := ka (below_step (kw HB.out) hb); have n1_ := ka (hbox); have n2_ := ka ((by rw [hg]; exact (below_size (kw HB.out)) : w.heap.size ≤ gb403)); have n3_ := n2_; clear HB; have HB := n0_; have BK403 := n1_; have GW403 := n2_; have GE403 := n3_; clear n0_ n1_ n2_ n3_; clear hb hbox hg; have hcz6 := blkAll3 BK403.out) | ((with_reducible refine gate_callee (f := 60) rfl ?_); refine kg (some 5) rfl rfl Tryz.func60 (by kernel_rfl) rfl #[.agg #[.int .i64 a0_0, .int .i64 a0_1, .int .i64 a0_2]] rfl ?_; (with_reducible refine (date_May_s.calls a0_0 a0_1 a0_2 true _ A2.out).mono ?_); rintro e w7 ⟨rfl, hb⟩; refine ⟨_, rfl, ?_⟩; replace BK403 := kbb BK403 hb; replace HB := ka (below_step (kw HB.out) hb); (try clear hb); (try clear hb2); (try clear hk); (try clear hi); have hcz8 := blkAll3 BK403.out) | ((with_reducible refine gate_callee (f := 61) rfl ?_); refine kg (some 14) rfl rfl Tryz.func61 (by kernel_rfl) rfl #[.int .i64 a0_0, .int .i64 a0_1, .int .i64 a0_2] rfl ?_; (with_reducible refine (date_civil_s.calls a0_0 a0_1 a0_2 t405 _ A4.out).mono ?_); rintro e w' ⟨rfl, ⟨nd, rfl⟩⟩; refine ⟨_, rfl, ?_⟩))
    go_ret2
    exact ⟨by first | rfl | (simp [errW_none, errW_some] <;> rfl) | (simp [*, errW_none, errW_some] <;> rfl), by repeat (first | (with_reducible first | exact HB.out | apply kc1 | apply kc2 | apply kc3 | refine kc4 ?_ GE403.out) | exact HB.out)⟩
  · replace c3 := Bool.eq_false_iff.mpr c3
    subst c3
    have H1 : (some (0, some 2)) = some (r1, r2) := by rw [if_neg (show ¬ (false = true) by decide)] at H; exact H
    clear H
    have H := H1
    clear H1
    simp only [Option.some.injEq, Prod.mk.injEq] at H
    obtain ⟨rfl, rfl⟩ := H
    go_enter Tryz.func35, Tryz.ntmps35
    go_wp2_with (first | ((with_reducible refine gate_dst (N := 1) rfl ?_); refine kx (N := 1) (cs := #[.int .i64 a0_0, .int .i64 a0_1, .int .i64 a0_2]) (t := 89) ?_; intro gb403 hg w9 hbox hb; have n0_ := ka (below_step (kw HB.out) hb); have n1_ := ka (hbox); have n2_ := ka ((by rw [hg]; exact (below_size (kw HB.out)) : w.heap.size ≤ gb403)); have n3_ := n2_; clear HB; have HB := n0_; have BK403 := n1_; have GW403 := n2_; have GE403 := n3_; clear n0_ n1_ n2_ n3_; clear hb hbox hg; have hcz10 := blkAll3 BK403.out) | ((with_reducible refine gate_callee (f := 60) rfl ?_); refine kg (some 5) rfl rfl Tryz.func60 (by kernel_rfl) rfl #[.agg #[.int .i64 a0_0, .int .i64 a0_1, .int .i64 a0_2]] rfl ?_; (with_reducible refine (date_May_s.calls a0_0 a0_1 a0_2 false _ A2.out).mono ?_); rintro e w11 ⟨rfl, hb⟩; refine ⟨_, rfl, ?_⟩; replace BK403 := kbb BK403 hb; replace HB := ka (below_step (kw HB.out) hb); (try clear hb); (try clear hb2); (try clear hk); (try clear hi)))
    go_ret2
    exact ⟨by first | rfl | (simp [errW_none, errW_some] <;> rfl) | (simp [*, errW_none, errW_some] <;> rfl), by repeat (first | (with_reducible first | exact HB.out | apply kc1 | apply kc2 | apply kc3 | refine kc4 ?_ GE403.out) | exact HB.out)⟩

/-! ### date_Number_s: function 35, told plainly -/
theorem date_Number.tells (y m d : Int) : date_Number.f y m d = some (if M.date y m d then (M.civ y m d, none) else (0, some 2)) := by
  unfold date_Number.f date_May_s.f
  rw [Option.bind_some]
  by_cases h : M.date y m d
  · have a := M.date_in h
    rw [if_pos (decide_eq_true h), if_pos h]
    unfold date_civil_s.f
    rw [if_pos (by omega)]
    rfl
  · rw [if_neg (by simpa using h), if_neg h]
def date_Number_s.f (y m d : Int) : Option (Int × Option Int) := some (if M.date y m d then (M.civ y m d, none) else (0, some 2))
theorem date_Number_s.calls (a0_0 : Int) (a0_1 : Int) (a0_2 : Int) (r1 : Int) (r2 : Option Int) (w : World) (h : date_Number_s.f a0_0 a0_1 a0_2 = some (r1, r2)) :
    Calls Tryz.prog 35 #[.agg #[.int .i64 a0_0, .int .i64 a0_1, .int .i64 a0_2]] w fun e w' => e = .returned (.tuple #[.int .i64 r1, errW r2]) ∧ Below w.heap.size w w' := by
  exact date_Number.calls a0_0 a0_1 a0_2 r1 r2 w ((date_Number.tells a0_0 a0_1 a0_2).trans h)
theorem date_Number_s.yes {y m d : Int} (h : M.date y m d) : date_Number_s.f y m d = some (M.civ y m d, none) := by unfold date_Number_s.f; rw [if_pos h]
theorem date_Number_s.no {y m d : Int} (h : ¬ M.date y m d) : date_Number_s.f y m d = some (0, some 2) := by unfold date_Number_s.f; rw [if_neg h]

/-! ### date_Of_s: function 103 -/
def date_Of_s.f (n : Int) : Option (Int × Int × Int × Option Int) := if M.In n then some (if -25567 ≤ n ∧ n ≤ 84005 then (M.yr n, M.mo n, M.dy n, none) else (0, 0, 0, some 1)) else none
theorem date_Of_s.civ_any (y m d : Int) (w : World) (h : 1900 ≤ y ∧ y ≤ 2199 ∧ 1 ≤ m ∧ m ≤ 12 ∧ 1 ≤ d ∧ d ≤ 31) :
    Calls Tryz.prog 61 #[.int .i64 y, .int .i64 m, .int .i64 d] w fun e w' => e = .returned (.int .i64 (M.civ y m d)) ∧ Drawn0 w w' :=
  date_civil_s.calls y m d _ w (by unfold date_civil_s.f; rw [if_pos h])
theorem date_Of_s.below1 {w w1 : World} {g : Nat} {v : Value} {j : Nat} (h : Below w.heap.size w w1) (hg : w.heap.size ≤ g) : Below w.heap.size w (w1.setCell ⟨g, j, none⟩ v) := below_set h hg
set_option maxHeartbeats 4000000 in
set_option maxRecDepth 100000 in
theorem date_Of_s.walk0 (n E e Y D Q : Int) (w : World) (h0 : -25567 ≤ n) (h1 : n ≤ 84005)
   (q1 : (n + 719468) / 146097 = E) (q2 : (n + 719468) % 146097 = e) (q3 : (e - e / 1460 + e / 36524 - e / 146096) / 365 = Y) (q4 : e - (365 * Y + Y / 4 - Y / 100) = D) (q5 : (5 * D + 2) / 153 = Q)
   (bE0 : 0 ≤ E) (bE1 : E ≤ 6) (be0 : 0 ≤ e) (be1 : e ≤ 146096) (bY0 : 0 ≤ Y) (bY1 : Y ≤ 400) (bD0 : 0 ≤ D) (bD1 : D ≤ 366) (bQ0 : 0 ≤ Q) (bQ1 : Q ≤ 12) (h2 : ¬ 12 < Q + 3) :
    Calls Tryz.prog 103 #[.int .i64 n] w fun e w' => e = .returned (.tuple #[.agg #[.int .i64 (E * 400 + Y), .int .i64 (Q + 3), .int .i64 (D - (153 * Q + 2) / 5 + 1)], errW none]) ∧ Below w.heap.size w w' := by
  have b1 : decide (n < -25567) = false := decide_eq_false (by omega)
  have b2 : decide (84005 < n) = false := decide_eq_false (by omega)
  have b3 : decide (12 < Q + 3) = false := decide_eq_false (by omega)
  have c0 : M.civ 1900 1 1 = -25567 := by decide
  have c1 : M.civ 2199 12 31 = 84005 := by decide
  go_enter Tryz.func103, Tryz.ntmps103
  go_wp2_with (go_at_call 61; refine (date_Of_s.civ_any _ _ _ _ (by decide)).mono ?_; rintro e w' ⟨rfl, ⟨nd, rfl⟩⟩)
  refine bodyPost_ret (v := .tuple #[.agg #[.int .i64 (E * 400 + Y), .int .i64 (Q + 3), .int .i64 (D - (153 * Q + 2) / 5 + 1)], errW none]) (by simp [results, Tryz.results103, go_sem, errW_none]) rfl ⟨rfl, ?_⟩
  repeat (first | exact Below.refl _ _ | refine below_alloc ?_ _ | refine pw_below_drewN ?_ _ | refine date_Of_s.below1 ?_ (by simp))
set_option maxHeartbeats 4000000 in
set_option maxRecDepth 100000 in
theorem date_Of_s.walk1 (n E e Y D Q : Int) (w : World) (h0 : -25567 ≤ n) (h1 : n ≤ 84005)
   (q1 : (n + 719468) / 146097 = E) (q2 : (n + 719468) % 146097 = e) (q3 : (e - e / 1460 + e / 36524 - e / 146096) / 365 = Y) (q4 : e - (365 * Y + Y / 4 - Y / 100) = D) (q5 : (5 * D + 2) / 153 = Q)
   (bE0 : 0 ≤ E) (bE1 : E ≤ 6) (be0 : 0 ≤ e) (be1 : e ≤ 146096) (bY0 : 0 ≤ Y) (bY1 : Y ≤ 400) (bD0 : 0 ≤ D) (bD1 : D ≤ 366) (bQ0 : 0 ≤ Q) (bQ1 : Q ≤ 12) (h2 : 12 < Q + 3) :
    Calls Tryz.prog 103 #[.int .i64 n] w fun e w' => e = .returned (.tuple #[.agg #[.int .i64 (E * 400 + Y + 1), .int .i64 (Q + 3 - 12), .int .i64 (D - (153 * Q + 2) / 5 + 1)], errW none]) ∧ Below w.heap.size w w' := by
  have b1 : decide (n < -25567) = false := decide_eq_false (by omega)
  have b2 : decide (84005 < n) = false := decide_eq_false (by omega)
  have b3 : decide (12 < Q + 3) = true := decide_eq_true (by omega)
  have c0 : M.civ 1900 1 1 = -25567 := by decide
  have c1 : M.civ 2199 12 31 = 84005 := by decide
  go_enter Tryz.func103, Tryz.ntmps103
  go_wp2_with (go_at_call 61; refine (date_Of_s.civ_any _ _ _ _ (by decide)).mono ?_; rintro e w' ⟨rfl, ⟨nd, rfl⟩⟩)
  refine bodyPost_ret (v := .tuple #[.agg #[.int .i64 (E * 400 + Y + 1), .int .i64 (Q + 3 - 12), .int .i64 (D - (153 * Q + 2) / 5 + 1)], errW none]) (by simp [results, Tryz.results103, go_sem, errW_none]) rfl ⟨rfl, ?_⟩
  repeat (first | exact Below.refl _ _ | refine below_alloc ?_ _ | refine pw_below_drewN ?_ _ | refine date_Of_s.below1 ?_ (by simp))
set_option maxHeartbeats 4000000 in
set_option maxRecDepth 100000 in
theorem date_Of_s.walk2 (n : Int) (w : World) (h : n < -25567 ∨ 84005 < n) :
    Calls Tryz.prog 103 #[.int .i64 n] w fun e w' => e = .returned (.tuple #[.agg #[.int .i64 0, .int .i64 0, .int .i64 0], errW (some 1)]) ∧ Below w.heap.size w w' := by
  have c0 : M.civ 1900 1 1 = -25567 := by decide
  have c1 : M.civ 2199 12 31 = 84005 := by decide
  by_cases h1 : n < -25567
  · have b1 : decide (n < -25567) = true := decide_eq_true h1
    clear h
    go_enter Tryz.func103, Tryz.ntmps103
    go_wp2_with (go_at_call 61; refine (date_Of_s.civ_any _ _ _ _ (by decide)).mono ?_; rintro e w' ⟨rfl, ⟨nd, rfl⟩⟩)
    refine bodyPost_ret (v := .tuple #[.agg #[.int .i64 0, .int .i64 0, .int .i64 0], errW (some 1)]) (by simp [results, Tryz.results103, go_sem, errW_some]) rfl ⟨rfl, ?_⟩
    repeat (first | exact Below.refl _ _ | refine below_alloc ?_ _ | refine pw_below_drewN ?_ _ | refine date_Of_s.below1 ?_ (by simp))
  · have b1 : decide (n < -25567) = false := decide_eq_false h1
    have b2 : decide (84005 < n) = true := decide_eq_true (by omega)
    clear h
    go_enter Tryz.func103, Tryz.ntmps103
    go_wp2_with (go_at_call 61; refine (date_Of_s.civ_any _ _ _ _ (by decide)).mono ?_; rintro e w' ⟨rfl, ⟨nd, rfl⟩⟩)
    refine bodyPost_ret (v := .tuple #[.agg #[.int .i64 0, .int .i64 0, .int .i64 0], errW (some 1)]) (by simp [results, Tryz.results103, go_sem, errW_some]) rfl ⟨rfl, ?_⟩
    repeat (first | exact Below.refl _ _ | refine below_alloc ?_ _ | refine pw_below_drewN ?_ _ | refine date_Of_s.below1 ?_ (by simp))
theorem date_Of_s.calls (n : Int) (r1 r2 r3 : Int) (r4 : Option Int) (w : World) (h : date_Of_s.f n = some (r1, r2, r3, r4)) :
    Calls Tryz.prog 103 #[.int .i64 n] w fun e w' => e = .returned (.tuple #[.agg #[.int .i64 r1, .int .i64 r2, .int .i64 r3], errW r4]) ∧ Below w.heap.size w w' := by
  unfold date_Of_s.f at h
  split at h
  case isFalse => cases h
  injection h with h
  by_cases hin : -25567 ≤ n ∧ n ≤ 84005
  · rw [if_pos hin] at h
    simp only [Prod.mk.injEq] at h
    obtain ⟨rfl, rfl, rfl, rfl⟩ := h
    obtain ⟨g1, g2⟩ := M.dateOf hin.1 hin.2
    have g3 := M.date_in g1
    have e0 := Int.emod_nonneg (n + 719468) (show (146097 : Int) ≠ 0 by decide)
    have e1 := Int.emod_lt_of_pos (n + 719468) (show (0 : Int) < 146097 by decide)
    have bd : 0 ≤ M.yr0 n ∧ M.yr0 n ≤ 400 ∧ 0 ≤ M.dy0 n ∧ M.dy0 n ≤ 366 ∧ 0 ≤ M.mo0 n ∧ M.mo0 n ≤ 12 := M.of_bd hin.1 hin.2
    unfold M.yr M.mo M.dy
    by_cases h12 : M.mo0 n + 3 > 12
    · rw [if_pos h12, if_pos h12]
      exact date_Of_s.walk1 n _ _ (M.yr0 n) (M.dy0 n) (M.mo0 n) w hin.1 hin.2 rfl rfl rfl rfl rfl (by omega) (by omega) (by omega) (by omega) (by omega) (by omega) (by omega) (by omega) (by omega) (by omega) h12
    · rw [if_neg h12, if_neg h12]
      exact date_Of_s.walk0 n _ _ (M.yr0 n) (M.dy0 n) (M.mo0 n) w hin.1 hin.2 rfl rfl rfl rfl rfl (by omega) (by omega) (by omega) (by omega) (by omega) (by omega) (by omega) (by omega) (by omega) (by omega) h12
  · rw [if_neg hin] at h
    simp only [Prod.mk.injEq] at h
    obtain ⟨rfl, rfl, rfl, rfl⟩ := h
    exact date_Of_s.walk2 n w (by omega)
theorem date_Of_s.yes {n : Int} (h : -25567 ≤ n ∧ n ≤ 84005) : date_Of_s.f n = some (M.yr n, M.mo n, M.dy n, none) := by unfold date_Of_s.f; rw [if_pos (by unfold M.In; omega), if_pos h]
theorem date_Of_s.no {n : Int} (hn : M.In n) (h : ¬ (-25567 ≤ n ∧ n ≤ 84005)) : date_Of_s.f n = some (0, 0, 0, some 1) := by unfold date_Of_s.f; rw [if_pos hn, if_neg h]

end Go.Proofs.YtbbhdlbpefibeaaGreatDoor.P
