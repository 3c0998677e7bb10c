-- Written by a program of this session out of the translation of the seat: Lean functions and the proofs that the Go functions come to them.
import Derived.Test.YtfkokgnfciifgaaPx0
import Derived.Test.YtfkokgnfciifgaaPx1
import Derived.Test.YtfkokgnfciifgaaPx3
namespace Go.Proofs.Ytfkokgnfciifgaa.P
open Go.RowKit Go.Proofs.YtfkokgnfciifgaaW.PrintWords Go.Proofs.YtfkokgnfciifgaaW.PrintLast Go.Proofs.YtfkokgnfciifgaaW.PrintMore
attribute [local go_sem] max2_int min2_int max_two min_two max_three min_three max_four min_four   -- for this text's walks alone
set_option linter.unusedVariables false
set_option linter.unusedSimpArgs false

/-! ### rate_Level: function 17 -/
mutual
def rate_Level.j0 : Nat → Int → Int → Int → Bool → Option (Int × Option Int)
  | 0, _, _, _, _ => none
  | k + 1, x0, x1, x2, x22 => if x22 = true then (some (0, some 1)) else (rate_Level.l0 k x0 x1 x2 0 (wrap64 (2 * x0)))
def rate_Level.l0 : Nat → Int → Int → Int → Int → Int → Option (Int × Option Int)
  | 0, _, _, _, _, _ => none
  | k + 1, x0, x1, x2, x8, x9 => if x8 < x9 then ((rate_pays_s.f x0 x1 (wrap64 (x8 + (wrap64 (Int.tdiv (wrap64 (x9 - x8)) 2)))) x2).bind fun t134 => (if t134 = true then (rate_Level.l0 k x0 x1 x2 x8 (wrap64 (x8 + (wrap64 (Int.tdiv (wrap64 (x9 - x8)) 2))))) else (rate_Level.l0 k x0 x1 x2 (wrap64 ((wrap64 (x8 + (wrap64 (Int.tdiv (wrap64 (x9 - x8)) 2)))) + 1)) x9))) else (some (x8, none))
end
def rate_Level.f (k : Nat) (a0 : Int) (a1 : Int) (a2 : Int) : Option (Int × Option Int) := (rate_may.f a0 a1).bind fun t133 => (if t133 = true then (if a2 < 1 then (rate_Level.j0 k a0 a1 a2 true) else (rate_Level.j0 k a0 a1 a2 (decide (a2 > 480)))) else (rate_Level.j0 k a0 a1 a2 true))
theorem rate_Level.mono_l : ∀ k, (∀ y0 y1 y2 y3, LeO (rate_Level.j0 k y0 y1 y2 y3) (rate_Level.j0 (k + 1) y0 y1 y2 y3)) ∧ (∀ y0 y1 y2 y3 y4, LeO (rate_Level.l0 k y0 y1 y2 y3 y4) (rate_Level.l0 (k + 1) y0 y1 y2 y3 y4))
  | 0 => ⟨fun _ _ _ _ r h => by simp [rate_Level.j0] at h, fun _ _ _ _ _ r h => by simp [rate_Level.l0] at h⟩
  | k + 1 => by
    obtain ⟨ih0, ih1⟩ := rate_Level.mono_l k
    refine ⟨?_, ?_⟩
    · intro y0 y1 y2 y3
      unfold rate_Level.j0
      repeat' first
      | (with_reducible exact ih0 _ _ _ _)
      | (with_reducible exact ih1 _ _ _ _ _)
      | (with_reducible exact LeO.refl _)
      | (with_reducible exact LeO.none _)
      | (with_reducible refine LeO.ite ?_ ?_)
      | (with_reducible refine LeO.bind ?_ (fun _ => ?_))
      | exact ih0 _ _ _ _
      | exact ih1 _ _ _ _ _
      | exact LeO.none _
      | refine LeO.ite ?_ ?_
      | refine LeO.bind ?_ (fun _ => ?_)
    · intro y0 y1 y2 y3 y4
      unfold rate_Level.l0
      repeat' first
      | (with_reducible exact ih0 _ _ _ _)
      | (with_reducible exact ih1 _ _ _ _ _)
      | (with_reducible exact LeO.refl _)
      | (with_reducible exact LeO.none _)
      | (with_reducible refine LeO.ite ?_ ?_)
      | (with_reducible refine LeO.bind ?_ (fun _ => ?_))
      | exact ih0 _ _ _ _
      | exact ih1 _ _ _ _ _
      | exact LeO.none _
      | refine LeO.ite ?_ ?_
      | refine LeO.bind ?_ (fun _ => ?_)
theorem rate_Level.mono : ∀ a0 a1 a2 k, LeO (rate_Level.f k a0 a1 a2) (rate_Level.f (k + 1) a0 a1 a2) := by
  intro a0 a1 a2 k
  obtain ⟨ih0, ih1⟩ := rate_Level.mono_l k
  unfold rate_Level.f
  repeat' first
      | (with_reducible exact ih0 _ _ _ _)
      | (with_reducible exact ih1 _ _ _ _ _)
      | (with_reducible exact LeO.refl _)
      | (with_reducible exact LeO.none _)
      | (with_reducible refine LeO.ite ?_ ?_)
      | (with_reducible refine LeO.bind ?_ (fun _ => ?_))
      | exact ih0 _ _ _ _
      | exact ih1 _ _ _ _ _
      | exact LeO.none _
      | refine LeO.ite ?_ ?_
      | refine LeO.bind ?_ (fun _ => ?_)
set_option maxHeartbeats 8000000 in
set_option maxRecDepth 100000 in
theorem rate_Level.calls (k : Nat) (a0 : Int) (a1 : Int) (a2 : Int) (r1 : Int) (r2 : Option Int) (w : World) (h : rate_Level.f k a0 a1 a2 = some (r1, r2)) :
    Calls Try.prog 17 #[.int .i64 a0, .int .i64 a1, .int .i64 a2] w fun e w' => e = .returned (.tuple #[.int .i64 r1, errW r2]) ∧ Below w.heap.size w w' := by
  have hu24 := Try.underlying24
  have hu30 := Try.underlying30
  have HB := Aside0.mk (Below.refl w.heap.size w)
  have H : ((rate_may.f a0 a1).bind fun t133 => (if t133 = true then (if a2 < 1 then (rate_Level.j0 k a0 a1 a2 true) else (rate_Level.j0 k a0 a1 a2 (decide (a2 > 480)))) else (rate_Level.j0 k a0 a1 a2 true))) = some (r1, r2) := h
  clear h
  have HC4 := Aside0.mk H
  clear H
  go_enter Try.func17, Try.ntmps17
  go_upto_region 1 with (fail)
  go_cut [22] (fun v22 wc => ∃ (kq : Nat) (x22_3 : Bool), v22 = .bool x22_3 ∧ Aside0 (rate_Level.j0 kq a0 a1 a2 x22_3 = some (r1, r2)) ∧ Aside0 (kq ≤ k) ∧ Aside0 (Below w.heap.size w wc))
  case first =>
    have H := HC4.out
    clear HC4
    replace H := Option.bind_eq_some_iff.mp H
    obtain ⟨t133, A50, H⟩ := H
    replace H : (if t133 = true then (if a2 < 1 then (rate_Level.j0 k a0 a1 a2 true) else (rate_Level.j0 k a0 a1 a2 (decide (a2 > 480)))) else (rate_Level.j0 k a0 a1 a2 true)) = some (r1, r2) := H
    have A5 := Aside0.mk A50
    clear A50
    by_cases c6 : t133 = true
    · subst c6
      have H1 : (if a2 < 1 then (rate_Level.j0 k a0 a1 a2 true) else (rate_Level.j0 k a0 a1 a2 (decide (a2 > 480)))) = some (r1, r2) := by rw [if_pos rfl] at H; exact H
      clear H
      have H := H1
      clear H1
      by_cases c7 : a2 < 1
      · rw [if_pos c7] at H
        have c7b0 : decide (a2 < 1) = true := decide_eq_true c7
        clear c7
        (first | rw [c7b0] | (simp only [i64_w, i32_w]; rw [c7b0]) | skip)
        have H' := Aside0.mk H
        clear H
        go_wp2_with (first | ((with_reducible refine gate_callee (f := 19) rfl ?_); refine goesL_ (some 13) rfl rfl Try.func19 (by kernel_rfl) rfl #[.int .i64 a0, .int .i64 a1] rfl (by (try simp only [List.map_toArray, List.map_cons, List.map_nil]); first | done | rfl | (simp only [List.length_drop, List.length_take]; rfl)) ?_; (with_reducible refine (rate_may.calls a0 a1 true _ A5.out).mono ?_); rintro e w' ⟨rfl, ⟨nd, rfl⟩⟩; refine ⟨_, rfl, ?_⟩))
        go_meet
        case rel => exact ⟨_, (true), (by first | rfl | (simp; done) | (simp [*]; done)), H', ⟨by first | omega | exact Nat.le_refl _⟩, ⟨by repeat (first | (with_reducible first | exact HB.out | apply below_alloc | apply pw_below_drewN | apply below_drew1) | exact HB.out)⟩⟩
      · rw [if_neg c7] at H
        have c7b0 : decide (a2 < 1) = false := decide_eq_false c7
        clear c7
        (first | rw [c7b0] | (simp only [i64_w, i32_w]; rw [c7b0]) | skip)
        have H' := Aside0.mk H
        clear H
        go_wp2_with (first | ((with_reducible refine gate_callee (f := 19) rfl ?_); refine goesL_ (some 13) rfl rfl Try.func19 (by kernel_rfl) rfl #[.int .i64 a0, .int .i64 a1] rfl (by (try simp only [List.map_toArray, List.map_cons, List.map_nil]); first | done | rfl | (simp only [List.length_drop, List.length_take]; rfl)) ?_; (with_reducible refine (rate_may.calls a0 a1 true _ A5.out).mono ?_); rintro e w' ⟨rfl, ⟨nd, rfl⟩⟩; refine ⟨_, rfl, ?_⟩))
        go_meet
        case rel => exact ⟨_, (decide (a2 > 480)), (by first | rfl | (simp; done) | (simp [*]; done)), H', ⟨by first | omega | exact Nat.le_refl _⟩, ⟨by repeat (first | (with_reducible first | exact HB.out | apply below_alloc | apply pw_below_drewN | apply below_drew1) | exact HB.out)⟩⟩
    · replace c6 := Bool.eq_false_iff.mpr c6
      subst c6
      have H1 : (rate_Level.j0 k a0 a1 a2 true) = some (r1, r2) := by rw [if_neg (show ¬ (false = true) by decide)] at H; exact H
      clear H
      have H := H1
      clear H1
      have H' := Aside0.mk H
      clear H
      go_wp2_with (first | ((with_reducible refine gate_callee (f := 19) rfl ?_); refine goesL_ (some 13) rfl rfl Try.func19 (by kernel_rfl) rfl #[.int .i64 a0, .int .i64 a1] rfl (by (try simp only [List.map_toArray, List.map_cons, List.map_nil]); first | done | rfl | (simp only [List.length_drop, List.length_take]; rfl)) ?_; (with_reducible refine (rate_may.calls a0 a1 false _ A5.out).mono ?_); rintro e w' ⟨rfl, ⟨nd, rfl⟩⟩; refine ⟨_, rfl, ?_⟩))
      go_meet
      case rel => exact ⟨_, (true), (by first | rfl | (simp; done) | (simp [*]; done)), H', ⟨by first | omega | exact Nat.le_refl _⟩, ⟨by repeat (first | (with_reducible first | exact HB.out | apply below_alloc | apply pw_below_drewN | apply below_drew1) | exact HB.out)⟩⟩
  case rest =>
    clear HC4
    try clear c1
    try clear p2
    try clear c6
    try clear c7
    try clear c7b0
    obtain ⟨kq, x22_3, rfl, HA, HJ3, HB⟩ := hcut
    cases kq with
    | zero => exact absurd HA.out (by simp [rate_Level.j0])
    | succ kj3 =>
      have H := HA.out
      clear HA
      simp only [rate_Level.j0] at H
      by_cases c8 : x22_3 = true
      · subst c8
        have H1 : (some (0, some 1)) = some (r1, r2) := by rw [if_pos rfl] at H; exact H
        clear H
        have H := H1
        clear H1
        simp only [Option.some.injEq, Prod.mk.injEq] at H
        obtain ⟨rfl, rfl⟩ := H
        go_wp2
        go_ret2
        exact ⟨by first | rfl | (simp [errW_none, errW_some] <;> rfl) | (simp [*, errW_none, errW_some] <;> rfl), by repeat (first | (with_reducible first | exact HB.out | apply below_alloc | apply pw_below_drewN | apply below_drew1) | exact HB.out)⟩
      · replace c8 := Bool.eq_false_iff.mpr c8
        subst c8
        have H1 : (rate_Level.l0 kj3 a0 a1 a2 0 (wrap64 (2 * a0))) = some (r1, r2) := by rw [if_neg (show ¬ (false = true) by decide)] at H; exact H
        clear H
        have H := H1
        clear H1
        have H' := Aside0.mk H
        clear H
        go_wp2
        (try simp only [Act.put, List.setIfInBounds_toArray, List.set_cons_zero, List.set_cons_succ])
        go_loopg [8, 9] kj3 (fun kq v8 v9 w' => ∃ (x8_2 : Int) (x9_2 : Int), v8 = .int .i64 x8_2 ∧ v9 = .int .i64 x9_2 ∧ Aside0 (rate_Level.l0 kq a0 a1 a2 x8_2 x9_2 = some (r1, r2)) ∧ Aside0 (kq ≤ kj3) ∧ Aside0 (Below w.heap.size w w'))
        case atStart => exact ⟨(0), (wrap64 (2 * a0)), (by first | rfl | (simp; done) | (simp [*]; done)), (by first | rfl | (simp; done) | (simp [*]; done)), H', ⟨Nat.le_refl _⟩, ⟨by repeat (first | (with_reducible first | exact HB.out | apply below_alloc | apply pw_below_drewN | apply below_drew1) | exact HB.out)⟩⟩
        case round =>
          clear H'
          try clear c1
          try clear p2
          try clear c6
          try clear p6
          try clear c7
          try clear c7b0
          try clear c8
          try clear p2
          obtain ⟨x8_2, x9_2, rfl, rfl, HA, HK2, HB⟩ := hrel
          cases gk with
          | zero => exact absurd HA.out (by simp [rate_Level.l0])
          | succ k2 =>
            have H := HA.out
            clear HA
            simp only [rate_Level.l0] at H
            by_cases c9 : x8_2 < x9_2
            · rw [if_pos c9] at H
              have c9b0 : decide (x8_2 < x9_2) = true := decide_eq_true c9
              clear c9
              replace H := Option.bind_eq_some_iff.mp H
              obtain ⟨t134, A100, H⟩ := H
              replace H : (if t134 = true then (rate_Level.l0 k2 a0 a1 a2 x8_2 (wrap64 (x8_2 + (wrap64 (Int.tdiv (wrap64 (x9_2 - x8_2)) 2))))) else (rate_Level.l0 k2 a0 a1 a2 (wrap64 ((wrap64 (x8_2 + (wrap64 (Int.tdiv (wrap64 (x9_2 - x8_2)) 2)))) + 1)) x9_2)) = some (r1, r2) := H
              have A10 := Aside0.mk A100
              clear A100
              by_cases c11 : t134 = true
              · subst c11
                have H1 : (rate_Level.l0 k2 a0 a1 a2 x8_2 (wrap64 (x8_2 + (wrap64 (Int.tdiv (wrap64 (x9_2 - x8_2)) 2))))) = some (r1, r2) := by rw [if_pos rfl] at H; exact H
                clear H
                have H := H1
                clear H1
                have H' := Aside0.mk H
                clear H
                go_wp2_with (first | ((with_reducible refine gate_callee (f := 21) rfl ?_); refine goesL_ (some 39) rfl rfl Try.func21 (by kernel_rfl) rfl #[.int .i64 a0, .int .i64 a1, .int .i64 (wrap64 (x8_2 + (wrap64 (Int.tdiv (wrap64 (x9_2 - x8_2)) 2)))), .int .i64 a2] rfl (by (try simp only [List.map_toArray, List.map_cons, List.map_nil]); first | done | rfl | (simp only [List.length_drop, List.length_take]; rfl)) ?_; (with_reducible refine (rate_pays_s.calls a0 a1 (wrap64 (x8_2 + (wrap64 (Int.tdiv (wrap64 (x9_2 - x8_2)) 2)))) a2 true _ A10.out).mono ?_); rintro e w12 ⟨rfl, hb⟩; refine ⟨_, rfl, ?_⟩; have n0_ := Aside0.mk (below_step (by repeat (first | (with_reducible first | exact HB.out | apply below_alloc | apply pw_below_drewN | apply below_drew1) | exact HB.out)) hb); clear HB; have HB := n0_; clear n0_; (try clear hb); (try clear hb2); (try clear hk); (try clear hi)))
                go_roundg k2
                case measure => have := HJ3.out; have := HK2.out; omega
                case rel => exact ⟨(x8_2), (wrap64 (x8_2 + (wrap64 (Int.tdiv (wrap64 (x9_2 - x8_2)) 2)))), (by first | rfl | (simp; done) | (simp [*]; done)), (by first | rfl | (simp; done) | (simp [*]; done)), H', ⟨by have := HJ3.out; have := HK2.out; omega⟩, ⟨by repeat (first | (with_reducible first | exact HB.out | apply below_alloc | apply pw_below_drewN | apply below_drew1) | exact HB.out)⟩⟩
              · replace c11 := Bool.eq_false_iff.mpr c11
                subst c11
                have H1 : (rate_Level.l0 k2 a0 a1 a2 (wrap64 ((wrap64 (x8_2 + (wrap64 (Int.tdiv (wrap64 (x9_2 - x8_2)) 2)))) + 1)) x9_2) = some (r1, r2) := by rw [if_neg (show ¬ (false = true) by decide)] at H; exact H
                clear H
                have H := H1
                clear H1
                have H' := Aside0.mk H
                clear H
                go_wp2_with (first | ((with_reducible refine gate_callee (f := 21) rfl ?_); refine goesL_ (some 39) rfl rfl Try.func21 (by kernel_rfl) rfl #[.int .i64 a0, .int .i64 a1, .int .i64 (wrap64 (x8_2 + (wrap64 (Int.tdiv (wrap64 (x9_2 - x8_2)) 2)))), .int .i64 a2] rfl (by (try simp only [List.map_toArray, List.map_cons, List.map_nil]); first | done | rfl | (simp only [List.length_drop, List.length_take]; rfl)) ?_; (with_reducible refine (rate_pays_s.calls a0 a1 (wrap64 (x8_2 + (wrap64 (Int.tdiv (wrap64 (x9_2 - x8_2)) 2)))) a2 false _ A10.out).mono ?_); rintro e w13 ⟨rfl, hb⟩; refine ⟨_, rfl, ?_⟩; have n0_ := Aside0.mk (below_step (by repeat (first | (with_reducible first | exact HB.out | apply below_alloc | apply pw_below_drewN | apply below_drew1) | exact HB.out)) hb); clear HB; have HB := n0_; clear n0_; (try clear hb); (try clear hb2); (try clear hk); (try clear hi)))
                go_roundg k2
                case measure => have := HJ3.out; have := HK2.out; omega
                case rel => exact ⟨(wrap64 ((wrap64 (x8_2 + (wrap64 (Int.tdiv (wrap64 (x9_2 - x8_2)) 2)))) + 1)), (x9_2), (by first | rfl | (simp; done) | (simp [*]; done)), (by first | rfl | (simp; done) | (simp [*]; done)), H', ⟨by have := HJ3.out; have := HK2.out; omega⟩, ⟨by repeat (first | (with_reducible first | exact HB.out | apply below_alloc | apply pw_below_drewN | apply below_drew1) | exact HB.out)⟩⟩
            · rw [if_neg c9] at H
              have c9b0 : decide (x8_2 < x9_2) = false := decide_eq_false c9
              clear c9
              simp only [Option.some.injEq, Prod.mk.injEq] at H
              obtain ⟨rfl, rfl⟩ := H
              go_wp2
              go_ret2
              exact ⟨by first | rfl | (simp [errW_none, errW_some] <;> rfl) | (simp [*, errW_none, errW_some] <;> rfl), by repeat (first | (with_reducible first | exact HB.out | apply below_alloc | apply pw_below_drewN | apply below_drew1) | exact HB.out)⟩

/-! ### rate_Level_s: function 17, told plainly -/
theorem rate_Level.loop (b r m : Int) (h : M.may b r) (hm0 : 0 ≤ m) (hm : m ≤ 480) : ∀ (n : Nat) (lo hi : Int), 0 ≤ lo → lo ≤ hi → hi ≤ 20000000000000 → hi - lo < 2 ^ n → ∀ k, n + 2 ≤ k →
    rate_Level.l0 k b r m lo hi = some (M.halve (M.pays m.toNat b r) n lo hi, none) := by
  intro n
  induction n with
  | zero =>
    intro lo hi h0 hlh hhi hn k hk
    obtain ⟨k, rfl⟩ : ∃ m, k = m + 1 := ⟨k - 1, by omega⟩
    simp only [rate_Level.l0, M.halve]
    rw [if_neg (by simp at hn; omega)]
  | succ n ih =>
    intro lo hi h0 hlh hhi hn k hk
    obtain ⟨k, rfl⟩ : ∃ m, k = m + 1 := ⟨k - 1, by omega⟩
    have hn' : (2 : Int) ^ (n + 1) = 2 * 2 ^ n := by rw [Int.pow_succ]; omega
    rw [hn'] at hn
    simp only [rate_Level.l0, M.halve]
    by_cases hlt : lo < hi
    · rw [if_pos hlt, if_pos hlt, M.w64_id (n := hi - lo) (by omega) (by omega), M.tdivu (by omega), M.w64_id (n := (hi - lo) / 2) (by omega) (by omega), M.w64_id (n := lo + (hi - lo) / 2) (by omega) (by omega), M.w64_id (n := lo + (hi - lo) / 2 + 1) (by omega) (by omega)]
      unfold rate_pays_s.f
      rw [if_pos ⟨h, by omega, hm0, hm⟩, Option.bind_some]
      split
      · exact ih lo _ h0 (by omega) (by omega) (by omega) k (by omega)
      · exact ih _ hi (by omega) (by omega) hhi (by omega) k (by omega)
    · rw [if_neg hlt, if_neg hlt]
theorem rate_Level.tells (b r m : Int) (k : Nat) (hk : 68 ≤ k) : rate_Level.f k b r m = some (if M.may b r ∧ 1 ≤ m ∧ m ≤ 480 then (M.level m.toNat b r, none) else (0, some 1)) := by
  obtain ⟨k, rfl⟩ : ∃ m, k = m + 1 := ⟨k - 1, by omega⟩
  have hm : rate_may.f b r = some (decide (M.may b r)) := by
    unfold rate_may.f M.may
    by_cases h1 : 0 ≤ b <;> by_cases h2 : b ≤ 10000000000000 <;> by_cases h3 : 0 ≤ r <;> simp [h1, h2, h3]
  unfold rate_Level.f
  rw [hm, Option.bind_some]
  by_cases h : M.may b r
  · rw [if_pos (decide_eq_true h)]
    by_cases hm0 : m < 1
    · rw [if_pos hm0, if_neg (by omega)]
      simp [rate_Level.j0]
    rw [if_neg hm0]
    by_cases hm4 : m > 480
    · rw [decide_eq_true hm4, if_neg (by omega)]
      simp [rate_Level.j0]
    rw [decide_eq_false hm4, if_pos ⟨h, by omega, by omega⟩]
    simp only [rate_Level.j0]
    have hb := h.1
    have hb2 := h.2.1
    rw [if_neg (by decide), M.w64_id (n := 2 * b) (by omega) (by omega)]
    have hk64 : (2 : Int) ^ 64 = 18446744073709551616 := by decide
    exact rate_Level.loop b r m h (by omega) (by omega) 64 0 (2 * b) (by omega) (by omega) (by omega) (by rw [hk64]; omega) k (by omega)
  · rw [if_neg (by simpa using h), if_neg (fun hh => h hh.1)]
    simp [rate_Level.j0]
def rate_Level_s.f (b r m : Int) : Option (Int × Option Int) := some (if M.may b r ∧ 1 ≤ m ∧ m ≤ 480 then (M.level m.toNat b r, none) else (0, some 1))
theorem rate_Level_s.calls (a0 : Int) (a1 : Int) (a2 : Int) (r1 : Int) (r2 : Option Int) (w : World) (h : rate_Level_s.f a0 a1 a2 = some (r1, r2)) :
    Calls Try.prog 17 #[.int .i64 a0, .int .i64 a1, .int .i64 a2] w fun e w' => e = .returned (.tuple #[.int .i64 r1, errW r2]) ∧ Below w.heap.size w w' :=
  rate_Level.calls 68 a0 a1 a2 r1 r2 w ((rate_Level.tells a0 a1 a2 68 (Nat.le_refl _)).trans h)
theorem rate_Level_s.yes {b r m : Int} (h : M.may b r ∧ 1 ≤ m ∧ m ≤ 480) : rate_Level_s.f b r m = some (M.level m.toNat b r, none) := by unfold rate_Level_s.f; rw [if_pos h]
theorem rate_Level_s.no {b r m : Int} (h : ¬ (M.may b r ∧ 1 ≤ m ∧ m ≤ 480)) : rate_Level_s.f b r m = some (0, some 1) := by unfold rate_Level_s.f; rw [if_neg h]

/-! ### trivetlaw02_up: function 9 -/
def trivetlaw02_up.f  : Option (Bool) := (rate_Month_s.f 20000000 60000).bind fun bt135 => ((rate_Level_s.f 1200 0 12).bind fun bt137 => (if bt135.2.isNone = true then (if bt135.1 = 100000 then (if bt137.2.isNone = true then (some (bt137.1 == 100)) else (some false)) else (some false)) else (some false)))
set_option maxHeartbeats 8000000 in
set_option maxRecDepth 100000 in
theorem trivetlaw02_up.calls  (r : Bool) (w : World) (h : trivetlaw02_up.f  = some r) :
    Calls Try.prog 9 #[] w fun e w' => e = .returned (.bool r) ∧ Below w.heap.size w w' := by
  have hu24 := Try.underlying24
  have hu30 := Try.underlying30
  have HB := Aside0.mk (Below.refl w.heap.size w)
  have H : ((rate_Month_s.f 20000000 60000).bind fun bt135 => ((rate_Level_s.f 1200 0 12).bind fun bt137 => (if bt135.2.isNone = true then (if bt135.1 = 100000 then (if bt137.2.isNone = true then (some (bt137.1 == 100)) else (some false)) else (some false)) else (some false)))) = some r := h
  clear h
  replace H := Option.bind_eq_some_iff.mp H
  obtain ⟨⟨t135, t136⟩, A10, H⟩ := H
  replace H : ((rate_Level_s.f 1200 0 12).bind fun bt137 => (if t136.isNone = true then (if t135 = 100000 then (if bt137.2.isNone = true then (some (bt137.1 == 100)) else (some false)) else (some false)) else (some false))) = some r := H
  have A1 := Aside0.mk A10
  clear A10
  replace H := Option.bind_eq_some_iff.mp H
  obtain ⟨⟨t137, t138⟩, A20, H⟩ := H
  replace H : (if t136.isNone = true then (if t135 = 100000 then (if t138.isNone = true then (some (t137 == 100)) else (some false)) else (some false)) else (some false)) = some r := H
  have A2 := Aside0.mk A20
  clear A20
  rcases t136 with _ | q139
  · have H1 : (if t135 = 100000 then (if t138.isNone = true then (some (t137 == 100)) else (some false)) else (some false)) = some r := by rw [if_pos (show (none : Option Int).isNone = true by rfl)] at H; exact H
    clear H
    have H := H1
    clear H1
    try simp only [errW_none, errW_some]
    by_cases c3 : t135 = 100000
    · rw [if_pos c3] at H
      have c3b0 : (t135 == 100000) = true := beq_iff_eq.mpr c3
      have c3b1 : (t135 != 100000) = false := bne_eq_false_iff_eq.mpr c3
      clear c3
      rcases t138 with _ | q140
      · have H1 : (some (t137 == 100)) = some r := by rw [if_pos (show (none : Option Int).isNone = true by rfl)] at H; exact H
        clear H
        have H := H1
        clear H1
        try simp only [errW_none, errW_some]
        obtain rfl := Option.some.inj H
        go_enter Try.func9, Try.ntmps9
        go_wp2_with (first | ((with_reducible refine gate_callee (f := 10) rfl ?_); refine goesL_ (some 6) rfl rfl Try.func10 (by kernel_rfl) rfl #[.int .i64 20000000, .int .i64 60000] rfl (by (try simp only [List.map_toArray, List.map_cons, List.map_nil]); first | done | rfl | (simp only [List.length_drop, List.length_take]; rfl)) ?_; (with_reducible refine (rate_Month_s.calls 20000000 60000 t135 none _ A1.out).mono ?_); rintro e w' ⟨rfl, ⟨nd, rfl⟩⟩; refine ⟨_, rfl, ?_⟩; (try simp only [errW_none, errW_some])) | ((with_reducible refine gate_callee (f := 17) rfl ?_); refine goesL_ (some 10) rfl rfl Try.func17 (by kernel_rfl) rfl #[.int .i64 1200, .int .i64 0, .int .i64 12] rfl (by (try simp only [List.map_toArray, List.map_cons, List.map_nil]); first | done | rfl | (simp only [List.length_drop, List.length_take]; rfl)) ?_; (with_reducible refine (rate_Level_s.calls 1200 0 12 t137 none _ A2.out).mono ?_); rintro e w4 ⟨rfl, hb⟩; refine ⟨_, rfl, ?_⟩; have n0_ := Aside0.mk (below_step (by repeat (first | (with_reducible first | exact HB.out | apply below_alloc | apply pw_below_drewN | apply below_drew1) | exact HB.out)) hb); clear HB; have HB := n0_; clear n0_; (try clear hb); (try clear hb2); (try clear hk); (try clear hi); (try simp only [errW_none, errW_some])))
        go_ret
        exact ⟨by first | rfl | (simp [errW_none, errW_some] <;> rfl) | (simp [*, errW_none, errW_some] <;> rfl), by repeat (first | (with_reducible first | exact HB.out | apply below_alloc | apply pw_below_drewN | apply below_drew1) | exact HB.out)⟩
      · have H1 : (some false) = some r := by rw [if_neg (show ¬ (some q140).isNone = true by simp)] at H; exact H
        clear H
        have H := H1
        clear H1
        try simp only [errW_none, errW_some]
        obtain rfl := Option.some.inj H
        go_enter Try.func9, Try.ntmps9
        go_wp2_with (first | ((with_reducible refine gate_callee (f := 10) rfl ?_); refine goesL_ (some 6) rfl rfl Try.func10 (by kernel_rfl) rfl #[.int .i64 20000000, .int .i64 60000] rfl (by (try simp only [List.map_toArray, List.map_cons, List.map_nil]); first | done | rfl | (simp only [List.length_drop, List.length_take]; rfl)) ?_; (with_reducible refine (rate_Month_s.calls 20000000 60000 t135 none _ A1.out).mono ?_); rintro e w' ⟨rfl, ⟨nd, rfl⟩⟩; refine ⟨_, rfl, ?_⟩; (try simp only [errW_none, errW_some])) | ((with_reducible refine gate_callee (f := 17) rfl ?_); refine goesL_ (some 10) rfl rfl Try.func17 (by kernel_rfl) rfl #[.int .i64 1200, .int .i64 0, .int .i64 12] rfl (by (try simp only [List.map_toArray, List.map_cons, List.map_nil]); first | done | rfl | (simp only [List.length_drop, List.length_take]; rfl)) ?_; (with_reducible refine (rate_Level_s.calls 1200 0 12 t137 (some q140) _ A2.out).mono ?_); rintro e w5 ⟨rfl, hb⟩; refine ⟨_, rfl, ?_⟩; have n0_ := Aside0.mk (below_step (by repeat (first | (with_reducible first | exact HB.out | apply below_alloc | apply pw_below_drewN | apply below_drew1) | exact HB.out)) hb); clear HB; have HB := n0_; clear n0_; (try clear hb); (try clear hb2); (try clear hk); (try clear hi); (try simp only [errW_none, errW_some])))
        go_ret
        exact ⟨by first | rfl | (simp [errW_none, errW_some] <;> rfl) | (simp [*, errW_none, errW_some] <;> rfl), by repeat (first | (with_reducible first | exact HB.out | apply below_alloc | apply pw_below_drewN | apply below_drew1) | exact HB.out)⟩
    · rw [if_neg c3] at H
      have c3b0 : (t135 == 100000) = false := beq_eq_false_iff_ne.mpr c3
      have c3b1 : (t135 != 100000) = true := bne_iff_ne.mpr c3
      obtain rfl := Option.some.inj H
      go_enter Try.func9, Try.ntmps9
      go_wp2_with (first | ((with_reducible refine gate_callee (f := 10) rfl ?_); refine goesL_ (some 6) rfl rfl Try.func10 (by kernel_rfl) rfl #[.int .i64 20000000, .int .i64 60000] rfl (by (try simp only [List.map_toArray, List.map_cons, List.map_nil]); first | done | rfl | (simp only [List.length_drop, List.length_take]; rfl)) ?_; (with_reducible refine (rate_Month_s.calls 20000000 60000 t135 none _ A1.out).mono ?_); rintro e w' ⟨rfl, ⟨nd, rfl⟩⟩; refine ⟨_, rfl, ?_⟩; (try simp only [errW_none, errW_some])) | ((with_reducible refine gate_callee (f := 17) rfl ?_); refine goesL_ (some 10) rfl rfl Try.func17 (by kernel_rfl) rfl #[.int .i64 1200, .int .i64 0, .int .i64 12] rfl (by (try simp only [List.map_toArray, List.map_cons, List.map_nil]); first | done | rfl | (simp only [List.length_drop, List.length_take]; rfl)) ?_; (with_reducible refine (rate_Level_s.calls 1200 0 12 t137 t138 _ A2.out).mono ?_); rintro e w6 ⟨rfl, hb⟩; refine ⟨_, rfl, ?_⟩; have n0_ := Aside0.mk (below_step (by repeat (first | (with_reducible first | exact HB.out | apply below_alloc | apply pw_below_drewN | apply below_drew1) | exact HB.out)) hb); clear HB; have HB := n0_; clear n0_; (try clear hb); (try clear hb2); (try clear hk); (try clear hi); (try simp only [errW_none, errW_some])))
      go_ret
      exact ⟨by first | rfl | (simp [errW_none, errW_some] <;> rfl) | (simp [*, errW_none, errW_some] <;> rfl), by repeat (first | (with_reducible first | exact HB.out | apply below_alloc | apply pw_below_drewN | apply below_drew1) | exact HB.out)⟩
  · have H1 : (some false) = some r := by rw [if_neg (show ¬ (some q139).isNone = true by simp)] at H; exact H
    clear H
    have H := H1
    clear H1
    try simp only [errW_none, errW_some]
    obtain rfl := Option.some.inj H
    go_enter Try.func9, Try.ntmps9
    go_wp2_with (first | ((with_reducible refine gate_callee (f := 10) rfl ?_); refine goesL_ (some 6) rfl rfl Try.func10 (by kernel_rfl) rfl #[.int .i64 20000000, .int .i64 60000] rfl (by (try simp only [List.map_toArray, List.map_cons, List.map_nil]); first | done | rfl | (simp only [List.length_drop, List.length_take]; rfl)) ?_; (with_reducible refine (rate_Month_s.calls 20000000 60000 t135 (some q139) _ A1.out).mono ?_); rintro e w' ⟨rfl, ⟨nd, rfl⟩⟩; refine ⟨_, rfl, ?_⟩; (try simp only [errW_none, errW_some])) | ((with_reducible refine gate_callee (f := 17) rfl ?_); refine goesL_ (some 10) rfl rfl Try.func17 (by kernel_rfl) rfl #[.int .i64 1200, .int .i64 0, .int .i64 12] rfl (by (try simp only [List.map_toArray, List.map_cons, List.map_nil]); first | done | rfl | (simp only [List.length_drop, List.length_take]; rfl)) ?_; (with_reducible refine (rate_Level_s.calls 1200 0 12 t137 t138 _ A2.out).mono ?_); rintro e w7 ⟨rfl, hb⟩; refine ⟨_, rfl, ?_⟩; have n0_ := Aside0.mk (below_step (by repeat (first | (with_reducible first | exact HB.out | apply below_alloc | apply pw_below_drewN | apply below_drew1) | exact HB.out)) hb); clear HB; have HB := n0_; clear n0_; (try clear hb); (try clear hb2); (try clear hk); (try clear hi); (try simp only [errW_none, errW_some])))
    go_ret
    exact ⟨by first | rfl | (simp [errW_none, errW_some] <;> rfl) | (simp [*, errW_none, errW_some] <;> rfl), by repeat (first | (with_reducible first | exact HB.out | apply below_alloc | apply pw_below_drewN | apply below_drew1) | exact HB.out)⟩

/-! ### trivetlaw02_up_s: function 9, told plainly -/
theorem trivetlaw02_up.tells : trivetlaw02_up.f = some true := by decide +kernel
def trivetlaw02_up_s.f : Option Bool := some true
theorem trivetlaw02_up_s.calls (r : Bool) (w : World) (h : trivetlaw02_up_s.f = some r) :
    Calls Try.prog 9 #[] w fun e w' => e = .returned (.bool r) ∧ Below w.heap.size w w' := trivetlaw02_up.calls r w (trivetlaw02_up.tells.trans h)

/-! ### trivetref02_May: function 12 -/
def trivetref02_May.f (a0 : Int) (a1 : Int) : Option (Bool) := if a0 ≥ 0 then (if a0 ≤ 10000000000000 then (if a1 ≥ 0 then (some (decide (a1 ≤ 300000))) else (some false)) else (some false)) else (some false)
set_option maxHeartbeats 8000000 in
set_option maxRecDepth 100000 in
theorem trivetref02_May.calls (a0 : Int) (a1 : Int) (r : Bool) (w : World) (h : trivetref02_May.f a0 a1 = some r) :
    Calls Try.prog 12 #[.int .i64 a0, .int .i64 a1] w fun e w' => e = .returned (.bool r) ∧ Drawn0 w w' := by
  have H : (if a0 ≥ 0 then (if a0 ≤ 10000000000000 then (if a1 ≥ 0 then (some (decide (a1 ≤ 300000))) else (some false)) else (some false)) else (some false)) = some r := h
  clear h
  by_cases c3 : a0 ≥ 0
  · rw [if_pos c3] at H
    have c3b0 : decide (0 ≤ a0) = true := decide_eq_true c3
    clear c3
    by_cases c4 : a0 ≤ 10000000000000
    · rw [if_pos c4] at H
      have c4b0 : decide (a0 ≤ 10000000000000) = true := decide_eq_true c4
      clear c4
      by_cases c5 : a1 ≥ 0
      · rw [if_pos c5] at H
        have c5b0 : decide (0 ≤ a1) = true := decide_eq_true c5
        clear c5
        obtain rfl := Option.some.inj H
        go_enter Try.func12, Try.ntmps12
        go_wp2
        go_ret
        exact ⟨by first | rfl | (simp; done) | (simp [*]; done), by repeat (first | exact Drawn0.refl _ | apply Drawn0.step)⟩
      · rw [if_neg c5] at H
        have c5b0 : decide (0 ≤ a1) = false := decide_eq_false c5
        clear c5
        obtain rfl := Option.some.inj H
        go_enter Try.func12, Try.ntmps12
        go_wp2
        go_ret
        exact ⟨by first | rfl | (simp; done) | (simp [*]; done), by repeat (first | exact Drawn0.refl _ | apply Drawn0.step)⟩
    · rw [if_neg c4] at H
      have c4b0 : decide (a0 ≤ 10000000000000) = false := decide_eq_false c4
      clear c4
      obtain rfl := Option.some.inj H
      go_enter Try.func12, Try.ntmps12
      go_wp2
      go_ret
      exact ⟨by first | rfl | (simp; done) | (simp [*]; done), by repeat (first | exact Drawn0.refl _ | apply Drawn0.step)⟩
  · rw [if_neg c3] at H
    have c3b0 : decide (0 ≤ a0) = false := decide_eq_false c3
    clear c3
    obtain rfl := Option.some.inj H
    go_enter Try.func12, Try.ntmps12
    go_wp2
    go_ret
    exact ⟨by first | rfl | (simp; done) | (simp [*]; done), by repeat (first | exact Drawn0.refl _ | apply Drawn0.step)⟩

/-! ### trivetref02_May_s: function 12, told plainly -/
theorem trivetref02_May.tells (b r : Int) : trivetref02_May.f b r = some (decide (M.may b r)) := by
  unfold trivetref02_May.f M.may
  by_cases h1 : 0 ≤ b <;> by_cases h2 : b ≤ 10000000000000 <;> by_cases h3 : 0 ≤ r <;> simp [h1, h2, h3]
def trivetref02_May_s.f (b r : Int) : Option Bool := some (decide (M.may b r))
theorem trivetref02_May_s.calls (a0 : Int) (a1 : Int) (r : Bool) (w : World) (h : trivetref02_May_s.f a0 a1 = some r) :
    Calls Try.prog 12 #[.int .i64 a0, .int .i64 a1] w fun e w' => e = .returned (.bool r) ∧ Drawn0 w w' := trivetref02_May.calls a0 a1 r w ((trivetref02_May.tells a0 a1).trans h)

/-! ### trivetref02_Month: function 13 -/
def trivetref02_Month.f (a0 : Int) (a1 : Int) : Option (Int) := if (Int.tmod (wrap64 (a0 * a1)) 12000000) > 6000000 then (some (wrap64 ((wrap64 (Int.tdiv (wrap64 (a0 * a1)) 12000000)) + 1))) else (if (Int.tmod (wrap64 (a0 * a1)) 12000000) = 6000000 then (if (Int.tmod (wrap64 (Int.tdiv (wrap64 (a0 * a1)) 12000000)) 2) = 1 then (some (wrap64 ((wrap64 (Int.tdiv (wrap64 (a0 * a1)) 12000000)) + 1))) else (some (wrap64 (Int.tdiv (wrap64 (a0 * a1)) 12000000)))) else (some (wrap64 (Int.tdiv (wrap64 (a0 * a1)) 12000000))))
set_option maxHeartbeats 8000000 in
set_option maxRecDepth 100000 in
theorem trivetref02_Month.calls (a0 : Int) (a1 : Int) (r : Int) (w : World) (h : trivetref02_Month.f a0 a1 = some r) :
    Calls Try.prog 13 #[.int .i64 a0, .int .i64 a1] w fun e w' => e = .returned (.int .i64 r) ∧ Drawn0 w w' := by
  have H : (if (Int.tmod (wrap64 (a0 * a1)) 12000000) > 6000000 then (some (wrap64 ((wrap64 (Int.tdiv (wrap64 (a0 * a1)) 12000000)) + 1))) else (if (Int.tmod (wrap64 (a0 * a1)) 12000000) = 6000000 then (if (Int.tmod (wrap64 (Int.tdiv (wrap64 (a0 * a1)) 12000000)) 2) = 1 then (some (wrap64 ((wrap64 (Int.tdiv (wrap64 (a0 * a1)) 12000000)) + 1))) else (some (wrap64 (Int.tdiv (wrap64 (a0 * a1)) 12000000)))) else (some (wrap64 (Int.tdiv (wrap64 (a0 * a1)) 12000000))))) = some r := h
  clear h
  by_cases c3 : (Int.tmod (wrap64 (a0 * a1)) 12000000) > 6000000
  · rw [if_pos c3] at H
    have c3b0 : decide (6000000 < (Int.tmod (wrap64 (a0 * a1)) 12000000)) = true := decide_eq_true c3
    clear c3
    obtain rfl := Option.some.inj H
    go_enter Try.func13, Try.ntmps13
    go_wp2
    go_ret
    exact ⟨by first | rfl | (simp; done) | (simp [*]; done), by repeat (first | exact Drawn0.refl _ | apply Drawn0.step)⟩
  · rw [if_neg c3] at H
    have c3b0 : decide (6000000 < (Int.tmod (wrap64 (a0 * a1)) 12000000)) = false := decide_eq_false c3
    clear c3
    by_cases c4 : (Int.tmod (wrap64 (a0 * a1)) 12000000) = 6000000
    · rw [if_pos c4] at H
      have c4b0 : ((Int.tmod (wrap64 (a0 * a1)) 12000000) == 6000000) = true := beq_iff_eq.mpr c4
      have c4b1 : ((Int.tmod (wrap64 (a0 * a1)) 12000000) != 6000000) = false := bne_eq_false_iff_eq.mpr c4
      clear c4
      by_cases c5 : (Int.tmod (wrap64 (Int.tdiv (wrap64 (a0 * a1)) 12000000)) 2) = 1
      · rw [if_pos c5] at H
        have c5b0 : ((Int.tmod (wrap64 (Int.tdiv (wrap64 (a0 * a1)) 12000000)) 2) == 1) = true := beq_iff_eq.mpr c5
        have c5b1 : ((Int.tmod (wrap64 (Int.tdiv (wrap64 (a0 * a1)) 12000000)) 2) != 1) = false := bne_eq_false_iff_eq.mpr c5
        clear c5
        obtain rfl := Option.some.inj H
        go_enter Try.func13, Try.ntmps13
        go_wp2
        go_ret
        exact ⟨by first | rfl | (simp; done) | (simp [*]; done), by repeat (first | exact Drawn0.refl _ | apply Drawn0.step)⟩
      · rw [if_neg c5] at H
        have c5b0 : ((Int.tmod (wrap64 (Int.tdiv (wrap64 (a0 * a1)) 12000000)) 2) == 1) = false := beq_eq_false_iff_ne.mpr c5
        have c5b1 : ((Int.tmod (wrap64 (Int.tdiv (wrap64 (a0 * a1)) 12000000)) 2) != 1) = true := bne_iff_ne.mpr c5
        obtain rfl := Option.some.inj H
        go_enter Try.func13, Try.ntmps13
        go_wp2
        go_ret
        exact ⟨by first | rfl | (simp; done) | (simp [*]; done), by repeat (first | exact Drawn0.refl _ | apply Drawn0.step)⟩
    · rw [if_neg c4] at H
      have c4b0 : ((Int.tmod (wrap64 (a0 * a1)) 12000000) == 6000000) = false := beq_eq_false_iff_ne.mpr c4
      have c4b1 : ((Int.tmod (wrap64 (a0 * a1)) 12000000) != 6000000) = true := bne_iff_ne.mpr c4
      obtain rfl := Option.some.inj H
      go_enter Try.func13, Try.ntmps13
      go_wp2
      go_ret
      exact ⟨by first | rfl | (simp; done) | (simp [*]; done), by repeat (first | exact Drawn0.refl _ | apply Drawn0.step)⟩

/-! ### trivetref02_Month_s: function 13, told plainly -/
theorem trivetref02_Month.tells (b r : Int) (h : M.may b r) : trivetref02_Month.f b r = some (M.month b r) := by
  have hp := M.prod_bd h
  unfold trivetref02_Month.f M.month
  rw [M.quo4 _ _ (by decide), M.w64_id (n := b * r) (by omega) (by omega), M.tdivu hp.1, M.tmodu hp.1, M.w64_id (n := b * r / 12000000) (by omega) (by omega), M.tmodu (a := b * r / 12000000) (by omega), M.w64_id (n := b * r / 12000000 + 1) (by omega) (by omega)]
  generalize b * r = n at *
  by_cases h1 : n % 12000000 > 6000000
  · rw [if_pos h1, if_pos (.inl (by omega))]
  · rw [if_neg h1]
    by_cases h2 : n % 12000000 = 6000000
    · rw [if_pos h2]
      by_cases h3 : n / 12000000 % 2 = 1
      · rw [if_pos h3, if_pos (.inr ⟨by omega, h3⟩)]
      · rw [if_neg h3, if_neg (by omega), Int.add_zero]
    · rw [if_neg h2, if_neg (by omega), Int.add_zero]
def trivetref02_Month_s.f (b r : Int) : Option Int := if M.may b r then some (M.month b r) else none
theorem trivetref02_Month_s.calls (a0 : Int) (a1 : Int) (r : Int) (w : World) (h : trivetref02_Month_s.f a0 a1 = some r) :
    Calls Try.prog 13 #[.int .i64 a0, .int .i64 a1] w fun e w' => e = .returned (.int .i64 r) ∧ Drawn0 w w' := by
  unfold trivetref02_Month_s.f at h
  split at h
  · rename_i hr
    exact trivetref02_Month.calls a0 a1 r w ((trivetref02_Month.tells a0 a1 hr).trans h)
  · cases h
theorem trivetref02_Month_s.yes {b r : Int} (h : M.may b r) : trivetref02_Month_s.f b r = some (M.month b r) := by unfold trivetref02_Month_s.f; rw [if_pos h]

/-! ### trivetref02_Next: function 14 -/
def trivetref02_Next.f (a0 : Int) (a1 : Int) (a2 : Int) : Option (Int × Bool) := (trivetref02_Month_s.f a0 a1).bind fun t141 => (if a2 ≥ (wrap64 (a0 + t141)) then (some (0, true)) else (if (wrap64 ((wrap64 (a0 + t141)) - a2)) > 10000000000000 then (some (0, false)) else (some (wrap64 ((wrap64 (a0 + t141)) - a2), true))))
set_option maxHeartbeats 8000000 in
set_option maxRecDepth 100000 in
theorem trivetref02_Next.calls (a0 : Int) (a1 : Int) (a2 : Int) (r1 : Int) (r2 : Bool) (w : World) (h : trivetref02_Next.f a0 a1 a2 = some (r1, r2)) :
    Calls Try.prog 14 #[.int .i64 a0, .int .i64 a1, .int .i64 a2] w fun e w' => e = .returned (.tuple #[.int .i64 r1, .bool r2]) ∧ Drawn0 w w' := by
  have H : ((trivetref02_Month_s.f a0 a1).bind fun t141 => (if a2 ≥ (wrap64 (a0 + t141)) then (some (0, true)) else (if (wrap64 ((wrap64 (a0 + t141)) - a2)) > 10000000000000 then (some (0, false)) else (some (wrap64 ((wrap64 (a0 + t141)) - a2), true))))) = some (r1, r2) := h
  clear h
  replace H := Option.bind_eq_some_iff.mp H
  obtain ⟨t141, A40, H⟩ := H
  replace H : (if a2 ≥ (wrap64 (a0 + t141)) then (some (0, true)) else (if (wrap64 ((wrap64 (a0 + t141)) - a2)) > 10000000000000 then (some (0, false)) else (some (wrap64 ((wrap64 (a0 + t141)) - a2), true)))) = some (r1, r2) := H
  have A4 := Aside0.mk A40
  clear A40
  by_cases c5 : a2 ≥ (wrap64 (a0 + t141))
  · rw [if_pos c5] at H
    have c5b0 : decide ((wrap64 (a0 + t141)) ≤ a2) = true := decide_eq_true c5
    clear c5
    simp only [Option.some.injEq, Prod.mk.injEq] at H
    obtain ⟨rfl, rfl⟩ := H
    go_enter Try.func14, Try.ntmps14
    go_wp2_with (first | ((with_reducible refine gate_callee (f := 13) rfl ?_); refine goesL_ (some 12) rfl rfl Try.func13 (by kernel_rfl) rfl #[.int .i64 a0, .int .i64 a1] rfl (by (try simp only [List.map_toArray, List.map_cons, List.map_nil]); first | done | rfl | (simp only [List.length_drop, List.length_take]; rfl)) ?_; (with_reducible refine (trivetref02_Month_s.calls a0 a1 t141 _ A4.out).mono ?_); rintro e w' ⟨rfl, ⟨nd, rfl⟩⟩; refine ⟨_, rfl, ?_⟩))
    go_ret2
    exact ⟨by first | rfl | (simp; done) | (simp [*]; done), by repeat (first | exact Drawn0.refl _ | apply Drawn0.step)⟩
  · rw [if_neg c5] at H
    have c5b0 : decide ((wrap64 (a0 + t141)) ≤ a2) = false := decide_eq_false c5
    clear c5
    by_cases c6 : (wrap64 ((wrap64 (a0 + t141)) - a2)) > 10000000000000
    · rw [if_pos c6] at H
      have c6b0 : decide (10000000000000 < (wrap64 ((wrap64 (a0 + t141)) - a2))) = true := decide_eq_true c6
      clear c6
      simp only [Option.some.injEq, Prod.mk.injEq] at H
      obtain ⟨rfl, rfl⟩ := H
      go_enter Try.func14, Try.ntmps14
      go_wp2_with (first | ((with_reducible refine gate_callee (f := 13) rfl ?_); refine goesL_ (some 12) rfl rfl Try.func13 (by kernel_rfl) rfl #[.int .i64 a0, .int .i64 a1] rfl (by (try simp only [List.map_toArray, List.map_cons, List.map_nil]); first | done | rfl | (simp only [List.length_drop, List.length_take]; rfl)) ?_; (with_reducible refine (trivetref02_Month_s.calls a0 a1 t141 _ A4.out).mono ?_); rintro e w' ⟨rfl, ⟨nd, rfl⟩⟩; refine ⟨_, rfl, ?_⟩))
      go_ret2
      exact ⟨by first | rfl | (simp; done) | (simp [*]; done), by repeat (first | exact Drawn0.refl _ | apply Drawn0.step)⟩
    · rw [if_neg c6] at H
      have c6b0 : decide (10000000000000 < (wrap64 ((wrap64 (a0 + t141)) - a2))) = false := decide_eq_false c6
      clear c6
      simp only [Option.some.injEq, Prod.mk.injEq] at H
      obtain ⟨rfl, rfl⟩ := H
      go_enter Try.func14, Try.ntmps14
      go_wp2_with (first | ((with_reducible refine gate_callee (f := 13) rfl ?_); refine goesL_ (some 12) rfl rfl Try.func13 (by kernel_rfl) rfl #[.int .i64 a0, .int .i64 a1] rfl (by (try simp only [List.map_toArray, List.map_cons, List.map_nil]); first | done | rfl | (simp only [List.length_drop, List.length_take]; rfl)) ?_; (with_reducible refine (trivetref02_Month_s.calls a0 a1 t141 _ A4.out).mono ?_); rintro e w' ⟨rfl, ⟨nd, rfl⟩⟩; refine ⟨_, rfl, ?_⟩))
      go_ret2
      exact ⟨by first | rfl | (simp; done) | (simp [*]; done), by repeat (first | exact Drawn0.refl _ | apply Drawn0.step)⟩

/-! ### trivetref02_Next_s: function 14, told plainly -/
theorem trivetref02_Next.tells (b r p : Int) (h : M.may b r) (hp : 0 ≤ p) : trivetref02_Next.f b r p = some (if M.next b r p > 10000000000000 then (0, false) else (M.next b r p, true)) := by
  unfold trivetref02_Next.f trivetref02_Month_s.f
  have h0 := M.month_nonneg h
  have h1 := M.month_le h
  have hb := h.1
  have hb2 := h.2.1
  rw [if_pos h, Option.bind_some, M.w64_id (n := b + M.month b r) (by omega) (by omega)]
  unfold M.next
  by_cases hge : p ≥ b + M.month b r
  · rw [if_pos hge, if_neg (show ¬ p < b + M.month b r by omega), if_neg (by decide)]
  · rw [if_neg hge, M.w64_id (n := b + M.month b r - p) (by omega) (by omega), if_pos (show p < b + M.month b r by omega)]
    split <;> rfl
def trivetref02_Next_s.f (b r p : Int) : Option (Int × Bool) := if M.may b r ∧ 0 ≤ p then some (if M.next b r p > 10000000000000 then (0, false) else (M.next b r p, true)) else none
theorem trivetref02_Next_s.calls (a0 : Int) (a1 : Int) (a2 : Int) (r1 : Int) (r2 : Bool) (w : World) (h : trivetref02_Next_s.f a0 a1 a2 = some (r1, r2)) :
    Calls Try.prog 14 #[.int .i64 a0, .int .i64 a1, .int .i64 a2] w fun e w' => e = .returned (.tuple #[.int .i64 r1, .bool r2]) ∧ Drawn0 w w' := by
  unfold trivetref02_Next_s.f at h
  split at h
  · rename_i hr
    exact trivetref02_Next.calls a0 a1 a2 r1 r2 w ((trivetref02_Next.tells a0 a1 a2 hr.1 hr.2).trans h)
  · cases h
theorem trivetref02_Next_s.yes {b r p : Int} (h : M.may b r ∧ 0 ≤ p) (ho : M.next b r p ≤ 10000000000000) : trivetref02_Next_s.f b r p = some (M.next b r p, true) := by unfold trivetref02_Next_s.f; rw [if_pos h, if_neg (by omega)]
theorem trivetref02_Next_s.over {b r p : Int} (h : M.may b r ∧ 0 ≤ p) (ho : M.next b r p > 10000000000000) : trivetref02_Next_s.f b r p = some (0, false) := by unfold trivetref02_Next_s.f; rw [if_pos h, if_pos ho]

end Go.Proofs.Ytfkokgnfciifgaa.P
