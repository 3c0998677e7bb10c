-- Written by a program of this session out of the translation of the seat: Lean functions and the proofs that the Go functions come to them.
import Derived.Test.YtonjhfneeejdaaaPx0
import Derived.Test.YtonjhfneeejdaaaPx4
namespace Go.Proofs.Ytonjhfneeejdaaa.P
open Go.RowKit Go.Proofs.YtonjhfneeejdaaaW.PrintWords Go.Proofs.YtonjhfneeejdaaaW.PrintLast Go.Proofs.YtonjhfneeejdaaaW.PrintMore
attribute [local go_sem] max2_int min2_int max_two min_two max_three min_three max_four min_four   -- for this text's walks alone
set_option linter.unusedVariables false
set_option linter.unusedSimpArgs false

/-! ### trivetref04_Number_s: function 10, told plainly -/
theorem trivetref04_Number.loop2 (Y : Int) (hY : 1900 ≤ Y ∧ Y ≤ 2199) (n0 : Int) (h0 : -2000000 ≤ n0 ∧ n0 ≤ 2000000) : ∀ (j : Nat) (y : Int), y + j = 1970 → Y ≤ y → ∀ k, j + 1 ≤ k →
    trivetref04_Number.l2 k (n0 - (M.civ y 1 1 - M.civ Y 1 1)) y = some (n0 + M.civ Y 1 1) := by
  have bY := M.civ_bd (y := Y) (m := 1) (d := 1) ⟨by decide, by have := M.days_pos (y := Y) (m := 1) (by omega); omega⟩
  have c1970 : M.civ 1970 1 1 = 0 := by decide
  intro j
  induction j with
  | zero =>
    intro y hy hle k hk
    obtain ⟨k, rfl⟩ : ∃ m, k = m + 1 := ⟨k - 1, by omega⟩
    obtain rfl : y = 1970 := by omega
    simp only [trivetref04_Number.l2]
    rw [if_neg (by decide), c1970]
    congr 1
    omega
  | succ j ih =>
    intro y hy hle k hk
    obtain ⟨k, rfl⟩ : ∃ m, k = m + 1 := ⟨k - 1, by omega⟩
    have by_ := M.civ_bd (y := y) (m := 1) (d := 1) ⟨by decide, by have := M.days_pos (y := y) (m := 1) (by omega); omega⟩
    have hd := M.days_bd y 2
    simp only [trivetref04_Number.l2]
    unfold trivetref04_year_s.f
    rw [if_pos (by omega), Option.bind_some, M.w64_id (n := y + 1) (by omega) (by omega)]
    have e := M.civ_ylen (y := y) (by omega)
    rw [M.w64_id (by omega) (by omega), show n0 - (M.civ y 1 1 - M.civ Y 1 1) - (337 + M.days y 2) = n0 - (M.civ (y + 1) 1 1 - M.civ Y 1 1) by omega]
    exact ih (y + 1) (by omega) (by omega) k (by omega)
theorem trivetref04_Number.loop1 (Y m d : Int) (hY : 1900 ≤ Y ∧ Y ≤ 2199) (n0 : Int) (h0 : -2000000 ≤ n0 ∧ n0 ≤ 2000000) : ∀ (j : Nat) (y : Int), y + j = Y → 1970 ≤ y → ∀ k, j + 80 ≤ k →
    trivetref04_Number.l1 k (n0 + M.civ y 1 1) y Y m d = some (n0 + M.civ Y 1 1) := by
  intro j
  induction j with
  | zero =>
    intro y hy hle k hk
    obtain ⟨k, rfl⟩ : ∃ m, k = m + 1 := ⟨k - 1, by omega⟩
    obtain rfl : y = Y := by omega
    simp only [trivetref04_Number.l1]
    rw [if_neg (by omega)]
    obtain ⟨k, rfl⟩ : ∃ m, k = m + 1 := ⟨k - 1, by omega⟩
    simp only [trivetref04_Number.l2]
    rw [if_neg (by omega)]
  | succ j ih =>
    intro y hy hle k hk
    obtain ⟨k, rfl⟩ : ∃ m, k = m + 1 := ⟨k - 1, by omega⟩
    have by_ := M.civ_bd (y := y) (m := 1) (d := 1) ⟨by decide, by have := M.days_pos (y := y) (m := 1) (by omega); omega⟩
    have hd := M.days_bd y 2
    simp only [trivetref04_Number.l1]
    unfold trivetref04_year_s.f
    rw [if_pos (by omega), Option.bind_some, M.w64_id (n := y + 1) (by omega) (by omega)]
    have e := M.civ_ylen (y := y) (by omega)
    rw [M.w64_id (by omega) (by omega), show n0 + M.civ y 1 1 + (337 + M.days y 2) = n0 + M.civ (y + 1) 1 1 by omega]
    exact ih (y + 1) (by omega) (by omega) k (by omega)
theorem trivetref04_Number.loop0 (Y m d : Int) (hY : 1900 ≤ Y ∧ Y ≤ 2199) (hm : 1 ≤ m ∧ m ≤ 12) (hd : 1 ≤ d ∧ d ≤ 31) : ∀ (j : Nat) (i : Int), i + j = m → 1 ≤ i → ∀ k, j + 400 ≤ k →
    trivetref04_Number.l0 k (d - 1 + (M.civ Y i 1 - M.civ Y 1 1)) i Y m d = some (M.civ Y m d) := by
  have bY := M.civ_bd (y := Y) (m := 1) (d := 1) ⟨by decide, by have := M.days_pos (y := Y) (m := 1) (by omega); omega⟩
  have c1970 : M.civ 1970 1 1 = 0 := by decide
  intro j
  induction j with
  | zero =>
    intro i hi hle k hk
    obtain ⟨k, rfl⟩ : ∃ m, k = m + 1 := ⟨k - 1, by omega⟩
    obtain rfl : i = m := by omega
    have bm := M.civ_bd (y := Y) (m := i) (d := 1) ⟨by decide, by have := M.days_pos (y := Y) (m := i) (by omega); omega⟩
    simp only [trivetref04_Number.l0]
    rw [if_neg (by omega), M.civ_day Y i d]
    rcases Int.lt_or_le Y 1970 with hlt | hge
    · obtain ⟨k, rfl⟩ : ∃ m, k = m + 1 := ⟨k - 1, by omega⟩
      simp only [trivetref04_Number.l1]
      rw [if_neg (by omega)]
      have := trivetref04_Number.loop2 Y hY (d - 1 + (M.civ Y i 1 - M.civ Y 1 1)) (by omega) (1970 - Y).toNat Y (by omega) (by omega) k (by omega)
      rw [show d - 1 + (M.civ Y i 1 - M.civ Y 1 1) - (M.civ Y 1 1 - M.civ Y 1 1) = d - 1 + (M.civ Y i 1 - M.civ Y 1 1) by omega] at this
      rw [this]
      congr 1
      omega
    · have := trivetref04_Number.loop1 Y i d hY (d - 1 + (M.civ Y i 1 - M.civ Y 1 1)) (by omega) (Y - 1970).toNat 1970 (by omega) (by omega) k (by omega)
      rw [c1970, Int.add_zero] at this
      rw [this]
      congr 1
      omega
  | succ j ih =>
    intro i hi hle k hk
    obtain ⟨k, rfl⟩ : ∃ m, k = m + 1 := ⟨k - 1, by omega⟩
    have bm := M.civ_bd (y := Y) (m := i) (d := 1) ⟨by decide, by have := M.days_pos (y := Y) (m := i) (by omega); omega⟩
    have hdm := M.days_bd Y i
    have e := M.civ_next (y := Y) (m := i) hY (by omega)
    simp only [trivetref04_Number.l0]
    unfold trivetref04_Days_s.f
    rw [if_pos (by omega), Option.bind_some, M.w64_id (n := i + 1) (by omega) (by omega), M.w64_id (by omega) (by omega),
      show d - 1 + (M.civ Y i 1 - M.civ Y 1 1) + M.days Y i = d - 1 + (M.civ Y (i + 1) 1 - M.civ Y 1 1) by omega]
    exact ih (i + 1) (by omega) (by omega) k (by omega)
theorem trivetref04_Number.tells (y m d : Int) (h : 1900 ≤ y ∧ y ≤ 2199 ∧ 1 ≤ m ∧ m ≤ 12 ∧ 1 ≤ d ∧ d ≤ 31) (k : Nat) (hk : 420 ≤ k) : trivetref04_Number.f k y m d = some (M.civ y m d) := by
  unfold trivetref04_Number.f
  have := trivetref04_Number.loop0 y m d (by omega) (by omega) (by omega) (m - 1).toNat 1 (by omega) (by omega) k (by omega)
  rw [show d - 1 + (M.civ y 1 1 - M.civ y 1 1) = d - 1 by omega] at this
  rw [M.w64_id (by omega) (by omega)]
  exact this
def trivetref04_Number_s.f (y m d : Int) : Option Int := if 1900 ≤ y ∧ y ≤ 2199 ∧ 1 ≤ m ∧ m ≤ 12 ∧ 1 ≤ d ∧ d ≤ 31 then some (M.civ y m d) else none
theorem trivetref04_Number_s.calls (a0_0 : Int) (a0_1 : Int) (a0_2 : Int) (r : Int) (w : World) (h : trivetref04_Number_s.f a0_0 a0_1 a0_2 = some r) :
    Calls Try.prog 10 #[.agg #[.int .i64 a0_0, .int .i64 a0_1, .int .i64 a0_2]] w fun e w' => e = .returned (.int .i64 r) ∧ Below w.heap.size w w' := by
  unfold trivetref04_Number_s.f at h
  split at h
  · rename_i hr
    exact trivetref04_Number.calls (420) a0_0 a0_1 a0_2 r w ((trivetref04_Number.tells a0_0 a0_1 a0_2 hr (420) (Nat.le_refl _)).trans h)
  · cases h
theorem trivetref04_Number_s.yes {y m d : Int} (h : M.date y m d) : trivetref04_Number_s.f y m d = some (M.civ y m d) := by
  have a := M.date_in h
  unfold trivetref04_Number_s.f
  rw [if_pos (by omega)]

/-! ### trivetlaw05_thirty: function 11 -/
def trivetlaw05_thirty.f (a0_0 : Int) (a0_1 : Int) (a0_2 : Int) : Option (Int) := if a0_2 = 31 then (some (wrap64 ((wrap64 ((wrap64 (360 * a0_0)) + (wrap64 (30 * a0_1)))) + 30))) else (some (wrap64 ((wrap64 ((wrap64 (360 * a0_0)) + (wrap64 (30 * a0_1)))) + a0_2)))
set_option maxHeartbeats 8000000 in
set_option maxRecDepth 100000 in
theorem trivetlaw05_thirty.calls (a0_0 : Int) (a0_1 : Int) (a0_2 : Int) (r : Int) (w : World) (h : trivetlaw05_thirty.f a0_0 a0_1 a0_2 = some r) :
    Calls Try.prog 11 #[.agg #[.int .i64 a0_0, .int .i64 a0_1, .int .i64 a0_2]] w fun e w' => e = .returned (.int .i64 r) ∧ Below w.heap.size w w' := by
  have hu23 := Try.underlying23
  have HB := Aside0.mk (Below.refl w.heap.size w)
  have H : (if a0_2 = 31 then (some (wrap64 ((wrap64 ((wrap64 (360 * a0_0)) + (wrap64 (30 * a0_1)))) + 30))) else (some (wrap64 ((wrap64 ((wrap64 (360 * a0_0)) + (wrap64 (30 * a0_1)))) + a0_2)))) = some r := h
  clear h
  by_cases c2 : a0_2 = 31
  · rw [if_pos c2] at H
    have c2b0 : (a0_2 == 31) = true := beq_iff_eq.mpr c2
    have c2b1 : (a0_2 != 31) = false := bne_eq_false_iff_eq.mpr c2
    clear c2
    obtain rfl := Option.some.inj H
    go_enter Try.func11, Try.ntmps11
    go_wp2_with (first | ((with_reducible refine gate_dst (N := 1) rfl ?_); refine box_event ?hg (N := 1) ?hd (cs := #[.int .i64 a0_0, .int .i64 a0_1, .int .i64 a0_2]) (t := 23) ?hr ?_; (case hd => rfl); (case hg => rfl); (case hr => first | (go_simp; done) | (go_simp; rfl)); intro gb151 hg w3 hbox hb; have n0_ := Aside0.mk (below_step (by repeat (first | (with_reducible first | exact HB.out | apply below_alloc | apply pw_below_drewN | apply below_drew1) | exact HB.out)) hb); have n1_ := Aside0.mk (hbox); have n2_ := Aside0.mk ((by rw [hg]; exact (below_size (by repeat (first | (with_reducible first | exact HB.out | apply below_alloc | apply pw_below_drewN | apply below_drew1) | exact HB.out))) : w.heap.size ≤ gb151)); have n3_ := Aside0.mk ((by rw [hg]; exact (below_size (by repeat (first | (with_reducible first | exact HB.out | apply below_alloc | apply pw_below_drewN | apply below_drew1) | exact HB.out))) : w.heap.size ≤ gb151)); clear HB; have HB := n0_; have BK151 := n1_; have GW151 := n2_; have GE151 := n3_; clear n0_ n1_ n2_ n3_; clear hb hbox hg; have hcz4_0 : w3.cell? ⟨gb151, 0, none⟩ = some (.int .i64 a0_0) := (blk_cell BK151.out 0).trans rfl; have hcz4_1 : w3.cell? ⟨gb151, 1, none⟩ = some (.int .i64 a0_1) := (blk_cell BK151.out 1).trans rfl; have hcz4_2 : w3.cell? ⟨gb151, 2, none⟩ = some (.int .i64 a0_2) := (blk_cell BK151.out 2).trans rfl; have hfz4_0 := blk_frozen BK151.out 0; have hfz4_1 := blk_frozen BK151.out 1; have hfz4_2 := blk_frozen BK151.out 2))
    go_ret
    exact ⟨by first | rfl | (simp [errW_none, errW_some] <;> rfl) | (simp [*, errW_none, errW_some] <;> rfl), by repeat (first | (with_reducible first | exact HB.out | apply below_alloc | apply pw_below_drewN | apply below_drew1 | refine below_set ?_ GE151.out) | exact HB.out)⟩
  · rw [if_neg c2] at H
    have c2b0 : (a0_2 == 31) = false := beq_eq_false_iff_ne.mpr c2
    have c2b1 : (a0_2 != 31) = true := bne_iff_ne.mpr c2
    obtain rfl := Option.some.inj H
    go_enter Try.func11, Try.ntmps11
    go_wp2_with (first | ((with_reducible refine gate_dst (N := 1) rfl ?_); refine box_event ?hg (N := 1) ?hd (cs := #[.int .i64 a0_0, .int .i64 a0_1, .int .i64 a0_2]) (t := 23) ?hr ?_; (case hd => rfl); (case hg => rfl); (case hr => first | (go_simp; done) | (go_simp; rfl)); intro gb151 hg w5 hbox hb; have n0_ := Aside0.mk (below_step (by repeat (first | (with_reducible first | exact HB.out | apply below_alloc | apply pw_below_drewN | apply below_drew1) | exact HB.out)) hb); have n1_ := Aside0.mk (hbox); have n2_ := Aside0.mk ((by rw [hg]; exact (below_size (by repeat (first | (with_reducible first | exact HB.out | apply below_alloc | apply pw_below_drewN | apply below_drew1) | exact HB.out))) : w.heap.size ≤ gb151)); have n3_ := Aside0.mk ((by rw [hg]; exact (below_size (by repeat (first | (with_reducible first | exact HB.out | apply below_alloc | apply pw_below_drewN | apply below_drew1) | exact HB.out))) : w.heap.size ≤ gb151)); clear HB; have HB := n0_; have BK151 := n1_; have GW151 := n2_; have GE151 := n3_; clear n0_ n1_ n2_ n3_; clear hb hbox hg; have hcz6_0 : w5.cell? ⟨gb151, 0, none⟩ = some (.int .i64 a0_0) := (blk_cell BK151.out 0).trans rfl; have hcz6_1 : w5.cell? ⟨gb151, 1, none⟩ = some (.int .i64 a0_1) := (blk_cell BK151.out 1).trans rfl; have hcz6_2 : w5.cell? ⟨gb151, 2, none⟩ = some (.int .i64 a0_2) := (blk_cell BK151.out 2).trans rfl; have hfz6_0 := blk_frozen BK151.out 0; have hfz6_1 := blk_frozen BK151.out 1; have hfz6_2 := blk_frozen BK151.out 2))
    go_ret
    exact ⟨by first | rfl | (simp [errW_none, errW_some] <;> rfl) | (simp [*, errW_none, errW_some] <;> rfl), by repeat (first | (with_reducible first | exact HB.out | apply below_alloc | apply pw_below_drewN | apply below_drew1 | refine below_set ?_ GE151.out) | exact HB.out)⟩

end Go.Proofs.Ytonjhfneeejdaaa.P
