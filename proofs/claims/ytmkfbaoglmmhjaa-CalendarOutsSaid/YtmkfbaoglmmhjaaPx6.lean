-- Written by a program of this session out of the translation of the seat: Lean functions and the proofs that the Go functions come to them.
import Derived.Test.YtmkfbaoglmmhjaaPx0
import Derived.Test.YtmkfbaoglmmhjaaPx5
namespace Go.Proofs.Ytmkfbaoglmmhjaa.P
open Go.RowKit Go.Proofs.YtmkfbaoglmmhjaaW.PrintWords Go.Proofs.YtmkfbaoglmmhjaaW.PrintLast Go.Proofs.YtmkfbaoglmmhjaaW.PrintMore
attribute [local go_sem] max2_int min2_int max_two min_two max_three min_three max_four min_four   -- for this text's walks alone
set_option linter.unusedVariables false
set_option linter.unusedSimpArgs false

/-! ### trivetref04_Number: function 19 -/
mutual
def trivetref04_Number.l0 : Nat → Int → Int → Int → Int → Int → Option (Int)
 | 0, _, _, _, _, _ => none
 | k + 1, x3, x4, x448000, x448001, x448002 => if x4 < x448001 then ((trivetref04_Days_s.f x448000 x4).bind fun t448 => (trivetref04_Number.l0 k (wrap64 (x3 + t448)) (wrap64 (x4 + 1)) x448000 x448001 x448002)) else (trivetref04_Number.l1 k x3 1970 x448000 x448001 x448002)
def trivetref04_Number.l1 : Nat → Int → Int → Int → Int → Int → Option (Int)
 | 0, _, _, _, _, _ => none
 | k + 1, x3, x5, x448000, x448001, x448002 => if x5 < x448000 then ((trivetref04_year_s.f x5).bind fun t449 => (trivetref04_Number.l1 k (wrap64 (x3 + t449)) (wrap64 (x5 + 1)) x448000 x448001 x448002)) else (trivetref04_Number.l2 k x3 x448000)
def trivetref04_Number.l2 : Nat → Int → Int → Option (Int)
 | 0, _, _ => none
 | k + 1, x3, x6 => if x6 < 1970 then ((trivetref04_year_s.f x6).bind fun t450 => (trivetref04_Number.l2 k (wrap64 (x3 - t450)) (wrap64 (x6 + 1)))) else (some x3)
end
def trivetref04_Number.f (k : Nat) (a0_0 : Int) (a0_1 : Int) (a0_2 : Int) : Option (Int) := trivetref04_Number.l0 k (wrap64 (a0_2 - 1)) 1 a0_0 a0_1 a0_2
theorem trivetref04_Number.mono_l : ∀ k, (∀ y0 y1 y2 y3 y4, LeO (trivetref04_Number.l0 k y0 y1 y2 y3 y4) (trivetref04_Number.l0 (k + 1) y0 y1 y2 y3 y4)) ∧ (∀ y0 y1 y2 y3 y4, LeO (trivetref04_Number.l1 k y0 y1 y2 y3 y4) (trivetref04_Number.l1 (k + 1) y0 y1 y2 y3 y4)) ∧ (∀ y0 y1, LeO (trivetref04_Number.l2 k y0 y1) (trivetref04_Number.l2 (k + 1) y0 y1))
 | 0 => ⟨fun _ _ _ _ _ r h => by simp [trivetref04_Number.l0] at h, fun _ _ _ _ _ r h => by simp [trivetref04_Number.l1] at h, fun _ _ r h => by simp [trivetref04_Number.l2] at h⟩
 | k + 1 => by
  obtain ⟨ih0, ih1, ih2⟩ := trivetref04_Number.mono_l k
  refine ⟨?_, ?_, ?_⟩
  ·intro y0 y1 y2 y3 y4
   unfold trivetref04_Number.l0
   repeat' first
   | (with_reducible exact ih0 _ _ _ _ _)
   | (with_reducible exact ih1 _ _ _ _ _)
   | (with_reducible exact ih2 _ _)
   | (with_reducible exact LeO.refl _)
   | (with_reducible exact LeO.none _)
   | (with_reducible refine LeO.ite ?_ ?_)
   | (with_reducible refine LeO.bind ?_ (fun _ => ?_))
   | exact ih0 _ _ _ _ _
   | exact ih1 _ _ _ _ _
   | exact ih2 _ _
   | exact LeO.none _
   | refine LeO.ite ?_ ?_
   | refine LeO.bind ?_ (fun _ => ?_)
  ·intro y0 y1 y2 y3 y4
   unfold trivetref04_Number.l1
   repeat' first
   | (with_reducible exact ih0 _ _ _ _ _)
   | (with_reducible exact ih1 _ _ _ _ _)
   | (with_reducible exact ih2 _ _)
   | (with_reducible exact LeO.refl _)
   | (with_reducible exact LeO.none _)
   | (with_reducible refine LeO.ite ?_ ?_)
   | (with_reducible refine LeO.bind ?_ (fun _ => ?_))
   | exact ih0 _ _ _ _ _
   | exact ih1 _ _ _ _ _
   | exact ih2 _ _
   | exact LeO.none _
   | refine LeO.ite ?_ ?_
   | refine LeO.bind ?_ (fun _ => ?_)
  ·intro y0 y1
   unfold trivetref04_Number.l2
   repeat' first
   | (with_reducible exact ih0 _ _ _ _ _)
   | (with_reducible exact ih1 _ _ _ _ _)
   | (with_reducible exact ih2 _ _)
   | (with_reducible exact LeO.refl _)
   | (with_reducible exact LeO.none _)
   | (with_reducible refine LeO.ite ?_ ?_)
   | (with_reducible refine LeO.bind ?_ (fun _ => ?_))
   | exact ih0 _ _ _ _ _
   | exact ih1 _ _ _ _ _
   | exact ih2 _ _
   | exact LeO.none _
   | refine LeO.ite ?_ ?_
   | refine LeO.bind ?_ (fun _ => ?_)
theorem trivetref04_Number.mono : ∀ a0 a1 a2 k, LeO (trivetref04_Number.f k a0 a1 a2) (trivetref04_Number.f (k + 1) a0 a1 a2) := by
 intro a0 a1 a2 k
 obtain ⟨ih0, ih1, ih2⟩ := trivetref04_Number.mono_l k
 unfold trivetref04_Number.f
 repeat' first
   | (with_reducible exact ih0 _ _ _ _ _)
   | (with_reducible exact ih1 _ _ _ _ _)
   | (with_reducible exact ih2 _ _)
   | (with_reducible exact LeO.refl _)
   | (with_reducible exact LeO.none _)
   | (with_reducible refine LeO.ite ?_ ?_)
   | (with_reducible refine LeO.bind ?_ (fun _ => ?_))
   | exact ih0 _ _ _ _ _
   | exact ih1 _ _ _ _ _
   | exact ih2 _ _
   | exact LeO.none _
   | refine LeO.ite ?_ ?_
   | refine LeO.bind ?_ (fun _ => ?_)
set_option maxHeartbeats 8000000 in
set_option maxRecDepth 100000 in
theorem trivetref04_Number.calls (k : Nat) (a0_0 : Int) (a0_1 : Int) (a0_2 : Int) (r : Int) (w : World) (h : trivetref04_Number.f k a0_0 a0_1 a0_2 = some r) :
  Calls Try.prog 19 #[.agg #[.int .i64 a0_0, .int .i64 a0_1, .int .i64 a0_2]] w fun e w' => e = .returned (.int .i64 r) ∧ Below w.heap.size w w' := by
 have hu30 := Try.underlying30
 have HB := ka (Below.refl w.heap.size w)
 have H : (trivetref04_Number.l0 k (wrap64 (a0_2 - 1)) 1 a0_0 a0_1 a0_2) = some r := h
 clear h
 have H' := ka H
 clear H
 go_enter Try.func19, Try.ntmps19
 go_wp2_with (first | ((with_reducible refine gate_dst (N := 1) rfl ?_); refine kx (N := 1) (cs := #[.int .i64 a0_0, .int .i64 a0_1, .int .i64 a0_2]) (t := 30) ?_; intro gb447 hg w2 hbox hb; have n0_ := ka (below_step (kw HB.out) hb); have n1_ := ka (hbox); have n2_ := ka ((by rw [hg]; exact (below_size (kw HB.out)) : w.heap.size ≤ gb447)); have n3_ := n2_; clear HB; have HB := n0_; have BK447 := n1_; have GW447 := n2_; have GE447 := n3_; clear n0_ n1_ n2_ n3_; clear hb hbox hg; have hcz3 := blkAll3 BK447.out))
 (try simp only [Act.put, List.setIfInBounds_toArray, List.set_cons_zero, List.set_cons_succ])
 go_loopg [3, 4] k (fun kq v3 v4 w' => ∃ (x3_1 : Int) (x4_1 : Int), v3 = .int .i64 x3_1 ∧ v4 = .int .i64 x4_1 ∧ Aside0 (trivetref04_Number.l0 kq x3_1 x4_1 a0_0 a0_1 a0_2 = some r) ∧ Aside0 (kq ≤ k) ∧ Aside0 (w'.heap[gb447]? = some (.cells #[.int .i64 a0_0, .int .i64 a0_1, .int .i64 a0_2] 30 (0, 0))) ∧ Aside0 (Below w.heap.size w w'))
 case atStart => exact ⟨(wrap64 (a0_2 - 1)), (1), (by first | rfl | (simp; done) | (simp [*]; done)), (by first | rfl | (simp; done) | (simp [*]; done)), H', ⟨Nat.le_refl _⟩, ⟨by (with_reducible repeat (first | apply kb1 | apply kb2 | apply kb3)); exact BK447.out⟩, ⟨by repeat (first | (with_reducible first | exact HB.out | apply kc1 | apply kc2 | apply kc3 | refine kc4 ?_ GE447.out) | exact HB.out)⟩⟩
 case round =>
  clear H'
  try clear c1
  try clear p2
  try clear hcz3
  obtain ⟨x3_1, x4_1, rfl, rfl, HA, HK1, BK447, HB⟩ := hrel
  cases gk with
  | zero => exact absurd HA.out (by simp [trivetref04_Number.l0])
  | succ k1 =>
   have H := HA.out
   clear HA
   simp only [trivetref04_Number.l0] at H
   by_cases c4 : x4_1 < a0_1
   ·rw [if_pos c4] at H
    have c4b0 : decide (x4_1 < a0_1) = true := decide_eq_true c4
    clear c4
    replace H := Option.bind_eq_some_iff.mp H
    obtain ⟨t448, A50, H⟩ := H
    replace H : (trivetref04_Number.l0 k1 (wrap64 (x3_1 + t448)) (wrap64 (x4_1 + 1)) a0_0 a0_1 a0_2) = some r := H
    have A5 := ka A50
    clear A50
    have H' := ka H
    clear H
    have hcz6 := blkAll3 BK447.out
    go_wp2_with (first | ((with_reducible refine gate_callee (f := 24) rfl ?_); refine kg (some 20) rfl rfl Try.func24 (by kernel_rfl) rfl #[.int .i64 a0_0, .int .i64 x4_1] rfl ?_; (with_reducible refine (trivetref04_Days_s.calls a0_0 x4_1 t448 _ A5.out).mono ?_); rintro e w' ⟨rfl, ⟨nd, rfl⟩⟩; refine ⟨_, rfl, ?_⟩))
    go_roundg k1
    case measure => have := HK1.out; omega
    case rel => exact ⟨(wrap64 (x3_1 + t448)), (wrap64 (x4_1 + 1)), (by first | rfl | (simp; done) | (simp [*]; done)), (by first | rfl | (simp; done) | (simp [*]; done)), H', ⟨by have := HK1.out; omega⟩, ⟨by (with_reducible repeat (first | apply kb1 | apply kb2 | apply kb3)); exact BK447.out⟩, ⟨by repeat (first | (with_reducible first | exact HB.out | apply kc1 | apply kc2 | apply kc3 | refine kc4 ?_ GE447.out) | exact HB.out)⟩⟩
   ·rw [if_neg c4] at H
    have c4b0 : decide (x4_1 < a0_1) = false := decide_eq_false c4
    clear c4
    have H' := ka H
    clear H
    have hcz7 := blkAll3 BK447.out
    go_wp2
    (try simp only [Act.put, List.setIfInBounds_toArray, List.set_cons_zero, List.set_cons_succ])
    go_loopg [3, 5] k1 (fun kq v3 v5 w' => ∃ (x3_2 : Int) (x5_2 : Int), v3 = .int .i64 x3_2 ∧ v5 = .int .i64 x5_2 ∧ Aside0 (trivetref04_Number.l1 kq x3_2 x5_2 a0_0 a0_1 a0_2 = some r) ∧ Aside0 (kq ≤ k1) ∧ Aside0 (w'.heap[gb447]? = some (.cells #[.int .i64 a0_0, .int .i64 a0_1, .int .i64 a0_2] 30 (0, 0))) ∧ Aside0 (Below w.heap.size w w'))
    case atStart => exact ⟨(x3_1), (1970), (by first | rfl | (simp; done) | (simp [*]; done)), (by first | rfl | (simp; done) | (simp [*]; done)), H', ⟨Nat.le_refl _⟩, ⟨by (with_reducible repeat (first | apply kb1 | apply kb2 | apply kb3)); exact BK447.out⟩, ⟨by repeat (first | (with_reducible first | exact HB.out | apply kc1 | apply kc2 | apply kc3 | refine kc4 ?_ GE447.out) | exact HB.out)⟩⟩
    case round =>
     clear H'
     try clear c1
     try clear c2
     try clear p2
     try clear c4
     try clear c4b0
     try clear p6
     try clear hcz3
     try clear hcz6
     try clear hcz7
     try clear p2
     obtain ⟨x3_2, x5_2, rfl, rfl, HA, HK2, BK447, HB⟩ := hrel
     cases gk with
     | zero => exact absurd HA.out (by simp [trivetref04_Number.l1])
     | succ k2 =>
      have H := HA.out
      clear HA
      simp only [trivetref04_Number.l1] at H
      by_cases c8 : x5_2 < a0_0
      ·rw [if_pos c8] at H
       have c8b0 : decide (x5_2 < a0_0) = true := decide_eq_true c8
       clear c8
       replace H := Option.bind_eq_some_iff.mp H
       obtain ⟨t449, A90, H⟩ := H
       replace H : (trivetref04_Number.l1 k2 (wrap64 (x3_2 + t449)) (wrap64 (x5_2 + 1)) a0_0 a0_1 a0_2) = some r := H
       have A9 := ka A90
       clear A90
       have H' := ka H
       clear H
       have hcz10 := blkAll3 BK447.out
       go_wp2_with (first | ((with_reducible refine gate_callee (f := 23) rfl ?_); refine kg (some 30) rfl rfl Try.func23 (by kernel_rfl) rfl #[.int .i64 x5_2] rfl ?_; (with_reducible refine (trivetref04_year_s.calls x5_2 t449 _ A9.out).mono ?_); rintro e w' ⟨rfl, ⟨nd, rfl⟩⟩; refine ⟨_, rfl, ?_⟩))
       go_roundg k2
       case measure => have := HK1.out; have := HK2.out; omega
       case rel => exact ⟨(wrap64 (x3_2 + t449)), (wrap64 (x5_2 + 1)), (by first | rfl | (simp; done) | (simp [*]; done)), (by first | rfl | (simp; done) | (simp [*]; done)), H', ⟨by have := HK1.out; have := HK2.out; omega⟩, ⟨by (with_reducible repeat (first | apply kb1 | apply kb2 | apply kb3)); exact BK447.out⟩, ⟨by repeat (first | (with_reducible first | exact HB.out | apply kc1 | apply kc2 | apply kc3 | refine kc4 ?_ GE447.out) | exact HB.out)⟩⟩
      ·rw [if_neg c8] at H
       have c8b0 : decide (x5_2 < a0_0) = false := decide_eq_false c8
       clear c8
       have H' := ka H
       clear H
       have hcz11 := blkAll3 BK447.out
       go_wp2
       (try simp only [Act.put, List.setIfInBounds_toArray, List.set_cons_zero, List.set_cons_succ])
       go_loopg [3, 6] k2 (fun kq v3 v6 w' => ∃ (x3_3 : Int) (x6_3 : Int), v3 = .int .i64 x3_3 ∧ v6 = .int .i64 x6_3 ∧ Aside0 (trivetref04_Number.l2 kq x3_3 x6_3 = some r) ∧ Aside0 (kq ≤ k2) ∧ Aside0 (w'.heap[gb447]? = some (.cells #[.int .i64 a0_0, .int .i64 a0_1, .int .i64 a0_2] 30 (0, 0))) ∧ Aside0 (Below w.heap.size w w'))
       case atStart => exact ⟨(x3_2), (a0_0), (by first | rfl | (simp; done) | (simp [*]; done)), (by first | rfl | (simp; done) | (simp [*]; done)), H', ⟨Nat.le_refl _⟩, ⟨by (with_reducible repeat (first | apply kb1 | apply kb2 | apply kb3)); exact BK447.out⟩, ⟨by repeat (first | (with_reducible first | exact HB.out | apply kc1 | apply kc2 | apply kc3 | refine kc4 ?_ GE447.out) | exact HB.out)⟩⟩
       case round =>
        clear H'
        try clear c1
        try clear c2
        try clear p2
        try clear c4
        try clear c4b0
        try clear p6
        try clear c8
        try clear c8b0
        try clear hcz10
        try clear hcz11
        try clear hcz3
        try clear hcz6
        try clear hcz7
        try clear p2
        try clear p6
        obtain ⟨x3_3, x6_3, rfl, rfl, HA, HK3, BK447, HB⟩ := hrel
        cases gk with
        | zero => exact absurd HA.out (by simp [trivetref04_Number.l2])
        | succ k3 =>
         have H := HA.out
         clear HA
         simp only [trivetref04_Number.l2] at H
         by_cases c12 : x6_3 < 1970
         ·rw [if_pos c12] at H
          have c12b0 : decide (x6_3 < 1970) = true := decide_eq_true c12
          clear c12
          replace H := Option.bind_eq_some_iff.mp H
          obtain ⟨t450, A130, H⟩ := H
          replace H : (trivetref04_Number.l2 k3 (wrap64 (x3_3 - t450)) (wrap64 (x6_3 + 1))) = some r := H
          have A13 := ka A130
          clear A130
          have H' := ka H
          clear H
          go_wp2_with (first | ((with_reducible refine gate_callee (f := 23) rfl ?_); refine kg (some 40) rfl rfl Try.func23 (by kernel_rfl) rfl #[.int .i64 x6_3] rfl ?_; (with_reducible refine (trivetref04_year_s.calls x6_3 t450 _ A13.out).mono ?_); rintro e w' ⟨rfl, ⟨nd, rfl⟩⟩; refine ⟨_, rfl, ?_⟩))
          go_roundg k3
          case measure => have := HK1.out; have := HK2.out; have := HK3.out; omega
          case rel => exact ⟨(wrap64 (x3_3 - t450)), (wrap64 (x6_3 + 1)), (by first | rfl | (simp; done) | (simp [*]; done)), (by first | rfl | (simp; done) | (simp [*]; done)), H', ⟨by have := HK1.out; have := HK2.out; have := HK3.out; omega⟩, ⟨by (with_reducible repeat (first | apply kb1 | apply kb2 | apply kb3)); exact BK447.out⟩, ⟨by repeat (first | (with_reducible first | exact HB.out | apply kc1 | apply kc2 | apply kc3 | refine kc4 ?_ GE447.out) | exact HB.out)⟩⟩
         ·rw [if_neg c12] at H
          have c12b0 : decide (x6_3 < 1970) = false := decide_eq_false c12
          clear c12
          obtain rfl := Option.some.inj H
          go_wp2
          go_ret
          exact ⟨by first | rfl | (simp [errW_none, errW_some] <;> rfl) | (simp [*, errW_none, errW_some] <;> rfl), by repeat (first | (with_reducible first | exact HB.out | apply kc1 | apply kc2 | apply kc3 | refine kc4 ?_ GE447.out) | exact HB.out)⟩

/-! ### trivetref04_Number_s: function 19, told plainly -/
theorem trivetref04_Number.loop2 (Y : Int) (hY : 1900 ≤ Y ∧ Y ≤ 2199) (n0 : Int) (h0 : -2000000 ≤ n0 ∧ n0 ≤ 2000000) : ∀ (j : Nat) (y : Int), y + j = 1970 → Y ≤ y → ∀ k, j + 1 ≤ k →
  trivetref04_Number.l2 k (n0 - (M.civ y 1 1 - M.civ Y 1 1)) y = some (n0 + M.civ Y 1 1) := by
 have bY := M.civ_bd (y := Y) (m := 1) (d := 1) ⟨by decide, by have := M.days_pos (y := Y) (m := 1) (by omega); omega⟩
 have c1970 : M.civ 1970 1 1 = 0 := by decide
 intro j
 induction j with
 | zero =>
  intro y hy hle k hk
  obtain ⟨k, rfl⟩ : ∃ m, k = m + 1 := ⟨k - 1, by omega⟩
  obtain rfl : y = 1970 := by omega
  simp only [trivetref04_Number.l2]
  rw [if_neg (by decide), c1970]
  congr 1
  omega
 | succ j ih =>
  intro y hy hle k hk
  obtain ⟨k, rfl⟩ : ∃ m, k = m + 1 := ⟨k - 1, by omega⟩
  have by_ := M.civ_bd (y := y) (m := 1) (d := 1) ⟨by decide, by have := M.days_pos (y := y) (m := 1) (by omega); omega⟩
  have hd := M.days_bd y 2
  simp only [trivetref04_Number.l2]
  unfold trivetref04_year_s.f
  rw [if_pos (by omega), Option.bind_some, M.w64_id (n := y + 1) (by omega) (by omega)]
  have e := M.civ_ylen (y := y) (by omega)
  rw [M.w64_id (by omega) (by omega), show n0 - (M.civ y 1 1 - M.civ Y 1 1) - (337 + M.days y 2) = n0 - (M.civ (y + 1) 1 1 - M.civ Y 1 1) by omega]
  exact ih (y + 1) (by omega) (by omega) k (by omega)
theorem trivetref04_Number.loop1 (Y m d : Int) (hY : 1900 ≤ Y ∧ Y ≤ 2199) (n0 : Int) (h0 : -2000000 ≤ n0 ∧ n0 ≤ 2000000) : ∀ (j : Nat) (y : Int), y + j = Y → 1970 ≤ y → ∀ k, j + 80 ≤ k →
  trivetref04_Number.l1 k (n0 + M.civ y 1 1) y Y m d = some (n0 + M.civ Y 1 1) := by
 intro j
 induction j with
 | zero =>
  intro y hy hle k hk
  obtain ⟨k, rfl⟩ : ∃ m, k = m + 1 := ⟨k - 1, by omega⟩
  obtain rfl : y = Y := by omega
  simp only [trivetref04_Number.l1]
  rw [if_neg (by omega)]
  obtain ⟨k, rfl⟩ : ∃ m, k = m + 1 := ⟨k - 1, by omega⟩
  simp only [trivetref04_Number.l2]
  rw [if_neg (by omega)]
 | succ j ih =>
  intro y hy hle k hk
  obtain ⟨k, rfl⟩ : ∃ m, k = m + 1 := ⟨k - 1, by omega⟩
  have by_ := M.civ_bd (y := y) (m := 1) (d := 1) ⟨by decide, by have := M.days_pos (y := y) (m := 1) (by omega); omega⟩
  have hd := M.days_bd y 2
  simp only [trivetref04_Number.l1]
  unfold trivetref04_year_s.f
  rw [if_pos (by omega), Option.bind_some, M.w64_id (n := y + 1) (by omega) (by omega)]
  have e := M.civ_ylen (y := y) (by omega)
  rw [M.w64_id (by omega) (by omega), show n0 + M.civ y 1 1 + (337 + M.days y 2) = n0 + M.civ (y + 1) 1 1 by omega]
  exact ih (y + 1) (by omega) (by omega) k (by omega)
theorem trivetref04_Number.loop0 (Y m d : Int) (hY : 1900 ≤ Y ∧ Y ≤ 2199) (hm : 1 ≤ m ∧ m ≤ 12) (hd : 1 ≤ d ∧ d ≤ 31) : ∀ (j : Nat) (i : Int), i + j = m → 1 ≤ i → ∀ k, j + 400 ≤ k →
  trivetref04_Number.l0 k (d - 1 + (M.civ Y i 1 - M.civ Y 1 1)) i Y m d = some (M.civ Y m d) := by
 have bY := M.civ_bd (y := Y) (m := 1) (d := 1) ⟨by decide, by have := M.days_pos (y := Y) (m := 1) (by omega); omega⟩
 have c1970 : M.civ 1970 1 1 = 0 := by decide
 intro j
 induction j with
 | zero =>
  intro i hi hle k hk
  obtain ⟨k, rfl⟩ : ∃ m, k = m + 1 := ⟨k - 1, by omega⟩
  obtain rfl : i = m := by omega
  have bm := M.civ_bd (y := Y) (m := i) (d := 1) ⟨by decide, by have := M.days_pos (y := Y) (m := i) (by omega); omega⟩
  simp only [trivetref04_Number.l0]
  rw [if_neg (by omega), M.civ_day Y i d]
  rcases Int.lt_or_le Y 1970 with hlt | hge
  ·obtain ⟨k, rfl⟩ : ∃ m, k = m + 1 := ⟨k - 1, by omega⟩
   simp only [trivetref04_Number.l1]
   rw [if_neg (by omega)]
   have := trivetref04_Number.loop2 Y hY (d - 1 + (M.civ Y i 1 - M.civ Y 1 1)) (by omega) (1970 - Y).toNat Y (by omega) (by omega) k (by omega)
   rw [show d - 1 + (M.civ Y i 1 - M.civ Y 1 1) - (M.civ Y 1 1 - M.civ Y 1 1) = d - 1 + (M.civ Y i 1 - M.civ Y 1 1) by omega] at this
   rw [this]
   congr 1
   omega
  ·have := trivetref04_Number.loop1 Y i d hY (d - 1 + (M.civ Y i 1 - M.civ Y 1 1)) (by omega) (Y - 1970).toNat 1970 (by omega) (by omega) k (by omega)
   rw [c1970, Int.add_zero] at this
   rw [this]
   congr 1
   omega
 | succ j ih =>
  intro i hi hle k hk
  obtain ⟨k, rfl⟩ : ∃ m, k = m + 1 := ⟨k - 1, by omega⟩
  have bm := M.civ_bd (y := Y) (m := i) (d := 1) ⟨by decide, by have := M.days_pos (y := Y) (m := i) (by omega); omega⟩
  have hdm := M.days_bd Y i
  have e := M.civ_next (y := Y) (m := i) hY (by omega)
  simp only [trivetref04_Number.l0]
  unfold trivetref04_Days_s.f
  rw [if_pos (by omega), Option.bind_some, M.w64_id (n := i + 1) (by omega) (by omega), M.w64_id (by omega) (by omega),
   show d - 1 + (M.civ Y i 1 - M.civ Y 1 1) + M.days Y i = d - 1 + (M.civ Y (i + 1) 1 - M.civ Y 1 1) by omega]
  exact ih (i + 1) (by omega) (by omega) k (by omega)
theorem trivetref04_Number.tells (y m d : Int) (h : 1900 ≤ y ∧ y ≤ 2199 ∧ 1 ≤ m ∧ m ≤ 12 ∧ 1 ≤ d ∧ d ≤ 31) (k : Nat) (hk : 420 ≤ k) : trivetref04_Number.f k y m d = some (M.civ y m d) := by
 unfold trivetref04_Number.f
 have := trivetref04_Number.loop0 y m d (by omega) (by omega) (by omega) (m - 1).toNat 1 (by omega) (by omega) k (by omega)
 rw [show d - 1 + (M.civ y 1 1 - M.civ y 1 1) = d - 1 by omega] at this
 rw [M.w64_id (by omega) (by omega)]
 exact this
def trivetref04_Number_s.f (y m d : Int) : Option Int := if 1900 ≤ y ∧ y ≤ 2199 ∧ 1 ≤ m ∧ m ≤ 12 ∧ 1 ≤ d ∧ d ≤ 31 then some (M.civ y m d) else none
theorem trivetref04_Number_s.calls (a0_0 : Int) (a0_1 : Int) (a0_2 : Int) (r : Int) (w : World) (h : trivetref04_Number_s.f a0_0 a0_1 a0_2 = some r) :
  Calls Try.prog 19 #[.agg #[.int .i64 a0_0, .int .i64 a0_1, .int .i64 a0_2]] w fun e w' => e = .returned (.int .i64 r) ∧ Below w.heap.size w w' := by
 unfold trivetref04_Number_s.f at h
 split at h
 ·rename_i hr
  exact trivetref04_Number.calls (420) a0_0 a0_1 a0_2 r w ((trivetref04_Number.tells a0_0 a0_1 a0_2 hr (420) (Nat.le_refl _)).trans h)
 ·cases h
theorem trivetref04_Number_s.yes {y m d : Int} (h : M.date y m d) : trivetref04_Number_s.f y m d = some (M.civ y m d) := by
 have a := M.date_in h
 unfold trivetref04_Number_s.f
 rw [if_pos (by omega)]

/-! ### trivetref04_Of: function 11 -/
mutual
def trivetref04_Of.j0 : Nat → Int → Int → Bool → Option (Int × Int × Int × Bool)
 | 0, _, _, _ => none
 | k + 1, x0, x4, x19 => if x19 = true then (some (0, 0, 0, false)) else (trivetref04_Of.l0 k (wrap64 (x0 - x4)) 1900)
def trivetref04_Of.l0 : Nat → Int → Int → Option (Int × Int × Int × Bool)
 | 0, _, _ => none
 | k + 1, x0, x6 => (trivetref04_year_s.f x6).bind fun t454 => (if x0 ≥ t454 then ((trivetref04_year_s.f x6).bind fun t455 => (trivetref04_Of.l0 k (wrap64 (x0 - t455)) (wrap64 (x6 + 1)))) else (trivetref04_Of.l1 k x0 x6 1))
def trivetref04_Of.l1 : Nat → Int → Int → Int → Option (Int × Int × Int × Bool)
 | 0, _, _, _ => none
 | k + 1, x0, x6, x7 => (trivetref04_Days_s.f x6 x7).bind fun t456 => (if x0 ≥ t456 then ((trivetref04_Days_s.f x6 x7).bind fun t457 => (trivetref04_Of.l1 k (wrap64 (x0 - t457)) x6 (wrap64 (x7 + 1)))) else (some (x6, x7, wrap64 (x0 + 1), true)))
end
def trivetref04_Of.f (k : Nat) (a0 : Int) : Option (Int × Int × Int × Bool) := (trivetref04_Number_s.f 1900 1 1).bind fun t452 => ((trivetref04_Number_s.f 2199 12 31).bind fun t453 => (if a0 < t452 then (trivetref04_Of.j0 k a0 t452 true) else (trivetref04_Of.j0 k a0 t452 (decide (a0 > t453)))))
theorem trivetref04_Of.mono_l : ∀ k, (∀ y0 y1 y2, LeO (trivetref04_Of.j0 k y0 y1 y2) (trivetref04_Of.j0 (k + 1) y0 y1 y2)) ∧ (∀ y0 y1, LeO (trivetref04_Of.l0 k y0 y1) (trivetref04_Of.l0 (k + 1) y0 y1)) ∧ (∀ y0 y1 y2, LeO (trivetref04_Of.l1 k y0 y1 y2) (trivetref04_Of.l1 (k + 1) y0 y1 y2))
 | 0 => ⟨fun _ _ _ r h => by simp [trivetref04_Of.j0] at h, fun _ _ r h => by simp [trivetref04_Of.l0] at h, fun _ _ _ r h => by simp [trivetref04_Of.l1] at h⟩
 | k + 1 => by
  obtain ⟨ih0, ih1, ih2⟩ := trivetref04_Of.mono_l k
  refine ⟨?_, ?_, ?_⟩
  ·intro y0 y1 y2
   unfold trivetref04_Of.j0
   repeat' first
   | (with_reducible exact ih0 _ _ _)
   | (with_reducible exact ih1 _ _)
   | (with_reducible exact ih2 _ _ _)
   | (with_reducible exact LeO.refl _)
   | (with_reducible exact LeO.none _)
   | (with_reducible refine LeO.ite ?_ ?_)
   | (with_reducible refine LeO.bind ?_ (fun _ => ?_))
   | exact ih0 _ _ _
   | exact ih1 _ _
   | exact ih2 _ _ _
   | exact LeO.none _
   | refine LeO.ite ?_ ?_
   | refine LeO.bind ?_ (fun _ => ?_)
  ·intro y0 y1
   unfold trivetref04_Of.l0
   repeat' first
   | (with_reducible exact ih0 _ _ _)
   | (with_reducible exact ih1 _ _)
   | (with_reducible exact ih2 _ _ _)
   | (with_reducible exact LeO.refl _)
   | (with_reducible exact LeO.none _)
   | (with_reducible refine LeO.ite ?_ ?_)
   | (with_reducible refine LeO.bind ?_ (fun _ => ?_))
   | exact ih0 _ _ _
   | exact ih1 _ _
   | exact ih2 _ _ _
   | exact LeO.none _
   | refine LeO.ite ?_ ?_
   | refine LeO.bind ?_ (fun _ => ?_)
  ·intro y0 y1 y2
   unfold trivetref04_Of.l1
   repeat' first
   | (with_reducible exact ih0 _ _ _)
   | (with_reducible exact ih1 _ _)
   | (with_reducible exact ih2 _ _ _)
   | (with_reducible exact LeO.refl _)
   | (with_reducible exact LeO.none _)
   | (with_reducible refine LeO.ite ?_ ?_)
   | (with_reducible refine LeO.bind ?_ (fun _ => ?_))
   | exact ih0 _ _ _
   | exact ih1 _ _
   | exact ih2 _ _ _
   | exact LeO.none _
   | refine LeO.ite ?_ ?_
   | refine LeO.bind ?_ (fun _ => ?_)
theorem trivetref04_Of.mono : ∀ a0 k, LeO (trivetref04_Of.f k a0) (trivetref04_Of.f (k + 1) a0) := by
 intro a0 k
 obtain ⟨ih0, ih1, ih2⟩ := trivetref04_Of.mono_l k
 unfold trivetref04_Of.f
 repeat' first
   | (with_reducible exact ih0 _ _ _)
   | (with_reducible exact ih1 _ _)
   | (with_reducible exact ih2 _ _ _)
   | (with_reducible exact LeO.refl _)
   | (with_reducible exact LeO.none _)
   | (with_reducible refine LeO.ite ?_ ?_)
   | (with_reducible refine LeO.bind ?_ (fun _ => ?_))
   | exact ih0 _ _ _
   | exact ih1 _ _
   | exact ih2 _ _ _
   | exact LeO.none _
   | refine LeO.ite ?_ ?_
   | refine LeO.bind ?_ (fun _ => ?_)
set_option maxHeartbeats 8000000 in
set_option maxRecDepth 100000 in
theorem trivetref04_Of.calls (k : Nat) (a0 : Int) (r1 : Int) (r2 : Int) (r3 : Int) (r4 : Bool) (w : World) (h : trivetref04_Of.f k a0 = some (r1, r2, r3, r4)) :
  Calls Try.prog 11 #[.int .i64 a0] w fun e w' => e = .returned (.tuple #[.agg #[.int .i64 r1, .int .i64 r2, .int .i64 r3], .bool r4]) ∧ Below w.heap.size w w' := by
 have hu30 := Try.underlying30
 have HB := ka (Below.refl w.heap.size w)
 have H : ((trivetref04_Number_s.f 1900 1 1).bind fun t452 => ((trivetref04_Number_s.f 2199 12 31).bind fun t453 => (if a0 < t452 then (trivetref04_Of.j0 k a0 t452 true) else (trivetref04_Of.j0 k a0 t452 (decide (a0 > t453)))))) = some (r1, r2, r3, r4) := h
 clear h
 replace H := Option.bind_eq_some_iff.mp H
 obtain ⟨t452, A20, H⟩ := H
 replace H : ((trivetref04_Number_s.f 2199 12 31).bind fun t453 => (if a0 < t452 then (trivetref04_Of.j0 k a0 t452 true) else (trivetref04_Of.j0 k a0 t452 (decide (a0 > t453))))) = some (r1, r2, r3, r4) := H
 have A2 := ka A20
 clear A20
 replace H := Option.bind_eq_some_iff.mp H
 obtain ⟨t453, A30, H⟩ := H
 replace H : (if a0 < t452 then (trivetref04_Of.j0 k a0 t452 true) else (trivetref04_Of.j0 k a0 t452 (decide (a0 > t453)))) = some (r1, r2, r3, r4) := H
 have A3 := ka A30
 clear A30
 have HC4 := ka H
 clear H
 go_enter Try.func11, Try.ntmps11
 go_upto_region 3 with (first | ((with_reducible refine gate_dst (N := 2) rfl ?_); refine kx (N := 2) (cs := #[.int .i64 0, .int .i64 0, .int .i64 0]) (t := 30) ?_; intro gb451 hg w5 hbox hb; have n0_ := ka (below_step (kw HB.out) hb); have n1_ := ka (hbox); have n2_ := ka ((by rw [hg]; exact (below_size (kw HB.out)) : w.heap.size ≤ gb451)); have n3_ := n2_; clear HB; have HB := n0_; have BK451 := n1_; have GW451 := n2_; have GE451 := n3_; clear n0_ n1_ n2_ n3_; clear hb hbox hg) | ((with_reducible refine gate_callee (f := 19) rfl ?_); refine kg (some 9) rfl rfl Try.func19 (by kernel_rfl) rfl #[.agg #[.int .i64 1900, .int .i64 1, .int .i64 1]] rfl ?_; (with_reducible refine (trivetref04_Number_s.calls 1900 1 1 t452 _ A2.out).mono ?_); rintro e w6 ⟨rfl, hb⟩; refine ⟨_, rfl, ?_⟩; replace BK451 := kbb BK451 hb; replace HB := ka (below_step (kw HB.out) hb); (try clear hb); (try clear hb2); (try clear hk); (try clear hi)) | ((with_reducible refine gate_callee (f := 19) rfl ?_); refine kg (some 11) rfl rfl Try.func19 (by kernel_rfl) rfl #[.agg #[.int .i64 2199, .int .i64 12, .int .i64 31]] rfl ?_; (with_reducible refine (trivetref04_Number_s.calls 2199 12 31 t453 _ A3.out).mono ?_); rintro e w7 ⟨rfl, hb⟩; refine ⟨_, rfl, ?_⟩; replace BK451 := kbb BK451 hb; replace HB := ka (below_step (kw HB.out) hb); (try clear hb); (try clear hb2); (try clear hk); (try clear hi)))
 (try simp only [Act.put, List.setIfInBounds_toArray, List.set_cons_zero, List.set_cons_succ])
 go_cut [19] (fun v19 wc => ∃ (kq : Nat) (x19_3 : Bool), v19 = .bool x19_3 ∧ Aside0 (trivetref04_Of.j0 kq a0 t452 x19_3 = some (r1, r2, r3, r4)) ∧ Aside0 (kq ≤ k) ∧ Aside0 (wc.heap[gb451]? = some (.cells #[.int .i64 0, .int .i64 0, .int .i64 0] 30 (0, 0))) ∧ Aside0 (Below w.heap.size w wc))
 case first =>
  have H := HC4.out
  clear HC4
  by_cases c8 : a0 < t452
  ·rw [if_pos c8] at H
   have c8b0 : decide (a0 < t452) = true := decide_eq_true c8
   clear c8
   (first | rw [c8b0] | (simp only [i64_w, i32_w]; rw [c8b0]) | skip)
   have H' := ka H
   clear H
   go_wp2
   go_meet
   case rel => exact ⟨_, (true), (by first | rfl | (simp; done) | (simp [*]; done)), H', ⟨by first | omega | exact Nat.le_refl _⟩, ⟨by (with_reducible repeat (first | apply kb1 | apply kb2 | apply kb3)); exact BK451.out⟩, ⟨by repeat (first | (with_reducible first | exact HB.out | apply kc1 | apply kc2 | apply kc3 | refine kc4 ?_ GE451.out) | exact HB.out)⟩⟩
  ·rw [if_neg c8] at H
   have c8b0 : decide (a0 < t452) = false := decide_eq_false c8
   clear c8
   (first | rw [c8b0] | (simp only [i64_w, i32_w]; rw [c8b0]) | skip)
   have H' := ka H
   clear H
   go_wp2
   go_meet
   case rel => exact ⟨_, (decide (a0 > t453)), (by first | rfl | (simp; done) | (simp [*]; done)), H', ⟨by first | omega | exact Nat.le_refl _⟩, ⟨by (with_reducible repeat (first | apply kb1 | apply kb2 | apply kb3)); exact BK451.out⟩, ⟨by repeat (first | (with_reducible first | exact HB.out | apply kc1 | apply kc2 | apply kc3 | refine kc4 ?_ GE451.out) | exact HB.out)⟩⟩
 case rest =>
  clear HC4
  try clear c1
  try clear p2
  try clear c8
  try clear c8b0
  obtain ⟨kq, x19_3, rfl, HA, HJ3, BK451, HB⟩ := hcut
  cases kq with
  | zero => exact absurd HA.out (by simp [trivetref04_Of.j0])
  | succ kj3 =>
   have H := HA.out
   clear HA
   simp only [trivetref04_Of.j0] at H
   by_cases c9 : x19_3 = true
   ·subst c9
    have H1 : (some (0, 0, 0, false)) = some (r1, r2, r3, r4) := by rw [if_pos rfl] at H; exact H
    clear H
    have H := H1
    clear H1
    simp only [Option.some.injEq, Prod.mk.injEq] at H
    obtain ⟨rfl, rfl, rfl, rfl⟩ := H
    have hcz10 := blkAll3 BK451.out
    go_wp2
    refine bodyPost_ret (results_ct rfl _ _ gb451 30 #[.int .i64 0, .int .i64 0, .int .i64 0] (0, 0) _ rfl (by (with_reducible repeat (first | apply kb1 | apply kb2 | apply kb3 | apply blkPut3_2 | apply blkPut3_1 | apply blkPut3_0)); exact BK451.out) Try.underlying30 rfl (by kernel_rfl)) rfl ?_
    exact ⟨by first | rfl | (simp [errW_none, errW_some] <;> rfl) | (simp [*, errW_none, errW_some] <;> rfl), by repeat (first | (with_reducible first | exact HB.out | apply kc1 | apply kc2 | apply kc3 | refine kc4 ?_ GE451.out) | exact HB.out)⟩
   ·replace c9 := Bool.eq_false_iff.mpr c9
    subst c9
    have H1 : (trivetref04_Of.l0 kj3 (wrap64 (a0 - t452)) 1900) = some (r1, r2, r3, r4) := by rw [if_neg (show ¬ (false = true) by decide)] at H; exact H
    clear H
    have H := H1
    clear H1
    have H' := ka H
    clear H
    go_wp2
    (try simp only [Act.put, List.setIfInBounds_toArray, List.set_cons_zero, List.set_cons_succ])
    go_loopg [0, 6] kj3 (fun kq v0 v6 w' => ∃ (x0_2 : Int) (x6_2 : Int), v0 = .int .i64 x0_2 ∧ v6 = .int .i64 x6_2 ∧ Aside0 (trivetref04_Of.l0 kq x0_2 x6_2 = some (r1, r2, r3, r4)) ∧ Aside0 (kq ≤ kj3) ∧ Aside0 (w'.heap[gb451]? = some (.cells #[.int .i64 0, .int .i64 0, .int .i64 0] 30 (0, 0))) ∧ Aside0 (Below w.heap.size w w'))
    case atStart => exact ⟨(wrap64 (a0 - t452)), (1900), (by first | rfl | (simp; done) | (simp [*]; done)), (by first | rfl | (simp; done) | (simp [*]; done)), H', ⟨Nat.le_refl _⟩, ⟨by (with_reducible repeat (first | apply kb1 | apply kb2 | apply kb3)); exact BK451.out⟩, ⟨by repeat (first | (with_reducible first | exact HB.out | apply kc1 | apply kc2 | apply kc3 | refine kc4 ?_ GE451.out) | exact HB.out)⟩⟩
    case round =>
     clear H'
     try clear c1
     try clear p2
     try clear p6
     try clear c8
     try clear c8b0
     try clear c9
     try clear hcz10
     try clear p2
     obtain ⟨x0_2, x6_2, rfl, rfl, HA, HK2, BK451, HB⟩ := hrel
     cases gk with
     | zero => exact absurd HA.out (by simp [trivetref04_Of.l0])
     | succ k2 =>
      have H := HA.out
      clear HA
      simp only [trivetref04_Of.l0] at H
      replace H := Option.bind_eq_some_iff.mp H
      obtain ⟨t454, A110, H⟩ := H
      replace H : (if x0_2 ≥ t454 then ((trivetref04_year_s.f x6_2).bind fun t455 => (trivetref04_Of.l0 k2 (wrap64 (x0_2 - t455)) (wrap64 (x6_2 + 1)))) else (trivetref04_Of.l1 k2 x0_2 x6_2 1)) = some (r1, r2, r3, r4) := H
      have A11 := ka A110
      clear A110
      by_cases c12 : x0_2 ≥ t454
      ·rw [if_pos c12] at H
       have c12b0 : decide (t454 ≤ x0_2) = true := decide_eq_true c12
       clear c12
       replace H := Option.bind_eq_some_iff.mp H
       obtain ⟨t455, A130, H⟩ := H
       replace H : (trivetref04_Of.l0 k2 (wrap64 (x0_2 - t455)) (wrap64 (x6_2 + 1))) = some (r1, r2, r3, r4) := H
       have A13 := ka A130
       clear A130
       have H' := ka H
       clear H
       go_wp2_with (first | ((with_reducible refine gate_callee (f := 23) rfl ?_); refine kg (some 26) rfl rfl Try.func23 (by kernel_rfl) rfl #[.int .i64 x6_2] rfl ?_; (with_reducible refine (trivetref04_year_s.calls x6_2 t454 _ A11.out).mono ?_); rintro e w' ⟨rfl, ⟨nd, rfl⟩⟩; refine ⟨_, rfl, ?_⟩) | ((with_reducible refine gate_callee (f := 23) rfl ?_); refine kg (some 30) rfl rfl Try.func23 (by kernel_rfl) rfl #[.int .i64 x6_2] rfl ?_; (with_reducible refine (trivetref04_year_s.calls x6_2 t455 _ A13.out).mono ?_); rintro e w' ⟨rfl, ⟨nd, rfl⟩⟩; refine ⟨_, rfl, ?_⟩))
       go_roundg k2
       case measure => have := HJ3.out; have := HK2.out; omega
       case rel => exact ⟨(wrap64 (x0_2 - t455)), (wrap64 (x6_2 + 1)), (by first | rfl | (simp; done) | (simp [*]; done)), (by first | rfl | (simp; done) | (simp [*]; done)), H', ⟨by have := HJ3.out; have := HK2.out; omega⟩, ⟨by (with_reducible repeat (first | apply kb1 | apply kb2 | apply kb3)); exact BK451.out⟩, ⟨by repeat (first | (with_reducible first | exact HB.out | apply kc1 | apply kc2 | apply kc3 | refine kc4 ?_ GE451.out) | exact HB.out)⟩⟩
      ·rw [if_neg c12] at H
       have c12b0 : decide (t454 ≤ x0_2) = false := decide_eq_false c12
       clear c12
       have H' := ka H
       clear H
       go_wp2_with (first | ((with_reducible refine gate_callee (f := 23) rfl ?_); refine kg (some 26) rfl rfl Try.func23 (by kernel_rfl) rfl #[.int .i64 x6_2] rfl ?_; (with_reducible refine (trivetref04_year_s.calls x6_2 t454 _ A11.out).mono ?_); rintro e w' ⟨rfl, ⟨nd, rfl⟩⟩; refine ⟨_, rfl, ?_⟩))
       (try simp only [Act.put, List.setIfInBounds_toArray, List.set_cons_zero, List.set_cons_succ])
       go_loopg [0, 7] k2 (fun kq v0 v7 w' => ∃ (x0_3 : Int) (x7_3 : Int), v0 = .int .i64 x0_3 ∧ v7 = .int .i64 x7_3 ∧ Aside0 (trivetref04_Of.l1 kq x0_3 x6_2 x7_3 = some (r1, r2, r3, r4)) ∧ Aside0 (kq ≤ k2) ∧ Aside0 (w'.heap[gb451]? = some (.cells #[.int .i64 0, .int .i64 0, .int .i64 0] 30 (0, 0))) ∧ Aside0 (Below w.heap.size w w'))
       case atStart => exact ⟨(x0_2), (1), (by first | rfl | (simp; done) | (simp [*]; done)), (by first | rfl | (simp; done) | (simp [*]; done)), H', ⟨Nat.le_refl _⟩, ⟨by (with_reducible repeat (first | apply kb1 | apply kb2 | apply kb3)); exact BK451.out⟩, ⟨by repeat (first | (with_reducible first | exact HB.out | apply kc1 | apply kc2 | apply kc3 | refine kc4 ?_ GE451.out) | exact HB.out)⟩⟩
       case round =>
        clear H'
        try clear c1
        try clear c2
        try clear p2
        try clear p6
        try clear c8
        try clear c8b0
        try clear c9
        try clear c11
        try clear c12
        try clear c12b0
        try clear hcz10
        try clear p2
        try clear p6
        obtain ⟨x0_3, x7_3, rfl, rfl, HA, HK3, BK451, HB⟩ := hrel
        cases gk with
        | zero => exact absurd HA.out (by simp [trivetref04_Of.l1])
        | succ k3 =>
         have H := HA.out
         clear HA
         simp only [trivetref04_Of.l1] at H
         replace H := Option.bind_eq_some_iff.mp H
         obtain ⟨t456, A140, H⟩ := H
         replace H : (if x0_3 ≥ t456 then ((trivetref04_Days_s.f x6_2 x7_3).bind fun t457 => (trivetref04_Of.l1 k3 (wrap64 (x0_3 - t457)) x6_2 (wrap64 (x7_3 + 1)))) else (some (x6_2, x7_3, wrap64 (x0_3 + 1), true))) = some (r1, r2, r3, r4) := H
         have A14 := ka A140
         clear A140
         by_cases c15 : x0_3 ≥ t456
         ·rw [if_pos c15] at H
          have c15b0 : decide (t456 ≤ x0_3) = true := decide_eq_true c15
          clear c15
          replace H := Option.bind_eq_some_iff.mp H
          obtain ⟨t457, A160, H⟩ := H
          replace H : (trivetref04_Of.l1 k3 (wrap64 (x0_3 - t457)) x6_2 (wrap64 (x7_3 + 1))) = some (r1, r2, r3, r4) := H
          have A16 := ka A160
          clear A160
          have H' := ka H
          clear H
          go_wp2_with (first | ((with_reducible refine gate_callee (f := 24) rfl ?_); refine kg (some 37) rfl rfl Try.func24 (by kernel_rfl) rfl #[.int .i64 x6_2, .int .i64 x7_3] rfl ?_; (with_reducible refine (trivetref04_Days_s.calls x6_2 x7_3 t456 _ A14.out).mono ?_); rintro e w' ⟨rfl, ⟨nd, rfl⟩⟩; refine ⟨_, rfl, ?_⟩) | ((with_reducible refine gate_callee (f := 24) rfl ?_); refine kg (some 42) rfl rfl Try.func24 (by kernel_rfl) rfl #[.int .i64 x6_2, .int .i64 x7_3] rfl ?_; (with_reducible refine (trivetref04_Days_s.calls x6_2 x7_3 t457 _ A16.out).mono ?_); rintro e w' ⟨rfl, ⟨nd, rfl⟩⟩; refine ⟨_, rfl, ?_⟩))
          go_roundg k3
          case measure => have := HJ3.out; have := HK2.out; have := HK3.out; omega
          case rel => exact ⟨(wrap64 (x0_3 - t457)), (wrap64 (x7_3 + 1)), (by first | rfl | (simp; done) | (simp [*]; done)), (by first | rfl | (simp; done) | (simp [*]; done)), H', ⟨by have := HJ3.out; have := HK2.out; have := HK3.out; omega⟩, ⟨by (with_reducible repeat (first | apply kb1 | apply kb2 | apply kb3)); exact BK451.out⟩, ⟨by repeat (first | (with_reducible first | exact HB.out | apply kc1 | apply kc2 | apply kc3 | refine kc4 ?_ GE451.out) | exact HB.out)⟩⟩
         ·rw [if_neg c15] at H
          have c15b0 : decide (t456 ≤ x0_3) = false := decide_eq_false c15
          clear c15
          simp only [Option.some.injEq, Prod.mk.injEq] at H
          obtain ⟨rfl, rfl, rfl, rfl⟩ := H
          go_wp2_with (first | ((with_reducible refine gate_callee (f := 24) rfl ?_); refine kg (some 37) rfl rfl Try.func24 (by kernel_rfl) rfl #[.int .i64 x6_2, .int .i64 x7_3] rfl ?_; (with_reducible refine (trivetref04_Days_s.calls x6_2 x7_3 t456 _ A14.out).mono ?_); rintro e w' ⟨rfl, ⟨nd, rfl⟩⟩; refine ⟨_, rfl, ?_⟩; (try (rw [drewN_self wr]; generalize hq_ : World.drewN wr _ = wr; replace BK451 : Aside0 (wr.heap[gb451]? = some (.cells #[.int .i64 0, .int .i64 0, .int .i64 0] 30 (0, 0))) := ⟨by rw [← hq_]; exact (kz BK451.out)⟩; replace HB : Aside0 (Below w.heap.size w wr) := ⟨by rw [← hq_]; exact (kw HB.out)⟩; clear hq_)); have hcz17 := blkAll3 BK451.out))
          refine bodyPost_ret (results_ct rfl _ _ gb451 30 #[.int .i64 x6_2, .int .i64 x7_3, .int .i64 (wrap64 (x0_3 + 1))] (0, 0) _ rfl (by (with_reducible repeat (first | apply kb1 | apply kb2 | apply kb3 | apply blkPut3_2 | apply blkPut3_1 | apply blkPut3_0)); exact BK451.out) Try.underlying30 rfl (by kernel_rfl)) rfl ?_
          exact ⟨by first | rfl | (simp [errW_none, errW_some] <;> rfl) | (simp [*, errW_none, errW_some] <;> rfl), by repeat (first | (with_reducible first | exact HB.out | apply kc1 | apply kc2 | apply kc3 | refine kc4 ?_ GE451.out) | exact HB.out)⟩

/-! ### trivetref04_Of_s: function 11, told plainly -/
theorem trivetref04_Of.loop1 (n Y : Int) (hY : 1900 ≤ Y ∧ Y ≤ 2199) (hn : n < M.civ (Y + 1) 1 1) : ∀ (j : Nat) (m : Int), m + j = 12 → 1 ≤ m → M.civ Y m 1 ≤ n → ∀ k, j + 1 ≤ k →
  ∃ m' d', trivetref04_Of.l1 k (n - M.civ Y m 1) Y m = some (Y, m', d', true) ∧ M.date Y m' d' ∧ M.civ Y m' d' = n := by
 intro j
 induction j with
 | zero =>
  intro m hm hm1 hc k hk
  obtain ⟨k, rfl⟩ : ∃ m, k = m + 1 := ⟨k - 1, by omega⟩
  obtain rfl : m = 12 := by omega
  have hl := M.days_pos (y := Y) (m := 12) (by omega)
  have hd : M.days Y 12 = 31 := by unfold M.days; rw [if_pos (by omega), if_neg (by decide), if_neg (by decide)]
  have hy := M.civ_year (y := Y)
  simp only [trivetref04_Of.l1]
  unfold trivetref04_Days_s.f
  rw [Option.bind_some, if_neg (by omega), M.w64_id (by omega) (by omega)]
  refine ⟨12, n - M.civ Y 12 1 + 1, rfl, ⟨by omega, by omega⟩, ?_⟩
  rw [M.civ_day]; omega
 | succ j ih =>
  intro m hm hm1 hc k hk
  obtain ⟨k, rfl⟩ : ∃ m, k = m + 1 := ⟨k - 1, by omega⟩
  have hl := M.days_pos (y := Y) (m := m) (by omega)
  have e := M.civ_next (y := Y) (m := m) hY (by omega)
  have b1 := M.civ_bd (y := Y) (m := m) (d := 1) ⟨by decide, by omega⟩
  have b2 := M.civ_ylen hY
  have b3 := M.civ_bd (y := Y) (m := 1) (d := 1) ⟨by decide, by have := M.days_pos (y := Y) (m := 1) (by omega); omega⟩
  have b4 := M.days_bd Y 2
  simp only [trivetref04_Of.l1]
  unfold trivetref04_Days_s.f
  rw [Option.bind_some]
  by_cases h : n - M.civ Y m 1 ≥ M.days Y m
  ·rw [if_pos h, Option.bind_some, M.w64_id (n := m + 1) (by omega) (by omega), M.w64_id (by omega) (by omega), show n - M.civ Y m 1 - M.days Y m = n - M.civ Y (m + 1) 1 by omega]
   exact ih (m + 1) (by omega) (by omega) (by omega) k (by omega)
  ·rw [if_neg h, M.w64_id (by omega) (by omega)]
   refine ⟨m, n - M.civ Y m 1 + 1, rfl, ⟨by omega, by omega⟩, ?_⟩
   rw [M.civ_day]; omega
theorem trivetref04_Of.loop0 (n : Int) (hn : n ≤ 84005) : ∀ (j : Nat) (y : Int), y + j = 2199 → 1900 ≤ y → M.civ y 1 1 ≤ n → ∀ k, j + 20 ≤ k →
  ∃ y' m' d', trivetref04_Of.l0 k (n - M.civ y 1 1) y = some (y', m', d', true) ∧ M.date y' m' d' ∧ M.civ y' m' d' = n := by
 have c1 : M.civ 2200 1 1 = 84006 := by decide
 intro j
 induction j with
 | zero =>
  intro y hy hy1 hc k hk
  obtain ⟨k, rfl⟩ : ∃ m, k = m + 1 := ⟨k - 1, by omega⟩
  obtain rfl : y = 2199 := by omega
  have e := M.civ_ylen (y := 2199) (by omega)
  simp only [trivetref04_Of.l0]
  unfold trivetref04_year_s.f
  rw [Option.bind_some, if_neg (by rw [show (2199 : Int) + 1 = 2200 from rfl] at e; omega)]
  obtain ⟨m', d', g1, g2, g3⟩ := trivetref04_Of.loop1 n 2199 (by omega) (by rw [show (2199 : Int) + 1 = 2200 from rfl]; omega) 11 1 (by omega) (by omega) hc k (by omega)
  exact ⟨2199, m', d', g1, g2, g3⟩
 | succ j ih =>
  intro y hy hy1 hc k hk
  obtain ⟨k, rfl⟩ : ∃ m, k = m + 1 := ⟨k - 1, by omega⟩
  have e := M.civ_ylen (y := y) (by omega)
  have b3 := M.civ_bd (y := y) (m := 1) (d := 1) ⟨by decide, by have := M.days_pos (y := y) (m := 1) (by omega); omega⟩
  have b4 := M.days_bd y 2
  simp only [trivetref04_Of.l0]
  unfold trivetref04_year_s.f
  rw [Option.bind_some]
  by_cases h : n - M.civ y 1 1 ≥ 337 + M.days y 2
  ·rw [if_pos h, Option.bind_some, M.w64_id (n := y + 1) (by omega) (by omega), M.w64_id (by omega) (by omega), show n - M.civ y 1 1 - (337 + M.days y 2) = n - M.civ (y + 1) 1 1 by omega]
   exact ih (y + 1) (by omega) (by omega) (by omega) k (by omega)
  ·rw [if_neg h]
   obtain ⟨m', d', g1, g2, g3⟩ := trivetref04_Of.loop1 n y (by omega) (by omega) 11 1 (by omega) (by omega) hc k (by omega)
   exact ⟨y, m', d', g1, g2, g3⟩
theorem trivetref04_Of.tells (n : Int) (hn : M.In n) (k : Nat) (hk : 400 ≤ k) : trivetref04_Of.f k n =
  some (if -25567 ≤ n ∧ n ≤ 84005 then (M.yr n, M.mo n, M.dy n, true) else (0, 0, 0, false)) := by
 obtain ⟨k, rfl⟩ : ∃ m, k = m + 1 := ⟨k - 1, by omega⟩
 have c0 : trivetref04_Number_s.f 1900 1 1 = some (-25567) := by decide
 have c1 : trivetref04_Number_s.f 2199 12 31 = some 84005 := by decide
 have c2 : M.civ 1900 1 1 = -25567 := by decide
 unfold trivetref04_Of.f
 rw [c0, c1]
 simp only [Option.bind_some]
 by_cases h1 : n < -25567
 ·rw [if_pos h1, if_neg (by omega)]
  simp [trivetref04_Of.j0]
 rw [if_neg h1]
 by_cases h2 : n > 84005
 ·rw [decide_eq_true h2, if_neg (by omega)]
  simp [trivetref04_Of.j0]
 rw [decide_eq_false h2, if_pos (show -25567 ≤ n ∧ n ≤ 84005 by omega)]
 simp only [trivetref04_Of.j0]
 rw [if_neg (by decide), M.w64_id (by omega) (by omega)]
 obtain ⟨y', m', d', g1, g2, g3⟩ := trivetref04_Of.loop0 n (by omega) 299 1900 (by omega) (by omega) (by omega) k (by omega)
 rw [c2] at g1
 rw [g1]
 obtain ⟨q1, q2, q3⟩ := M.of_civ g2
 rw [g3] at q1 q2 q3
 rw [q1, q2, q3]
def trivetref04_Of_s.f (n : Int) : Option (Int × Int × Int × Bool) := if M.In n then some (if -25567 ≤ n ∧ n ≤ 84005 then (M.yr n, M.mo n, M.dy n, true) else (0, 0, 0, false)) else none
theorem trivetref04_Of_s.calls (a0 : Int) (r1 : Int) (r2 : Int) (r3 : Int) (r4 : Bool) (w : World) (h : trivetref04_Of_s.f a0 = some (r1, r2, r3, r4)) :
  Calls Try.prog 11 #[.int .i64 a0] w fun e w' => e = .returned (.tuple #[.agg #[.int .i64 r1, .int .i64 r2, .int .i64 r3], .bool r4]) ∧ Below w.heap.size w w' := by
 unfold trivetref04_Of_s.f at h
 split at h
 ·rename_i hr
  exact trivetref04_Of.calls (400) a0 r1 r2 r3 r4 w ((trivetref04_Of.tells a0 hr (400) (Nat.le_refl _)).trans h)
 ·cases h
theorem trivetref04_Of_s.yes {n : Int} (h : -25567 ≤ n ∧ n ≤ 84005) : trivetref04_Of_s.f n = some (M.yr n, M.mo n, M.dy n, true) := by unfold trivetref04_Of_s.f; rw [if_pos (by unfold M.In; omega), if_pos h]
theorem trivetref04_Of_s.no {n : Int} (hn : M.In n) (h : ¬ (-25567 ≤ n ∧ n ≤ 84005)) : trivetref04_Of_s.f n = some (0, 0, 0, false) := by unfold trivetref04_Of_s.f; rw [if_pos hn, if_neg h]

end Go.Proofs.Ytmkfbaoglmmhjaa.P
