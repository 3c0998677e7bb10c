-- Written by a program of this session out of the translation of the seat: Lean functions and the proofs that the Go functions come to them.
import Derived.Test.YtmkfbaoglmmhjaaPx0
import Derived.Test.YtmkfbaoglmmhjaaPx3
import Derived.Test.YtmkfbaoglmmhjaaPx5
import Derived.Test.YtmkfbaoglmmhjaaPx6
import Derived.Test.YtmkfbaoglmmhjaaPx8
import Derived.Test.YtmkfbaoglmmhjaaPx14
namespace Go.Proofs.Ytmkfbaoglmmhjaa.P
open Go.RowKit Go.Proofs.YtmkfbaoglmmhjaaW.PrintWords Go.Proofs.YtmkfbaoglmmhjaaW.PrintLast Go.Proofs.YtmkfbaoglmmhjaaW.PrintMore
attribute [local go_sem] max2_int min2_int max_two min_two max_three min_three max_four min_four   -- for this text's walks alone
set_option linter.unusedVariables false
set_option linter.unusedSimpArgs false

/-! ### trivetlaw14_CalendarOnce: function 8 -/
mutual
def trivetlaw14_CalendarOnce.j0 : Nat → List (S48) → Bool → Bool → Int → Int → Int → Option (Bool)
 | 0, _, _, _, _, _, _ => none
 | k + 1, x0, x5, x20, x620000, x620001, x620002 => if x20 = true then (some x5) else ((trivetref04_May_s.f x620000 x620001 x620002).bind fun t622 => (if t622 = true then ((trivetref04_May_s.f (wrap64 (x620000 + 1)) x620001 x620002).bind fun t623 => (trivetlaw14_CalendarOnce.j1 k x0 x5 (!t623) x620000 x620001 x620002 (wrap64 (x620000 + 1)) x620001 x620002)) else (trivetlaw14_CalendarOnce.j1 k x0 x5 true x620000 x620001 x620002 (wrap64 (x620000 + 1)) x620001 x620002)))
def trivetlaw14_CalendarOnce.j1 : Nat → List (S48) → Bool → Bool → Int → Int → Int → Int → Int → Int → Option (Bool)
 | 0, _, _, _, _, _, _, _, _, _ => none
 | k + 1, x0, x5, x37, x620000, x620001, x620002, x622000, x622001, x622002 => if x37 = true then (some x5) else ((trivetref04_Number_s.f x620000 x620001 x620002).bind fun t624 => ((trivetref04_Number_s.f x622000 x622001 x622002).bind fun t625 => ((calendar_Outs.f k x0 t624 t625).bind fun bt626 => (if bt626.2.isNone = true then (if (bt626.1.length : Int) = (x0.length : Int) then (if 0 ≤ (x0.length : Int) then (if ((x0.length : Int) : Int).toNat ≤ 281474976710656 then (trivetlaw14_CalendarOnce.l0 k x0 x5 bt626.1 (List.replicate ((x0.length : Int) : Int).toNat false) 0) else (none)) else (none)) else (none)) else (if x5 = true then ((calendar_Check.f x0).bind fun t642 => (if t642.isNone = true then (none) else (some ((t642.getD 0) == 1)))) else (none))))))
def trivetlaw14_CalendarOnce.l0 : Nat → List (S48) → Bool → List (S45) → List Bool → Int → Option (Bool)
 | 0, _, _, _, _, _ => none
 | k + 1, x0, x5, x7, x9, x10 => if x10 < (x7.length : Int) then (if 0 ≤ x10 then (if ((rd_T45 x7 x10).f1) < 0 then (none) else (if ((rd_T45 x7 x10).f1) ≥ (x0.length : Int) then (none) else (if 0 ≤ ((rd_T45 x7 x10).f1) then (if ((rd_T45 x7 x10).f1) < (x9.length : Int) then (if rdOf false x9 ((rd_T45 x7 x10).f1) = true then (none) else (if ((rd_T45 x7 x10).f1) < (x0.length : Int) then (if ((rd_T45 x7 x10).f2) = ((rd_T48 x0 ((rd_T45 x7 x10).f1)).f2) then (if x10 > 0 then (if 0 ≤ (wrap64 (x10 - 1)) then (if (wrap64 (x10 - 1)) < (x7.length : Int) then (if ((rd_T45 x7 (wrap64 (x10 - 1))).f0) > ((rd_T45 x7 x10).f0) then (none) else (trivetlaw14_CalendarOnce.l0 k x0 x5 x7 (x9.set (((rd_T45 x7 x10).f1) : Int).toNat true) (wrap64 (x10 + 1)))) else (none)) else (none)) else (trivetlaw14_CalendarOnce.l0 k x0 x5 x7 (x9.set (((rd_T45 x7 x10).f1) : Int).toNat true) (wrap64 (x10 + 1)))) else (none)) else (none))) else (none)) else (none)))) else (none)) else (some x5)
end
def trivetlaw14_CalendarOnce.f (k : Nat) (l0 : List (S48)) (a1_0 : Int) (a1_1 : Int) (a1_2 : Int) : Option (Bool) := (trivetlaw14_up.f k).bind fun t620 => (if (l0.length : Int) > 32 then (trivetlaw14_CalendarOnce.j0 k l0 t620 true a1_0 a1_1 a1_2) else (trivetlaw14_CalendarOnce.j0 k l0 t620 (decide (a1_2 > 28)) a1_0 a1_1 a1_2))
theorem trivetlaw14_CalendarOnce.mono_l : ∀ k, (∀ y0 y1 y2 y3 y4 y5, LeO (trivetlaw14_CalendarOnce.j0 k y0 y1 y2 y3 y4 y5) (trivetlaw14_CalendarOnce.j0 (k + 1) y0 y1 y2 y3 y4 y5)) ∧ (∀ y0 y1 y2 y3 y4 y5 y6 y7 y8, LeO (trivetlaw14_CalendarOnce.j1 k y0 y1 y2 y3 y4 y5 y6 y7 y8) (trivetlaw14_CalendarOnce.j1 (k + 1) y0 y1 y2 y3 y4 y5 y6 y7 y8)) ∧ (∀ y0 y1 y2 y3 y4, LeO (trivetlaw14_CalendarOnce.l0 k y0 y1 y2 y3 y4) (trivetlaw14_CalendarOnce.l0 (k + 1) y0 y1 y2 y3 y4))
 | 0 => ⟨fun _ _ _ _ _ _ r h => by simp [trivetlaw14_CalendarOnce.j0] at h, fun _ _ _ _ _ _ _ _ _ r h => by simp [trivetlaw14_CalendarOnce.j1] at h, fun _ _ _ _ _ r h => by simp [trivetlaw14_CalendarOnce.l0] at h⟩
 | k + 1 => by
  obtain ⟨ih0, ih1, ih2⟩ := trivetlaw14_CalendarOnce.mono_l k
  refine ⟨?_, ?_, ?_⟩
  ·intro y0 y1 y2 y3 y4 y5
   unfold trivetlaw14_CalendarOnce.j0
   repeat' first
   | (with_reducible exact ih0 _ _ _ _ _ _)
   | (with_reducible exact ih1 _ _ _ _ _ _ _ _ _)
   | (with_reducible exact ih2 _ _ _ _ _)
   | (with_reducible exact calendar_Outs.mono _ _ _ _)
   | (with_reducible exact trivetlaw14_up.mono _)
   | (with_reducible exact LeO.refl _)
   | (with_reducible exact LeO.none _)
   | (with_reducible refine LeO.ite ?_ ?_)
   | (with_reducible refine LeO.bind ?_ (fun _ => ?_))
   | exact ih0 _ _ _ _ _ _
   | exact ih1 _ _ _ _ _ _ _ _ _
   | exact ih2 _ _ _ _ _
   | exact calendar_Outs.mono _ _ _ _
   | exact trivetlaw14_up.mono _
   | exact LeO.none _
   | refine LeO.ite ?_ ?_
   | refine LeO.bind ?_ (fun _ => ?_)
  ·intro y0 y1 y2 y3 y4 y5 y6 y7 y8
   unfold trivetlaw14_CalendarOnce.j1
   repeat' first
   | (with_reducible exact ih0 _ _ _ _ _ _)
   | (with_reducible exact ih1 _ _ _ _ _ _ _ _ _)
   | (with_reducible exact ih2 _ _ _ _ _)
   | (with_reducible exact calendar_Outs.mono _ _ _ _)
   | (with_reducible exact trivetlaw14_up.mono _)
   | (with_reducible exact LeO.refl _)
   | (with_reducible exact LeO.none _)
   | (with_reducible refine LeO.ite ?_ ?_)
   | (with_reducible refine LeO.bind ?_ (fun _ => ?_))
   | exact ih0 _ _ _ _ _ _
   | exact ih1 _ _ _ _ _ _ _ _ _
   | exact ih2 _ _ _ _ _
   | exact calendar_Outs.mono _ _ _ _
   | exact trivetlaw14_up.mono _
   | exact LeO.none _
   | refine LeO.ite ?_ ?_
   | refine LeO.bind ?_ (fun _ => ?_)
  ·intro y0 y1 y2 y3 y4
   unfold trivetlaw14_CalendarOnce.l0
   repeat' first
   | (with_reducible exact ih0 _ _ _ _ _ _)
   | (with_reducible exact ih1 _ _ _ _ _ _ _ _ _)
   | (with_reducible exact ih2 _ _ _ _ _)
   | (with_reducible exact calendar_Outs.mono _ _ _ _)
   | (with_reducible exact trivetlaw14_up.mono _)
   | (with_reducible exact LeO.refl _)
   | (with_reducible exact LeO.none _)
   | (with_reducible refine LeO.ite ?_ ?_)
   | (with_reducible refine LeO.bind ?_ (fun _ => ?_))
   | exact ih0 _ _ _ _ _ _
   | exact ih1 _ _ _ _ _ _ _ _ _
   | exact ih2 _ _ _ _ _
   | exact calendar_Outs.mono _ _ _ _
   | exact trivetlaw14_up.mono _
   | exact LeO.none _
   | refine LeO.ite ?_ ?_
   | refine LeO.bind ?_ (fun _ => ?_)
theorem trivetlaw14_CalendarOnce.mono : ∀ a0 a1 a2 a3 k, LeO (trivetlaw14_CalendarOnce.f k a0 a1 a2 a3) (trivetlaw14_CalendarOnce.f (k + 1) a0 a1 a2 a3) := by
 intro a0 a1 a2 a3 k
 obtain ⟨ih0, ih1, ih2⟩ := trivetlaw14_CalendarOnce.mono_l k
 unfold trivetlaw14_CalendarOnce.f
 repeat' first
   | (with_reducible exact ih0 _ _ _ _ _ _)
   | (with_reducible exact ih1 _ _ _ _ _ _ _ _ _)
   | (with_reducible exact ih2 _ _ _ _ _)
   | (with_reducible exact calendar_Outs.mono _ _ _ _)
   | (with_reducible exact trivetlaw14_up.mono _)
   | (with_reducible exact LeO.refl _)
   | (with_reducible exact LeO.none _)
   | (with_reducible refine LeO.ite ?_ ?_)
   | (with_reducible refine LeO.bind ?_ (fun _ => ?_))
   | exact ih0 _ _ _ _ _ _
   | exact ih1 _ _ _ _ _ _ _ _ _
   | exact ih2 _ _ _ _ _
   | exact calendar_Outs.mono _ _ _ _
   | exact trivetlaw14_up.mono _
   | exact LeO.none _
   | refine LeO.ite ?_ ?_
   | refine LeO.bind ?_ (fun _ => ?_)
def trivetlaw14_CalendarOnce.T7 : Bool × List (List Nat × List Nat) := (true, [([], []), ([], []), ([1], [1]), ([], []), ([3, 2], [3]), ([0, 2, 4, 4], [0, 2, 4]), ([5], [5]), ([6], [6]), ([6], [6]), ([7, 5, 0, 1, 2, 3, 4, 5, 6, 7], [7]), ([8, 9, 0, 1, 2, 3, 4, 5, 6, 7, 8, 9], [8])])
def trivetlaw14_CalendarOnce.B7 : List Nat := [0, 0, 2, 0, 14, 31, 63, 127, 127, 255, 1023]
theorem trivetlaw14_CalendarOnce.tab7 : rtab .any (opsOf Try.f8 7) = trivetlaw14_CalendarOnce.T7 := by kernel_rfl
theorem trivetlaw14_CalendarOnce.bits7 : waitsOk trivetlaw14_CalendarOnce.T7.2 trivetlaw14_CalendarOnce.B7 = true := by kernel_rfl
def trivetlaw14_CalendarOnce.T17 : Bool × List (List Nat × List Nat) := (true, [([], []), ([0], [0]), ([1], [1]), ([2], [2]), ([2], [2]), ([4, 2], [2, 4]), ([3, 5, 2], [2, 3, 5]), ([2, 6], [2, 6]), ([7, 2], [7]), ([8], [8]), ([8], [8]), ([9, 10, 8], [8, 9, 10]), ([11, 8], [8, 11]), ([8, 12], [8, 12]), ([13, 8], [13]), ([14], [14]), ([14], [14]), ([15, 16, 14], [14, 15, 16]), ([17, 14], [14, 17]), ([18, 14], [14, 18]), ([14], [14]), ([14], [14]), ([20, 21, 14], [14, 20, 21]), ([22, 14], [14, 22]), ([23, 14], [14, 23]), ([19, 24, 14], [14, 19, 24]), ([14, 25], [14, 25]), ([26, 14], [26]), ([27], [27]), ([28, 27], [27, 28]), ([29, 27, 27], [27, 29]), ([30], [30]), ([30], [30]), ([32, 30], [30, 32]), ([31, 33, 30], [30, 31, 33]), ([34, 30], [30, 34]), ([35, 30], [30, 35]), ([30], [30]), ([30], [30]), ([37, 38, 30], [30, 37, 38]), ([39, 30], [30, 39]), ([40, 30], [30, 40]), ([36, 41, 30], [30, 36, 41]), ([30, 42, 27], [27, 30, 42]), ([27, 43], [27, 43])])
def trivetlaw14_CalendarOnce.B17 : List Nat := [0, 1, 3, 7, 7, 23, 63, 127, 255, 511, 511, 2047, 4095, 8191, 16383, 32767, 32767, 131071, 262143, 524287, 32767, 32767, 3178495, 7372799, 15761407, 33554431, 67108863, 134217727, 268435455, 536870911, 1073741823, 2147483647, 2147483647, 6442450943, 17179869183, 34359738367, 68719476735, 2147483647, 2147483647, 414464344063, 964220157951, 2063731785727, 4398046511103, 8796093022207, 17592186044415]
theorem trivetlaw14_CalendarOnce.tab17 : rtab .any (opsOf Try.f8 17) = trivetlaw14_CalendarOnce.T17 := by kernel_rfl
theorem trivetlaw14_CalendarOnce.bits17 : waitsOk trivetlaw14_CalendarOnce.T17.2 trivetlaw14_CalendarOnce.B17 = true := by kernel_rfl
set_option maxHeartbeats 8000000 in
set_option maxRecDepth 100000 in
theorem trivetlaw14_CalendarOnce.calls (k : Nat) (A0 : Option Addr) (c0 : Nat) (l0 : List (S48)) (a1_0 : Int) (a1_1 : Int) (a1_2 : Int) (r : Bool) (w : World) (hr0 : Kd.C k48 w A0 l0.length l0) (hc0 : l0.length ≤ c0) (h : trivetlaw14_CalendarOnce.f k l0 a1_0 a1_1 a1_2 = some r) :
  Calls Try.prog 8 #[.slice A0 l0.length c0, .agg #[.int .i64 a1_0, .int .i64 a1_1, .int .i64 a1_2]] w fun e w' => e = .returned (.bool r) ∧ Below w.heap.size w w' := by
 have hu30 := Try.underlying30
 have hu26 := Try.underlying26
 have hu35 := Try.underlying35
 have HR0 := ka hr0
 have HC0 := ka hc0
 clear hr0 hc0
 have HB := ka (Below.refl w.heap.size w)
 have H : ((trivetlaw14_up.f k).bind fun t620 => (if (l0.length : Int) > 32 then (trivetlaw14_CalendarOnce.j0 k l0 t620 true a1_0 a1_1 a1_2) else (trivetlaw14_CalendarOnce.j0 k l0 t620 (decide (a1_2 > 28)) a1_0 a1_1 a1_2))) = some r := h
 clear h
 replace H := Option.bind_eq_some_iff.mp H
 obtain ⟨t620, A30, H⟩ := H
 replace H : (if (l0.length : Int) > 32 then (trivetlaw14_CalendarOnce.j0 k l0 t620 true a1_0 a1_1 a1_2) else (trivetlaw14_CalendarOnce.j0 k l0 t620 (decide (a1_2 > 28)) a1_0 a1_1 a1_2)) = some r := H
 have A3 := ka A30
 clear A30
 have HC4 := ka H
 clear H
 go_enter Try.func8, Try.ntmps8
 go_upto_region 2 with (first | ((with_reducible refine gate_dst (N := 3) rfl ?_); (try (refine gate_guard (by rfl) ?_; dsimp only)); refine kx (N := 3) (cs := #[.int .i64 a1_0, .int .i64 a1_1, .int .i64 a1_2]) (t := 30) ?_; intro gb619 hg w5 hbox hb; have n0_ := ka (below_step (kw HB.out) hb); have n1_ := ka (hbox); have n2_ := ka ((by rw [hg]; exact (below_size (kw HB.out)) : w.heap.size ≤ gb619)); have n3_ := n2_; clear HB; have HB := n0_; have BK619 := n1_; have GW619 := n2_; have GE619 := n3_; clear n0_ n1_ n2_ n3_; clear hb hbox hg) | ((with_reducible refine gate_callee (f := 9) rfl ?_); refine kg (some 12) rfl rfl Try.func9 (by kernel_rfl) rfl #[] rfl ?_; (with_reducible refine (trivetlaw14_up.calls k  t620 _ A3.out).mono ?_); rintro e w6 ⟨rfl, hb⟩; refine ⟨_, rfl, ?_⟩; replace BK619 := kbb BK619 hb; replace HB := ka (below_step (kw HB.out) hb); (try clear hb); (try clear hb2); (try clear hk); (try clear hi)))
 (try simp only [Act.put, List.setIfInBounds_toArray, List.set_cons_zero, List.set_cons_succ])
 go_cut [20] (fun v20 wc => ∃ (kq : Nat) (x20_3 : Bool), v20 = .bool x20_3 ∧ Aside0 (trivetlaw14_CalendarOnce.j0 kq l0 t620 x20_3 a1_0 a1_1 a1_2 = some r) ∧ Aside0 (kq ≤ k) ∧ Aside0 (wc.heap[gb619]? = some (.cells #[.int .i64 a1_0, .int .i64 a1_1, .int .i64 a1_2] 30 (0, 0))) ∧ Aside0 (Below w.heap.size w wc))
 case first =>
  have H := HC4.out
  clear HC4
  by_cases c7 : (l0.length : Int) > 32
  ·rw [if_pos c7] at H
   have c7b0 : decide (32 < (l0.length : Int)) = true := decide_eq_true c7
   have c7b1 : decide (32 < l0.length) = true := decide_eq_true (by omega)
   clear c7
   (first | rw [c7b0] | (simp only [i64_w, i32_w]; rw [c7b0]) | skip)
   have H' := ka H
   clear H
   go_wp2
   go_meet
   case rel => exact ⟨_, (true), (by first | rfl | (simp; done) | (simp [*]; done)), H', ⟨by first | omega | exact Nat.le_refl _⟩, ⟨by (with_reducible repeat (first | apply kb1 | apply kb2 | apply kb3)); exact BK619.out⟩, ⟨by repeat (first | (with_reducible first | exact HB.out | apply kc1 | apply kc2 | apply kc3 | refine kc4 ?_ GE619.out) | exact HB.out)⟩⟩
  ·rw [if_neg c7] at H
   have c7b0 : decide (32 < (l0.length : Int)) = false := decide_eq_false c7
   have c7b1 : decide (32 < l0.length) = false := decide_eq_false (by omega)
   clear c7
   (first | rw [c7b0] | (simp only [i64_w, i32_w]; rw [c7b0]) | skip)
   have H' := ka H
   clear H
   have hcz8 := blkAll3 BK619.out
   go_wp2
   go_meet
   case rel => exact ⟨_, (decide (a1_2 > 28)), (by first | rfl | (simp; done) | (simp [*]; done)), H', ⟨by first | omega | exact Nat.le_refl _⟩, ⟨by (with_reducible repeat (first | apply kb1 | apply kb2 | apply kb3)); exact BK619.out⟩, ⟨by repeat (first | (with_reducible first | exact HB.out | apply kc1 | apply kc2 | apply kc3 | refine kc4 ?_ GE619.out) | exact HB.out)⟩⟩
 case rest =>
  clear HC4
  try clear p2
  try clear c7
  try clear c7b0
  try clear c7b1
  try clear c8
  try clear hcz8
  obtain ⟨kq, x20_3, rfl, HA, HJ3, BK619, HB⟩ := hcut
  cases kq with
  | zero => exact absurd HA.out (by simp [trivetlaw14_CalendarOnce.j0])
  | succ kj3 =>
   have H := HA.out
   clear HA
   simp only [trivetlaw14_CalendarOnce.j0] at H
   by_cases c9 : x20_3 = true
   ·subst c9
    have H1 : (some t620) = some r := by rw [if_pos rfl] at H; exact H
    clear H
    have H := H1
    clear H1
    obtain rfl := Option.some.inj H
    go_wp2
    go_ret
    exact ⟨by first | rfl | (simp [errW_none, errW_some] <;> rfl) | (simp [*, errW_none, errW_some] <;> rfl), by repeat (first | (with_reducible first | exact HB.out | apply kc1 | apply kc2 | apply kc3 | refine kc4 ?_ GE619.out) | exact HB.out)⟩
   ·replace c9 := Bool.eq_false_iff.mpr c9
    subst c9
    have H1 : ((trivetref04_May_s.f a1_0 a1_1 a1_2).bind fun t622 => (if t622 = true then ((trivetref04_May_s.f (wrap64 (a1_0 + 1)) a1_1 a1_2).bind fun t623 => (trivetlaw14_CalendarOnce.j1 kj3 l0 t620 (!t623) a1_0 a1_1 a1_2 (wrap64 (a1_0 + 1)) a1_1 a1_2)) else (trivetlaw14_CalendarOnce.j1 kj3 l0 t620 true a1_0 a1_1 a1_2 (wrap64 (a1_0 + 1)) a1_1 a1_2))) = some r := by rw [if_neg (show ¬ (false = true) by decide)] at H; exact H
    clear H
    have H := H1
    clear H1
    have HC10 := ka H
    clear H
    have hcz11 := blkAll3 BK619.out
    go_upto_region 5 with (first | ((with_reducible refine gate_dst (N := 6) rfl ?_); (try (refine gate_guard (by rfl) ?_; dsimp only)); refine kx (N := 6) (cs := #[.int .i64 0, .int .i64 0, .int .i64 0]) (t := 30) ?_; intro gb621 hg w12 hbox hb; have n0_ := ka (blk_below (g := gb619) (kz BK619.out) hb); have n1_ := ka (below_step (kw HB.out) hb); have n2_ := ka (hbox); have n3_ := ka ((by rw [hg]; exact (below_size (kw HB.out)) : w.heap.size ≤ gb621)); have n4_ := n3_; have n5_ := ka ((by rw [hg]; exact Nat.ne_of_lt (blk_lt (g := gb619) (kz BK619.out)) : gb619 ≠ gb621)); have n6_ := ka n5_.out.symm; clear BK619; clear HB; have BK619 := n0_; have HB := n1_; have BK621 := n2_; have GW621 := n3_; have GE621 := n4_; have NB619_621 := n5_; have NB621_619 := n6_; clear n0_ n1_ n2_ n3_ n4_ n5_ n6_; clear hb hbox hg; have hnb13 := NB621_619.out; have hnc13 := NB619_621.out; have hcz14 := blkAll3 BK621.out))
    (try simp only [Act.put, List.setIfInBounds_toArray, List.set_cons_zero, List.set_cons_succ])
    go_cut [37] (fun v37 wc => ∃ (kq : Nat) (x37_9 : Bool), v37 = .bool x37_9 ∧ Aside0 (trivetlaw14_CalendarOnce.j1 kq l0 t620 x37_9 a1_0 a1_1 a1_2 (wrap64 (a1_0 + 1)) a1_1 a1_2 = some r) ∧ Aside0 (kq ≤ kj3) ∧ Aside0 (wc.heap[gb619]? = some (.cells #[.int .i64 a1_0, .int .i64 a1_1, .int .i64 a1_2] 30 (0, 0))) ∧ Aside0 (wc.heap[gb621]? = some (.cells #[.int .i64 (wrap64 (a1_0 + 1)), .int .i64 a1_1, .int .i64 a1_2] 30 (0, 0))) ∧ Aside0 (Below w.heap.size w wc))
    case first =>
     have H := HC10.out
     clear HC10
     replace H := Option.bind_eq_some_iff.mp H
     obtain ⟨t622, A150, H⟩ := H
     replace H : (if t622 = true then ((trivetref04_May_s.f (wrap64 (a1_0 + 1)) a1_1 a1_2).bind fun t623 => (trivetlaw14_CalendarOnce.j1 kj3 l0 t620 (!t623) a1_0 a1_1 a1_2 (wrap64 (a1_0 + 1)) a1_1 a1_2)) else (trivetlaw14_CalendarOnce.j1 kj3 l0 t620 true a1_0 a1_1 a1_2 (wrap64 (a1_0 + 1)) a1_1 a1_2)) = some r := H
     have A15 := ka A150
     clear A150
     by_cases c16 : t622 = true
     ·subst c16
      have H1 : ((trivetref04_May_s.f (wrap64 (a1_0 + 1)) a1_1 a1_2).bind fun t623 => (trivetlaw14_CalendarOnce.j1 kj3 l0 t620 (!t623) a1_0 a1_1 a1_2 (wrap64 (a1_0 + 1)) a1_1 a1_2)) = some r := by rw [if_pos rfl] at H; exact H
      clear H
      have H := H1
      clear H1
      replace H := Option.bind_eq_some_iff.mp H
      obtain ⟨t623, A170, H⟩ := H
      replace H : (trivetlaw14_CalendarOnce.j1 kj3 l0 t620 (!t623) a1_0 a1_1 a1_2 (wrap64 (a1_0 + 1)) a1_1 a1_2) = some r := H
      have A17 := ka A170
      clear A170
      have H' := ka H
      clear H
      have hnb18 := NB619_621.out
      have hnc18 := NB621_619.out
      have hcz19 := blkAll3 BK619.out
      go_wp2_with (first | ((with_reducible refine gate_callee (f := 20) rfl ?_); refine kg (some 31) rfl rfl Try.func20 (by kernel_rfl) rfl #[.agg #[.int .i64 a1_0, .int .i64 a1_1, .int .i64 a1_2]] rfl ?_; (with_reducible refine (trivetref04_May_s.calls a1_0 a1_1 a1_2 true _ A15.out).mono ?_); rintro e w20 ⟨rfl, hb⟩; refine ⟨_, rfl, ?_⟩; replace BK619 := ka (blk_below (g := gb619) (o := .cells #[.int .i64 a1_0, .int .i64 a1_1, .int .i64 a1_2] 30 (0, 0)) (by (with_reducible repeat (first | apply kb1 | apply kb2 | apply kb3 | refine kb4 ?_ NB619_621.out _)); exact BK619.out) hb); replace BK621 := ka (blk_below (g := gb621) (o := .cells #[.int .i64 (wrap64 (a1_0 + 1)), .int .i64 a1_1, .int .i64 a1_2] 30 (0, 0)) (by (with_reducible repeat (first | apply kb1 | apply kb2 | apply kb3 | apply blkPut3_2 | apply blkPut3_1 | apply blkPut3_0)); exact BK621.out) hb); replace HB := ka (below_step (kw HB.out) hb); (try clear hb); (try clear hb2); (try clear hk); (try clear hi); have hcz21 := blkAll3 BK621.out) | (go_at_call 20; (with_reducible refine (trivetref04_May_s.calls (wrap64 (a1_0 + 1)) a1_1 a1_2 t623 _ A17.out).mono ?_); rintro e w22 ⟨rfl, hb⟩; replace BK619 := kbb BK619 hb; replace BK621 := kbb BK621 hb; replace HB := ka (below_step (kw HB.out) hb); (try clear hb); (try clear hb2); (try clear hk); (try clear hi)))
      go_meet
      case rel => exact ⟨_, (!t623), (by first | rfl | (simp; done) | (simp [*]; done)), H', ⟨by have := HJ3.out; first | omega | exact Nat.le_refl _⟩, ⟨by (with_reducible repeat (first | apply kb1 | apply kb2 | apply kb3)); exact BK619.out⟩, ⟨by (with_reducible repeat (first | apply kb1 | apply kb2 | apply kb3)); exact BK621.out⟩, ⟨by repeat (first | (with_reducible first | exact HB.out | apply kc1 | apply kc2 | apply kc3 | refine kc4 ?_ GE619.out | refine kc4 ?_ GE621.out) | exact HB.out)⟩⟩
     ·replace c16 := Bool.eq_false_iff.mpr c16
      subst c16
      have H1 : (trivetlaw14_CalendarOnce.j1 kj3 l0 t620 true a1_0 a1_1 a1_2 (wrap64 (a1_0 + 1)) a1_1 a1_2) = some r := by rw [if_neg (show ¬ (false = true) by decide)] at H; exact H
      clear H
      have H := H1
      clear H1
      have H' := ka H
      clear H
      have hnb23 := NB619_621.out
      have hnc23 := NB621_619.out
      have hcz24 := blkAll3 BK619.out
      go_wp2_with (first | ((with_reducible refine gate_callee (f := 20) rfl ?_); refine kg (some 31) rfl rfl Try.func20 (by kernel_rfl) rfl #[.agg #[.int .i64 a1_0, .int .i64 a1_1, .int .i64 a1_2]] rfl ?_; (with_reducible refine (trivetref04_May_s.calls a1_0 a1_1 a1_2 false _ A15.out).mono ?_); rintro e w25 ⟨rfl, hb⟩; refine ⟨_, rfl, ?_⟩; replace BK619 := ka (blk_below (g := gb619) (o := .cells #[.int .i64 a1_0, .int .i64 a1_1, .int .i64 a1_2] 30 (0, 0)) (by (with_reducible repeat (first | apply kb1 | apply kb2 | apply kb3 | refine kb4 ?_ NB619_621.out _)); exact BK619.out) hb); replace BK621 := ka (blk_below (g := gb621) (o := .cells #[.int .i64 (wrap64 (a1_0 + 1)), .int .i64 a1_1, .int .i64 a1_2] 30 (0, 0)) (by (with_reducible repeat (first | apply kb1 | apply kb2 | apply kb3 | apply blkPut3_2 | apply blkPut3_1 | apply blkPut3_0)); exact BK621.out) hb); replace HB := ka (below_step (kw HB.out) hb); (try clear hb); (try clear hb2); (try clear hk); (try clear hi)))
      go_meet
      case rel => exact ⟨_, (true), (by first | rfl | (simp; done) | (simp [*]; done)), H', ⟨by have := HJ3.out; first | omega | exact Nat.le_refl _⟩, ⟨by (with_reducible repeat (first | apply kb1 | apply kb2 | apply kb3)); exact BK619.out⟩, ⟨by (with_reducible repeat (first | apply kb1 | apply kb2 | apply kb3)); exact BK621.out⟩, ⟨by repeat (first | (with_reducible first | exact HB.out | apply kc1 | apply kc2 | apply kc3 | refine kc4 ?_ GE619.out | refine kc4 ?_ GE621.out) | exact HB.out)⟩⟩
    case rest =>
     clear HC10
     try clear c1
     try clear c2
     try clear p2
     try clear p6
     try clear c7
     try clear c7b0
     try clear c7b1
     try clear c8
     try clear c9
     try clear c13
     try clear c16
     try clear c18
     try clear c20
     try clear c23
     try clear hcz11
     try clear hcz14
     try clear hcz19
     try clear hcz21
     try clear hcz24
     try clear hcz8
     try clear p2
     obtain ⟨kq, x37_9, rfl, HA, HJ9, BK619, BK621, HB⟩ := hcut
     cases kq with
     | zero => exact absurd HA.out (by simp [trivetlaw14_CalendarOnce.j1])
     | succ kj9 =>
      have H := HA.out
      clear HA
      simp only [trivetlaw14_CalendarOnce.j1] at H
      by_cases c26 : x37_9 = true
      ·subst c26
       have H1 : (some t620) = some r := by rw [if_pos rfl] at H; exact H
       clear H
       have H := H1
       clear H1
       obtain rfl := Option.some.inj H
       go_wp2
       go_ret
       exact ⟨by first | rfl | (simp [errW_none, errW_some] <;> rfl) | (simp [*, errW_none, errW_some] <;> rfl), by repeat (first | (with_reducible first | exact HB.out | apply kc1 | apply kc2 | apply kc3 | refine kc4 ?_ GE619.out | refine kc4 ?_ GE621.out) | exact HB.out)⟩
      ·replace c26 := Bool.eq_false_iff.mpr c26
       subst c26
       have H1 : ((trivetref04_Number_s.f a1_0 a1_1 a1_2).bind fun t624 => ((trivetref04_Number_s.f (wrap64 (a1_0 + 1)) a1_1 a1_2).bind fun t625 => ((calendar_Outs.f kj9 l0 t624 t625).bind fun bt626 => (if bt626.2.isNone = true then (if (bt626.1.length : Int) = (l0.length : Int) then (if 0 ≤ (l0.length : Int) then (if ((l0.length : Int) : Int).toNat ≤ 281474976710656 then (trivetlaw14_CalendarOnce.l0 kj9 l0 t620 bt626.1 (List.replicate ((l0.length : Int) : Int).toNat false) 0) else (none)) else (none)) else (none)) else (if t620 = true then ((calendar_Check.f l0).bind fun t642 => (if t642.isNone = true then (none) else (some ((t642.getD 0) == 1)))) else (none)))))) = some r := by rw [if_neg (show ¬ (false = true) by decide)] at H; exact H
       clear H
       have H := H1
       clear H1
       replace H := Option.bind_eq_some_iff.mp H
       obtain ⟨t624, A270, H⟩ := H
       replace H : ((trivetref04_Number_s.f (wrap64 (a1_0 + 1)) a1_1 a1_2).bind fun t625 => ((calendar_Outs.f kj9 l0 t624 t625).bind fun bt626 => (if bt626.2.isNone = true then (if (bt626.1.length : Int) = (l0.length : Int) then (if 0 ≤ (l0.length : Int) then (if ((l0.length : Int) : Int).toNat ≤ 281474976710656 then (trivetlaw14_CalendarOnce.l0 kj9 l0 t620 bt626.1 (List.replicate ((l0.length : Int) : Int).toNat false) 0) else (none)) else (none)) else (none)) else (if t620 = true then ((calendar_Check.f l0).bind fun t642 => (if t642.isNone = true then (none) else (some ((t642.getD 0) == 1)))) else (none))))) = some r := H
       have A27 := ka A270
       clear A270
       replace H := Option.bind_eq_some_iff.mp H
       obtain ⟨t625, A280, H⟩ := H
       replace H : ((calendar_Outs.f kj9 l0 t624 t625).bind fun bt626 => (if bt626.2.isNone = true then (if (bt626.1.length : Int) = (l0.length : Int) then (if 0 ≤ (l0.length : Int) then (if ((l0.length : Int) : Int).toNat ≤ 281474976710656 then (trivetlaw14_CalendarOnce.l0 kj9 l0 t620 bt626.1 (List.replicate ((l0.length : Int) : Int).toNat false) 0) else (none)) else (none)) else (none)) else (if t620 = true then ((calendar_Check.f l0).bind fun t642 => (if t642.isNone = true then (none) else (some ((t642.getD 0) == 1)))) else (none)))) = some r := H
       have A28 := ka A280
       clear A280
       replace H := Option.bind_eq_some_iff.mp H
       obtain ⟨⟨t626, t627⟩, A290, H⟩ := H
       replace H : (if t627.isNone = true then (if (t626.length : Int) = (l0.length : Int) then (if 0 ≤ (l0.length : Int) then (if ((l0.length : Int) : Int).toNat ≤ 281474976710656 then (trivetlaw14_CalendarOnce.l0 kj9 l0 t620 t626 (List.replicate ((l0.length : Int) : Int).toNat false) 0) else (none)) else (none)) else (none)) else (if t620 = true then ((calendar_Check.f l0).bind fun t642 => (if t642.isNone = true then (none) else (some ((t642.getD 0) == 1)))) else (none))) = some r := H
       have A29 := ka A290
       clear A290
       rcases t627 with _ | q630
       ·have H1 : (if (t626.length : Int) = (l0.length : Int) then (if 0 ≤ (l0.length : Int) then (if ((l0.length : Int) : Int).toNat ≤ 281474976710656 then (trivetlaw14_CalendarOnce.l0 kj9 l0 t620 t626 (List.replicate ((l0.length : Int) : Int).toNat false) 0) else (none)) else (none)) else (none)) = some r := by rw [if_pos (show (none : Option Int).isNone = true by rfl)] at H; exact H
        clear H
        have H := H1
        clear H1
        try simp only [errW_none, errW_some]
        by_cases c30 : (t626.length : Int) = (l0.length : Int)
        ·rw [if_pos c30] at H
         have c30b0 : ((t626.length : Int) == (l0.length : Int)) = true := beq_iff_eq.mpr c30
         have c30b1 : ((t626.length : Int) != (l0.length : Int)) = false := bne_eq_false_iff_eq.mpr c30
         have c30b2 : (t626.length == l0.length) = true := by first | simpa using c30 | (simp at c30 ⊢; omega)
         clear c30
         by_cases c31 : 0 ≤ (l0.length : Int)
         ·rw [if_pos c31] at H
          have c31b0 := eq_true c31
          have c31b1 : decide (0 ≤ (l0.length : Int)) = true := decide_eq_true c31
          clear c31
          by_cases c32 : ((l0.length : Int) : Int).toNat ≤ 281474976710656
          ·rw [if_pos c32] at H
           have c32b0 := eq_true c32
           have c32b1 : decide (((l0.length : Int) : Int).toNat ≤ 281474976710656) = true := decide_eq_true c32
           clear c32
           obtain ⟨y631, hy631⟩ : ∃ y_ : List Bool, y_ = (List.replicate ((l0.length : Int) : Int).toNat false) := ⟨_, rfl⟩
           replace H : (trivetlaw14_CalendarOnce.l0 kj9 l0 t620 t626 y631 0) = some r := by first | (rw [hy631]; with_reducible exact H) | (have H2_ := (Option.bind_some _ _).symm.trans H; rw [hy631]; with_reducible exact H2_) | (have H2_ := (Option.bind_some _ _).symm.trans H; with_reducible exact H2_) | with_reducible exact H | (rw [hy631]; exact H) | exact H
           have Ny631 := ka hy631
           clear hy631
           have H' := ka H
           clear H
           try go_wp2
           replace BK619 := ka (blk_drew BK619.out)
           replace BK621 := ka (blk_drew BK621.out)
           replace HB := ka (below_drew1 HB.out)
           refine start_ (n := 11) (S := fun w' => w'.cell? ⟨gb619, 0, none⟩ = some (.int .i64 a1_0) ∧ w'.cell? ⟨gb619, 1, none⟩ = some (.int .i64 a1_1) ∧ w'.cell? ⟨gb619, 2, none⟩ = some (.int .i64 a1_2) ∧ w'.cell? ⟨gb621, 0, none⟩ = some (.int .i64 (wrap64 (a1_0 + 1))) ∧ w'.cell? ⟨gb621, 1, none⟩ = some (.int .i64 a1_1) ∧ w'.cell? ⟨gb621, 2, none⟩ = some (.int .i64 a1_2)) (ds := []) #[false, false, false, false, false, false, false, false, false, false, false] (by kernel_rfl) rfl rfl ⟨(blk_cell BK619.out 0).trans rfl, (blk_cell BK619.out 1).trans rfl, (blk_cell BK619.out 2).trans rfl, (blk_cell BK621.out 0).trans rfl, (blk_cell BK621.out 1).trans rfl, (blk_cell BK621.out 2).trans rfl⟩ (fun hHeld => ?_); refine with_tabW trivetlaw14_CalendarOnce.tab7 trivetlaw14_CalendarOnce.bits7 (fun HT_ HW_ => ?_)
           generalize wc.drew = w33 at BK619 BK621 HB hHeld ⊢
           refine pure_ (i := 0) (N := some 40) (v := ?_) (a' := ?_) #[true, false, false, false, false, false, false, false, false, false, false] rfl rfl (any_of HT_.out (by kernel_rfl)) (fun _ _ _ h => h) (Or.inl ⟨by rfl, ?_⟩) ?_ ?_
           rotate_left
           ·intro w'
            go_simp
            with_reducible rfl
           rotate_left
           ·simp only [Act.put, List.setIfInBounds_toArray, List.set_cons_zero, List.set_cons_succ, i64_w, i32_w]
            rfl
           refine take_ (i := 1) (N := some 41) (v := ?_) (a' := ?_) #[true, true, false, false, false, false, false, false, false, false, false] rfl rfl (take_ofW HT_.out HW_.out (by kernel_rfl)) (fun _ _ _ h => h) (Or.inl ⟨by rfl, ?_⟩) hHeld ?_ ?_
           rotate_left
           ·rintro w' ⟨s0, s1, s2, s3, s4, s5⟩
            go_simp
            with_reducible rfl
           rotate_left
           ·simp only [Act.put, List.setIfInBounds_toArray, List.set_cons_zero, List.set_cons_succ, i64_w, i32_w]
            rfl
           refine take_ (i := 3) (N := some 43) (v := ?_) (a' := ?_) #[true, true, false, true, false, false, false, false, false, false, false] rfl rfl (take_ofW HT_.out HW_.out (by kernel_rfl)) (fun _ _ _ h => h) (Or.inl ⟨by rfl, ?_⟩) hHeld ?_ ?_
           rotate_left
           ·rintro w' ⟨s0, s1, s2, s3, s4, s5⟩
            go_simp
            with_reducible rfl
           rotate_left
           ·simp only [Act.put, List.setIfInBounds_toArray, List.set_cons_zero, List.set_cons_succ, i64_w, i32_w]
            rfl
           refine one_ (i := 2) (N := some 42) #[true, true, true, true, false, false, false, false, false, false, false] rfl rfl (one_of HT_.out (by kernel_rfl)) (by decide) (fun K hK => ?_)
           refine goes_ Try.func19 (by kernel_rfl) rfl #[.agg #[.int .i64 a1_0, .int .i64 a1_1, .int .i64 a1_2]] (by rfl) rfl rfl (by (try simp only [List.map_toArray, List.map_cons, List.map_nil]); first | done | rfl | (simp only [List.length_drop, List.length_take]; rfl)) ?_
           with_reducible refine (trivetref04_Number_s.calls a1_0 a1_1 a1_2 t624 _ A27.out).mono ?_
           rintro e w34 ⟨rfl, hb⟩
           refine ⟨_, rfl, ?_⟩
           replace BK619 := kbb BK619 hb
           replace BK621 := kbb BK621 hb
           replace HB := ka (below_step (kw HB.out) hb)
           (try clear hb)
           (try clear hb2)
           (try clear hk)
           (try clear hi)
           refine hK.out _ _ ⟨(blk_cell BK619.out 0).trans rfl, (blk_cell BK619.out 1).trans rfl, (blk_cell BK619.out 2).trans rfl, (blk_cell BK621.out 0).trans rfl, (blk_cell BK621.out 1).trans rfl, (blk_cell BK621.out 2).trans rfl⟩ (fun hHeld => ?_)
           clear hK K
           refine norm_ (a' := ?_) ?_ ?_
           rotate_left
           ·show Act.put _ (some 42) _ = _
            simp only [Act.put, List.setIfInBounds_toArray, List.set_cons_zero, List.set_cons_succ, i64_w, i32_w]
            rfl
           refine one_ (i := 4) (N := some 44) #[true, true, true, true, true, false, false, false, false, false, false] rfl rfl (one_of HT_.out (by kernel_rfl)) (by decide) (fun K hK => ?_)
           refine goes_ Try.func19 (by kernel_rfl) rfl #[.agg #[.int .i64 (wrap64 (a1_0 + 1)), .int .i64 a1_1, .int .i64 a1_2]] (by rfl) rfl rfl (by (try simp only [List.map_toArray, List.map_cons, List.map_nil]); first | done | rfl | (simp only [List.length_drop, List.length_take]; rfl)) ?_
           with_reducible refine (trivetref04_Number_s.calls (wrap64 (a1_0 + 1)) a1_1 a1_2 t625 _ A28.out).mono ?_
           rintro e w35 ⟨rfl, hb⟩
           refine ⟨_, rfl, ?_⟩
           replace BK619 := kbb BK619 hb
           replace BK621 := kbb BK621 hb
           replace HB := ka (below_step (kw HB.out) hb)
           (try clear hb)
           (try clear hb2)
           (try clear hk)
           (try clear hi)
           refine hK.out _ _ ⟨(blk_cell BK619.out 0).trans rfl, (blk_cell BK619.out 1).trans rfl, (blk_cell BK619.out 2).trans rfl, (blk_cell BK621.out 0).trans rfl, (blk_cell BK621.out 1).trans rfl, (blk_cell BK621.out 2).trans rfl⟩ (fun hHeld => ?_)
           clear hK K
           refine norm_ (a' := ?_) ?_ ?_
           rotate_left
           ·show Act.put _ (some 44) _ = _
            simp only [Act.put, List.setIfInBounds_toArray, List.set_cons_zero, List.set_cons_succ, i64_w, i32_w]
            rfl
           refine one_ (i := 5) (N := some 45) #[true, true, true, true, true, true, false, false, false, false, false] rfl rfl (one_of HT_.out (by kernel_rfl)) (by decide) (fun K hK => ?_)
           refine goes_ Try.func17 (by kernel_rfl) rfl #[.slice A0 l0.length c0, .int .i64 t624, .int .i64 t625] (by rfl) rfl rfl (by (try simp only [List.map_toArray, List.map_cons, List.map_nil]); first | done | rfl | (simp only [List.length_drop, List.length_take]; rfl)) ?_
           with_reducible refine (calendar_Outs.calls kj9 _ _ l0 t624 t625 t626 none _ ?side1 ?side2 A29.out).mono ?_
           (case side1 => repeat (first | exact (Kd.C_below HR0.out HB.out) | (with_reducible refine Kd.C_alloc ?_ _) | (with_reducible refine Kd.C_drewN ?_ _) | (with_reducible refine Kd.C_drew ?_)))
           (case side2 => exact HC0.out)
           rintro e w36 ⟨v628, rfl, ho0, hb⟩
           refine ⟨_, rfl, ?_⟩
           have HO629 := ka (Kd.R_lower ho0 (below_size (kw HB.out)))
           replace BK619 := kbb BK619 hb
           replace BK621 := kbb BK621 hb
           replace HB := ka (below_step (kw HB.out) hb)
           (try clear hb)
           (try clear hb2)
           (try clear hk)
           (try clear hi)
           (try clear ho0)
           (try simp only [errW_none, errW_some])
           refine hK.out _ _ ⟨(blk_cell BK619.out 0).trans rfl, (blk_cell BK619.out 1).trans rfl, (blk_cell BK619.out 2).trans rfl, (blk_cell BK621.out 0).trans rfl, (blk_cell BK621.out 1).trans rfl, (blk_cell BK621.out 2).trans rfl⟩ (fun hHeld => ?_)
           clear hK K
           refine norm_ (a' := ?_) ?_ ?_
           rotate_left
           ·show Act.put _ (some 45) _ = _
            simp only [Act.put, List.setIfInBounds_toArray, List.set_cons_zero, List.set_cons_succ, i64_w, i32_w]
            rfl
           refine pure_ (i := 6) (N := some 39) (v := ?_) (a' := ?_) #[true, true, true, true, true, true, true, false, false, false, false] rfl rfl (any_of HT_.out (by kernel_rfl)) (fun _ _ _ h => h) (Or.inl ⟨by rfl, ?_⟩) ?_ ?_
           rotate_left
           ·intro w'
            go_simp
            with_reducible rfl
           rotate_left
           ·simp only [Act.put, List.setIfInBounds_toArray, List.set_cons_zero, List.set_cons_succ, i64_w, i32_w]
            rfl
           refine pure_ (i := 7) (N := some 46) (v := ?_) (a' := ?_) #[true, true, true, true, true, true, true, true, false, false, false] rfl rfl (any_of HT_.out (by kernel_rfl)) (fun _ _ _ h => h) (Or.inl ⟨by rfl, ?_⟩) ?_ ?_
           rotate_left
           ·intro w'
            go_simp
            with_reducible rfl
           rotate_left
           ·simp only [Act.put, List.setIfInBounds_toArray, List.set_cons_zero, List.set_cons_succ, i64_w, i32_w]
            rfl
           refine pure_ (i := 8) (N := some 47) (v := ?_) (a' := ?_) #[true, true, true, true, true, true, true, true, true, false, false] rfl rfl (any_of HT_.out (by kernel_rfl)) (fun _ _ _ h => h) (Or.inl ⟨by rfl, ?_⟩) ?_ ?_
           rotate_left
           ·intro w'
            go_simp
            with_reducible rfl
           rotate_left
           ·simp only [Act.put, List.setIfInBounds_toArray, List.set_cons_zero, List.set_cons_succ, i64_w, i32_w]
            rfl
           refine pure_ (i := 9) (N := some 7) (v := ?_) (a' := ?_) #[true, true, true, true, true, true, true, true, true, true, false] rfl rfl (any_of HT_.out (by kernel_rfl)) (fun _ _ _ h => h) (Or.inl ⟨by rfl, ?_⟩) ?_ ?_
           rotate_left
           ·intro w'
            go_simp
            with_reducible rfl
           rotate_left
           ·simp only [Act.put, List.setIfInBounds_toArray, List.set_cons_zero, List.set_cons_succ, i64_w, i32_w]
            rfl
           refine pure_ (i := 10) (N := some 8) (v := ?_) (a' := ?_) #[true, true, true, true, true, true, true, true, true, true, true] rfl rfl (any_of HT_.out (by kernel_rfl)) (fun _ _ _ h => h) (Or.inl ⟨by rfl, ?_⟩) ?_ ?_
           rotate_left
           ·intro w'
            go_simp
            with_reducible rfl
           rotate_left
           ·simp only [Act.put, List.setIfInBounds_toArray, List.set_cons_zero, List.set_cons_succ, i64_w, i32_w]
            rfl
           refine done_ (done_of HT_.out (by kernel_rfl)) ?_
           obtain ⟨Ao37, co37, eo37⟩ := Kd.R_slice HO629.out
           subst eo37
           try go_wp2_with (first | ((with_reducible refine gate_dst (N := 64) rfl ?_); (try (refine gate_guard (by rfl) ?_; dsimp only)); refine Kd.R_make Kd.bool _ 4 rfl (N := 64) rfl 52 _ _ rfl (l0.length : Int) rfl rfl Try.underlying52 (.bool false) 1 info4 rfl (by decide) (by omega) false (ok := fun _ => True) (okp := fun _ => True) rfl (fun _ hk => hk) trivial (of_decide_eq_true (by first | (with_reducible assumption) | assumption)) (Nat.le_trans (Nat.mul_le_mul_right _ (of_decide_eq_true (by first | (with_reducible assumption) | assumption) : (l0.length : Int).toNat ≤ 281474976710656)) (by omega)) (Below.refl _ _) (Nat.le_refl _) ?_; intro v632 w38 ho39 hb hg_ hnew_; clear hg_ hnew_; (first | rw [← Ny631.out] at ho39 | (simp only [Int.reduceToNat] at ho39; rw [← Ny631.out] at ho39)); replace HO629 := ka (Kd.R_below (kr HO629.out) hb); have HO633 := ka (Kd.R_lower ho39 (below_size (kw HB.out))); replace BK619 := kbb BK619 hb; replace BK621 := kbb BK621 hb; replace HB := ka (below_step (kw HB.out) hb); clear hb ho39))
           (try simp only [Act.put, List.setIfInBounds_toArray, List.set_cons_zero, List.set_cons_succ])
           go_loopg [10] kj9 (fun kq v10 w' => ∃ (x9_3 : List Bool) (x10_3 : Int), v10 = .int .i64 x10_3 ∧ Aside0 (trivetlaw14_CalendarOnce.l0 kq l0 t620 t626 x9_3 x10_3 = some r) ∧ Aside0 (kq ≤ kj9) ∧ Aside0 (Kd.R k45 45 w' w.heap.size (fun _ => True) (.slice Ao37 t626.length co37) t626) ∧ Aside0 (Kd.R Kd.bool 4 w' w.heap.size (fun _ => True) v632 x9_3) ∧ Aside0 (w'.heap[gb619]? = some (.cells #[.int .i64 a1_0, .int .i64 a1_1, .int .i64 a1_2] 30 (0, 0))) ∧ Aside0 (w'.heap[gb621]? = some (.cells #[.int .i64 (wrap64 (a1_0 + 1)), .int .i64 a1_1, .int .i64 a1_2] 30 (0, 0))) ∧ Aside0 (Below w.heap.size w w'))
           case atStart => exact ⟨(y631), (0), (by first | rfl | (simp; done) | (simp [*]; done)), H', ⟨Nat.le_refl _⟩, ⟨kr HO629.out⟩, ⟨kr HO633.out⟩, ⟨by (with_reducible repeat (first | apply kb1 | apply kb2 | apply kb3)); exact BK619.out⟩, ⟨by (with_reducible repeat (first | apply kb1 | apply kb2 | apply kb3)); exact BK621.out⟩, ⟨by repeat (first | (with_reducible first | exact HB.out | apply kc1 | apply kc2 | apply kc3 | refine kc4 ?_ GE619.out | refine kc4 ?_ GE621.out) | exact HB.out)⟩⟩
           case round =>
            clear H'
            try clear c1
            try clear c2
            try clear p2
            try clear c3
            try clear p6
            try clear q6
            try clear c7
            try clear c7b0
            try clear c7b1
            try clear c8
            try clear c9
            try clear c13
            try clear c16
            try clear c17
            try clear c18
            try clear c19
            try clear c20
            try clear c23
            try clear c26
            try clear c30
            try clear c30b0
            try clear c30b1
            try clear c30b2
            try clear c31
            try clear c31b0
            try clear c31b1
            try clear c32
            try clear c32b0
            try clear c32b1
            try clear hcz11
            try clear hcz14
            try clear hcz19
            try clear hcz21
            try clear hcz24
            try clear hcz8
            try clear p2
            try clear p6
            try clear q630
            obtain ⟨x9_3, x10_3, rfl, HA, HK3, HO_7, HO_9, BK619, BK621, HB⟩ := hrel
            cases gk with
            | zero => exact absurd HA.out (by simp [trivetlaw14_CalendarOnce.l0])
            | succ k3 =>
             have H := HA.out
             clear HA
             simp only [trivetlaw14_CalendarOnce.l0] at H
             by_cases c40 : x10_3 < (t626.length : Int)
             ·rw [if_pos c40] at H
              have c40b0 : decide (x10_3 < (t626.length : Int)) = true := decide_eq_true c40
              clear c40
              by_cases c41 : 0 ≤ x10_3
              ·rw [if_pos c41] at H
               have c41b0 : decide (0 ≤ x10_3) = true := decide_eq_true c41
               clear c41
               by_cases c42 : ((rd_T45 t626 x10_3).f1) < 0
               ·rw [if_pos c42] at H
                exact absurd H (by simp)
               ·rw [if_neg c42] at H
                have c42b0 : decide (((rd_T45 t626 x10_3).f1) < 0) = false := decide_eq_false c42
                clear c42
                by_cases c43 : ((rd_T45 t626 x10_3).f1) ≥ (l0.length : Int)
                ·rw [if_pos c43] at H
                 exact absurd H (by simp)
                ·rw [if_neg c43] at H
                 have c43b0 : decide ((l0.length : Int) ≤ ((rd_T45 t626 x10_3).f1)) = false := decide_eq_false c43
                 clear c43
                 by_cases c44 : 0 ≤ ((rd_T45 t626 x10_3).f1)
                 ·rw [if_pos c44] at H
                  have c44b0 : decide (0 ≤ ((rd_T45 t626 x10_3).f1)) = true := decide_eq_true c44
                  clear c44
                  by_cases c45 : ((rd_T45 t626 x10_3).f1) < (x9_3.length : Int)
                  ·rw [if_pos c45] at H
                   have c45b0 : decide (((rd_T45 t626 x10_3).f1) < (x9_3.length : Int)) = true := decide_eq_true c45
                   clear c45
                   obtain ⟨bq46, hbq46⟩ : ∃ b_ : Bool, b_ = (rdOf false x9_3 ((rd_T45 t626 x10_3).f1)) := ⟨_, rfl⟩
                   replace H : (if bq46 = true then (none) else (if ((rd_T45 t626 x10_3).f1) < (l0.length : Int) then (if ((rd_T45 t626 x10_3).f2) = ((rd_T48 l0 ((rd_T45 t626 x10_3).f1)).f2) then (if x10_3 > 0 then (if 0 ≤ (wrap64 (x10_3 - 1)) then (if (wrap64 (x10_3 - 1)) < (t626.length : Int) then (if ((rd_T45 t626 (wrap64 (x10_3 - 1))).f0) > ((rd_T45 t626 x10_3).f0) then (none) else (trivetlaw14_CalendarOnce.l0 k3 l0 t620 t626 (x9_3.set (((rd_T45 t626 x10_3).f1) : Int).toNat true) (wrap64 (x10_3 + 1)))) else (none)) else (none)) else (trivetlaw14_CalendarOnce.l0 k3 l0 t620 t626 (x9_3.set (((rd_T45 t626 x10_3).f1) : Int).toNat true) (wrap64 (x10_3 + 1)))) else (none)) else (none))) = some r := by rw [← hbq46] at H; exact H
                   have Nbq46 := ka hbq46
                   clear hbq46
                   by_cases c47 : bq46 = true
                   ·subst c47
                    have H1 : (none) = some r := by rw [if_pos rfl] at H; exact H
                    clear H
                    have H := H1
                    clear H1
                    exact absurd H (by simp)
                   ·replace c47 := Bool.eq_false_iff.mpr c47
                    subst c47
                    have H1 : (if ((rd_T45 t626 x10_3).f1) < (l0.length : Int) then (if ((rd_T45 t626 x10_3).f2) = ((rd_T48 l0 ((rd_T45 t626 x10_3).f1)).f2) then (if x10_3 > 0 then (if 0 ≤ (wrap64 (x10_3 - 1)) then (if (wrap64 (x10_3 - 1)) < (t626.length : Int) then (if ((rd_T45 t626 (wrap64 (x10_3 - 1))).f0) > ((rd_T45 t626 x10_3).f0) then (none) else (trivetlaw14_CalendarOnce.l0 k3 l0 t620 t626 (x9_3.set (((rd_T45 t626 x10_3).f1) : Int).toNat true) (wrap64 (x10_3 + 1)))) else (none)) else (none)) else (trivetlaw14_CalendarOnce.l0 k3 l0 t620 t626 (x9_3.set (((rd_T45 t626 x10_3).f1) : Int).toNat true) (wrap64 (x10_3 + 1)))) else (none)) else (none)) = some r := by rw [if_neg (show ¬ (false = true) by decide)] at H; exact H
                    clear H
                    have H := H1
                    clear H1
                    by_cases c48 : ((rd_T45 t626 x10_3).f1) < (l0.length : Int)
                    ·rw [if_pos c48] at H
                     have c48b0 : decide (((rd_T45 t626 x10_3).f1) < (l0.length : Int)) = true := decide_eq_true c48
                     clear c48
                     by_cases c49 : ((rd_T45 t626 x10_3).f2) = ((rd_T48 l0 ((rd_T45 t626 x10_3).f1)).f2)
                     ·rw [if_pos c49] at H
                      have c49b0 : (((rd_T45 t626 x10_3).f2) == ((rd_T48 l0 ((rd_T45 t626 x10_3).f1)).f2)) = true := beq_iff_eq.mpr c49
                      have c49b1 : (((rd_T45 t626 x10_3).f2) != ((rd_T48 l0 ((rd_T45 t626 x10_3).f1)).f2)) = false := bne_eq_false_iff_eq.mpr c49
                      clear c49
                      by_cases c50 : x10_3 > 0
                      ·rw [if_pos c50] at H
                       have c50b0 : decide (0 < x10_3) = true := decide_eq_true c50
                       clear c50
                       obtain ⟨ji51, hji51⟩ : ∃ j_ : Int, (wrap64 (x10_3 - 1)) = j_ := ⟨_, rfl⟩
                       replace H : (if 0 ≤ (ji51) then (if (ji51) < (t626.length : Int) then (if ((rd_T45 t626 (ji51)).f0) > ((rd_T45 t626 x10_3).f0) then (none) else (trivetlaw14_CalendarOnce.l0 k3 l0 t620 t626 (x9_3.set (((rd_T45 t626 x10_3).f1) : Int).toNat true) (wrap64 (x10_3 + 1)))) else (none)) else (none)) = some r := by first | (rw [hji51] at H; exact H) | (simp only [hji51] at H ⊢; exact H)
                       have hji51w : (IntKind.i64.wrap (x10_3 - 1)) = ji51 := (i64_w _).trans hji51
                       by_cases c52 : 0 ≤ (ji51)
                       ·rw [if_pos c52] at H
                        have c52b0 : decide (0 ≤ (ji51)) = true := decide_eq_true c52
                        clear c52
                        by_cases c53 : (ji51) < (t626.length : Int)
                        ·rw [if_pos c53] at H
                         have c53b0 : decide ((ji51) < (t626.length : Int)) = true := decide_eq_true c53
                         clear c53
                         by_cases c54 : ((rd_T45 t626 (ji51)).f0) > ((rd_T45 t626 x10_3).f0)
                         ·rw [if_pos c54] at H
                          exact absurd H (by simp)
                         ·rw [if_neg c54] at H
                          have c54b0 : decide (((rd_T45 t626 x10_3).f0) < ((rd_T45 t626 (ji51)).f0)) = false := decide_eq_false c54
                          clear c54
                          obtain ⟨y640, hy640⟩ : ∃ y_ : List Bool, y_ = (x9_3.set (((rd_T45 t626 x10_3).f1) : Int).toNat true) := ⟨_, rfl⟩
                          replace H : (trivetlaw14_CalendarOnce.l0 k3 l0 t620 t626 y640 (wrap64 (x10_3 + 1))) = some r := by first | (rw [hy640]; with_reducible exact H) | (have H2_ := (Option.bind_some _ _).symm.trans H; rw [hy640]; with_reducible exact H2_) | (have H2_ := (Option.bind_some _ _).symm.trans H; with_reducible exact H2_) | with_reducible exact H | (rw [hy640]; exact H) | exact H
                          have Ny640 := ka hy640
                          clear hy640
                          have H' := ka H
                          clear H
                          have p634 : 0 ≤ (x10_3 : Int) := of_decide_eq_true (by first | (with_reducible assumption) | assumption)
                          have q634 : x10_3 < (t626.length : Int) := of_decide_eq_true (by first | (with_reducible assumption) | assumption)
                          obtain ⟨ad634, e634, hx634_0, hx634_1, hx634_2⟩ := at_T45 (Kd.R_reads' HO_7.out).2.2 x10_3 p634 q634
                          cases e634
                          replace p634 := eq_true p634
                          replace q634 := eq_true q634
                          try go_wp2
                          replace HO_7 := ka (Kd.R_drew HO_7.out)
                          replace HO_9 := ka (Kd.R_drew HO_9.out)
                          replace BK619 := ka (blk_drew BK619.out)
                          replace BK621 := ka (blk_drew BK621.out)
                          replace HB := ka (below_drew1 HB.out)
                          obtain ⟨Ao57, co57, eo57⟩ := Kd.R_slice HO_9.out
                          (first | subst eo57 | (injection eo57 with f1_ f2_ f3_; have f4_ := f1_.symm; have f5_ := f3_.symm; clear f1_ f2_ f3_; subst f4_; subst f5_))
                          have p635 : 0 ≤ (((rd_T45 t626 x10_3).f1) : Int) := of_decide_eq_true (by first | (with_reducible assumption) | assumption)
                          have q635 : ((rd_T45 t626 x10_3).f1) < (x9_3.length : Int) := of_decide_eq_true (by first | (with_reducible assumption) | assumption)
                          obtain ⟨ad635, e635, hx635_0⟩ := Kd.at_bool (Kd.R_reads' HO_9.out).2.2 ((rd_T45 t626 x10_3).f1) p635 q635
                          (try rw [← Nbq46.out] at hx635_0)
                          cases e635
                          replace p635 := eq_true p635
                          replace q635 := eq_true q635
                          have p636 : 0 ≤ (x10_3 : Int) := of_decide_eq_true (by first | (with_reducible assumption) | assumption)
                          have q636 : x10_3 < (t626.length : Int) := of_decide_eq_true (by first | (with_reducible assumption) | assumption)
                          obtain ⟨ad636, e636, hx636_0, hx636_1, hx636_2⟩ := at_T45 (Kd.R_reads' HO_7.out).2.2 x10_3 p636 q636
                          obtain rfl : ad634 = ad636 := (by injection e636)
                          replace p636 := eq_true p636
                          replace q636 := eq_true q636
                          have p637 : 0 ≤ (((rd_T45 t626 x10_3).f1) : Int) := of_decide_eq_true (by first | (with_reducible assumption) | assumption)
                          have q637 : ((rd_T45 t626 x10_3).f1) < (l0.length : Int) := of_decide_eq_true (by first | (with_reducible assumption) | assumption)
                          obtain ⟨ad637, e637, hx637_0, hx637_1, hx637_2⟩ := at_T48 HR0.out ((rd_T45 t626 x10_3).f1) p637 q637
                          have hw637_2 := hx637_2
                          have hw637_1 := hx637_1
                          have hw637_0 := hx637_0
                          cases e637
                          replace hx637_0 := (HB.out.cell (World.block_lt_of_cell? w _ hx637_0)).trans hx637_0
                          replace hx637_1 := (HB.out.cell (World.block_lt_of_cell? w _ hx637_1)).trans hx637_1
                          replace hx637_2 := (HB.out.cell (World.block_lt_of_cell? w _ hx637_2)).trans hx637_2
                          replace p637 := eq_true p637
                          replace q637 := eq_true q637
                          have p638 : 0 ≤ ((ji51) : Int) := of_decide_eq_true (by first | (with_reducible assumption) | assumption)
                          have q638 : (ji51) < (t626.length : Int) := of_decide_eq_true (by first | (with_reducible assumption) | assumption)
                          obtain ⟨ad638, e638, hx638_0, hx638_1, hx638_2⟩ := at_T45 (Kd.R_reads' HO_7.out).2.2 (ji51) p638 q638
                          obtain rfl : ad634 = ad638 := (by injection e638)
                          replace p638 := eq_true p638
                          replace q638 := eq_true q638
                          have p639 : 0 ≤ (x10_3 : Int) := of_decide_eq_true (by first | (with_reducible assumption) | assumption)
                          have q639 : x10_3 < (t626.length : Int) := of_decide_eq_true (by first | (with_reducible assumption) | assumption)
                          obtain ⟨ad639, e639, hx639_0, hx639_1, hx639_2⟩ := at_T45 (Kd.R_reads' HO_7.out).2.2 x10_3 p639 q639
                          obtain rfl : ad634 = ad639 := (by injection e639)
                          replace p639 := eq_true p639
                          replace q639 := eq_true q639
                          refine start_ (n := 45) (S := fun w' => w'.cell? (ad635.add (((rd_T45 t626 x10_3).f1)).toNat) = some (.bool false) ∧ w'.cell? (ad634.add ((x10_3).toNat * 3)) = some (.int .i64 ((rd_T45 t626 x10_3).f0)) ∧ w'.cell? ⟨(ad634.add ((x10_3).toNat * 3)).block, (ad634.add ((x10_3).toNat * 3)).off + 1, none⟩ = some (.int .i64 ((rd_T45 t626 x10_3).f1)) ∧ w'.cell? ⟨(ad634.add ((x10_3).toNat * 3)).block, (ad634.add ((x10_3).toNat * 3)).off + 2, none⟩ = some (.int .i64 ((rd_T45 t626 x10_3).f2)) ∧ w'.cell? (ad637.add ((((rd_T45 t626 x10_3).f1)).toNat * 3)) = some (.int .i64 ((rd_T48 l0 ((rd_T45 t626 x10_3).f1)).f0)) ∧ w'.cell? ⟨(ad637.add ((((rd_T45 t626 x10_3).f1)).toNat * 3)).block, (ad637.add ((((rd_T45 t626 x10_3).f1)).toNat * 3)).off + 1, none⟩ = some (.int .i64 ((rd_T48 l0 ((rd_T45 t626 x10_3).f1)).f1)) ∧ w'.cell? ⟨(ad637.add ((((rd_T45 t626 x10_3).f1)).toNat * 3)).block, (ad637.add ((((rd_T45 t626 x10_3).f1)).toNat * 3)).off + 2, none⟩ = some (.int .i64 ((rd_T48 l0 ((rd_T45 t626 x10_3).f1)).f2)) ∧ w'.cell? (ad634.add (((ji51)).toNat * 3)) = some (.int .i64 ((rd_T45 t626 (ji51)).f0)) ∧ w'.cell? ⟨(ad634.add (((ji51)).toNat * 3)).block, (ad634.add (((ji51)).toNat * 3)).off + 1, none⟩ = some (.int .i64 ((rd_T45 t626 (ji51)).f1)) ∧ w'.cell? ⟨(ad634.add (((ji51)).toNat * 3)).block, (ad634.add (((ji51)).toNat * 3)).off + 2, none⟩ = some (.int .i64 ((rd_T45 t626 (ji51)).f2)) ∧ w'.cell? (ad634.add ((x10_3).toNat * 3)) = some (.int .i64 ((rd_T45 t626 x10_3).f0)) ∧ w'.cell? ⟨(ad634.add ((x10_3).toNat * 3)).block, (ad634.add ((x10_3).toNat * 3)).off + 1, none⟩ = some (.int .i64 ((rd_T45 t626 x10_3).f1)) ∧ w'.cell? ⟨(ad634.add ((x10_3).toNat * 3)).block, (ad634.add ((x10_3).toNat * 3)).off + 2, none⟩ = some (.int .i64 ((rd_T45 t626 x10_3).f2))) (ds := []) #[false, false, false, false, false, false, false, false, false, false, false, false, false, false, false, false, false, false, false, false, false, false, false, false, false, false, false, false, false, false, false, false, false, false, false, false, false, false, false, false, false, false, false, false, false] (by kernel_rfl) rfl rfl ⟨hx635_0, hx636_0, hx636_1, hx636_2, ((HB.out.cell (World.block_lt_of_cell? w _ hw637_0)).trans hw637_0), ((HB.out.cell (World.block_lt_of_cell? w _ hw637_1)).trans hw637_1), ((HB.out.cell (World.block_lt_of_cell? w _ hw637_2)).trans hw637_2), hx638_0, hx638_1, hx638_2, hx639_0, hx639_1, hx639_2⟩ (fun hHeld => ?_); refine with_tabW trivetlaw14_CalendarOnce.tab17 trivetlaw14_CalendarOnce.bits17 (fun HT_ HW_ => ?_)
                          generalize wr.drew = w56 at HO_7 HO_9 BK619 BK621 HB hx635_0 hx636_0 hx636_1 hx636_2 hx637_0 hx637_1 hx637_2 hx638_0 hx638_1 hx638_2 hx639_0 hx639_1 hx639_2 hHeld ⊢
                          refine pure_ (i := 0) (N := some 76) (v := ?_) (a' := ?_) #[true, false, false, false, false, false, false, false, false, false, false, false, false, false, false, false, false, false, false, false, false, false, false, false, false, false, false, false, false, false, false, false, false, false, false, false, false, false, false, false, false, false, false, false, false] rfl rfl (any_of HT_.out (by kernel_rfl)) (fun _ _ _ h => h) (Or.inl ⟨by rfl, ?_⟩) ?_ ?_
                          rotate_left
                          ·intro w'
                           go_simp
                           with_reducible rfl
                          rotate_left
                          ·simp only [Act.put, List.setIfInBounds_toArray, List.set_cons_zero, List.set_cons_succ, i64_w, i32_w]
                           rfl
                          refine pure_ (i := 1) (N := some 77) (v := ?_) (a' := ?_) #[true, true, false, false, false, false, false, false, false, false, false, false, false, false, false, false, false, false, false, false, false, false, false, false, false, false, false, false, false, false, false, false, false, false, false, false, false, false, false, false, false, false, false, false, false] rfl rfl (any_of HT_.out (by kernel_rfl)) (fun _ _ _ h => h) (Or.inl ⟨by rfl, ?_⟩) ?_ ?_
                          rotate_left
                          ·intro w'
                           go_simp
                           with_reducible rfl
                          rotate_left
                          ·simp only [Act.put, List.setIfInBounds_toArray, List.set_cons_zero, List.set_cons_succ, i64_w, i32_w]
                           rfl
                          refine pure_ (i := 2) (N := some 78) (v := ?_) (a' := ?_) #[true, true, true, false, false, false, false, false, false, false, false, false, false, false, false, false, false, false, false, false, false, false, false, false, false, false, false, false, false, false, false, false, false, false, false, false, false, false, false, false, false, false, false, false, false] rfl rfl (any_of HT_.out (by kernel_rfl)) (fun _ _ _ h => h) (Or.inl ⟨by rfl, ?_⟩) ?_ ?_
                          rotate_left
                          ·intro w'
                           go_simp
                           with_reducible rfl
                          rotate_left
                          ·simp only [Act.put, List.setIfInBounds_toArray, List.set_cons_zero, List.set_cons_succ, i64_w, i32_w]
                           rfl
                          refine pure_ (i := 3) (N := some 79) (v := ?_) (a' := ?_) #[true, true, true, true, false, false, false, false, false, false, false, false, false, false, false, false, false, false, false, false, false, false, false, false, false, false, false, false, false, false, false, false, false, false, false, false, false, false, false, false, false, false, false, false, false] rfl rfl (any_of HT_.out (by kernel_rfl)) (fun _ _ _ h => h) (Or.inl ⟨by rfl, ?_⟩) ?_ ?_
                          rotate_left
                          ·intro w'
                           go_simp
                           with_reducible rfl
                          rotate_left
                          ·simp only [Act.put, List.setIfInBounds_toArray, List.set_cons_zero, List.set_cons_succ, i64_w, i32_w]
                           rfl
                          refine pure_ (i := 4) (N := some 80) (v := ?_) (a' := ?_) #[true, true, true, true, true, false, false, false, false, false, false, false, false, false, false, false, false, false, false, false, false, false, false, false, false, false, false, false, false, false, false, false, false, false, false, false, false, false, false, false, false, false, false, false, false] rfl rfl (any_of HT_.out (by kernel_rfl)) (fun _ _ _ h => h) (Or.inl ⟨by rfl, ?_⟩) ?_ ?_
                          rotate_left
                          ·intro w'
                           go_simp
                           with_reducible rfl
                          rotate_left
                          ·simp only [Act.put, List.setIfInBounds_toArray, List.set_cons_zero, List.set_cons_succ, i64_w, i32_w]
                           rfl
                          refine pure_ (i := 5) (N := some 81) (v := ?_) (a' := ?_) #[true, true, true, true, true, true, false, false, false, false, false, false, false, false, false, false, false, false, false, false, false, false, false, false, false, false, false, false, false, false, false, false, false, false, false, false, false, false, false, false, false, false, false, false, false] rfl rfl (any_of HT_.out (by kernel_rfl)) (fun _ _ _ h => h) (Or.inl ⟨by rfl, ?_⟩) ?_ ?_
                          rotate_left
                          ·intro w'
                           go_simp
                           with_reducible rfl
                          rotate_left
                          ·simp only [Act.put, List.setIfInBounds_toArray, List.set_cons_zero, List.set_cons_succ, i64_w, i32_w]
                           rfl
                          refine pure_ (i := 6) (N := some 82) (v := ?_) (a' := ?_) #[true, true, true, true, true, true, true, false, false, false, false, false, false, false, false, false, false, false, false, false, false, false, false, false, false, false, false, false, false, false, false, false, false, false, false, false, false, false, false, false, false, false, false, false, false] rfl rfl (any_of HT_.out (by kernel_rfl)) (fun _ _ _ h => h) (Or.inl ⟨by rfl, ?_⟩) ?_ ?_
                          rotate_left
                          ·intro w'
                           go_simp
                           with_reducible rfl
                          rotate_left
                          ·simp only [Act.put, List.setIfInBounds_toArray, List.set_cons_zero, List.set_cons_succ, i64_w, i32_w]
                           rfl
                          refine pure_ (i := 7) (N := some 83) (v := ?_) (a' := ?_) #[true, true, true, true, true, true, true, true, false, false, false, false, false, false, false, false, false, false, false, false, false, false, false, false, false, false, false, false, false, false, false, false, false, false, false, false, false, false, false, false, false, false, false, false, false] rfl rfl (any_of HT_.out (by kernel_rfl)) (fun _ _ _ h => h) (Or.inl ⟨by rfl, ?_⟩) ?_ ?_
                          rotate_left
                          ·intro w'
                           go_simp
                           with_reducible rfl
                          rotate_left
                          ·simp only [Act.put, List.setIfInBounds_toArray, List.set_cons_zero, List.set_cons_succ, i64_w, i32_w]
                           rfl
                          refine pure_ (i := 8) (N := some 84) (v := ?_) (a' := ?_) #[true, true, true, true, true, true, true, true, true, false, false, false, false, false, false, false, false, false, false, false, false, false, false, false, false, false, false, false, false, false, false, false, false, false, false, false, false, false, false, false, false, false, false, false, false] rfl rfl (any_of HT_.out (by kernel_rfl)) (fun _ _ _ h => h) (Or.inl ⟨by rfl, ?_⟩) ?_ ?_
                          rotate_left
                          ·intro w'
                           go_simp
                           with_reducible rfl
                          rotate_left
                          ·simp only [Act.put, List.setIfInBounds_toArray, List.set_cons_zero, List.set_cons_succ, i64_w, i32_w]
                           rfl
                          refine pure_ (i := 9) (N := some 85) (v := ?_) (a' := ?_) #[true, true, true, true, true, true, true, true, true, true, false, false, false, false, false, false, false, false, false, false, false, false, false, false, false, false, false, false, false, false, false, false, false, false, false, false, false, false, false, false, false, false, false, false, false] rfl rfl (any_of HT_.out (by kernel_rfl)) (fun _ _ _ h => h) (Or.inl ⟨by rfl, ?_⟩) ?_ ?_
                          rotate_left
                          ·intro w'
                           go_simp
                           with_reducible rfl
                          rotate_left
                          ·simp only [Act.put, List.setIfInBounds_toArray, List.set_cons_zero, List.set_cons_succ, i64_w, i32_w]
                           rfl
                          refine pure_ (i := 10) (N := some 86) (v := ?_) (a' := ?_) #[true, true, true, true, true, true, true, true, true, true, true, false, false, false, false, false, false, false, false, false, false, false, false, false, false, false, false, false, false, false, false, false, false, false, false, false, false, false, false, false, false, false, false, false, false] rfl rfl (any_of HT_.out (by kernel_rfl)) (fun _ _ _ h => h) (Or.inl ⟨by rfl, ?_⟩) ?_ ?_
                          rotate_left
                          ·intro w'
                           go_simp
                           with_reducible rfl
                          rotate_left
                          ·simp only [Act.put, List.setIfInBounds_toArray, List.set_cons_zero, List.set_cons_succ, i64_w, i32_w]
                           rfl
                          refine pure_ (i := 11) (N := some 87) (v := ?_) (a' := ?_) #[true, true, true, true, true, true, true, true, true, true, true, true, false, false, false, false, false, false, false, false, false, false, false, false, false, false, false, false, false, false, false, false, false, false, false, false, false, false, false, false, false, false, false, false, false] rfl rfl (any_of HT_.out (by kernel_rfl)) (fun _ _ _ h => h) (Or.inl ⟨by rfl, ?_⟩) ?_ ?_
                          rotate_left
                          ·intro w'
                           go_simp
                           with_reducible rfl
                          rotate_left
                          ·simp only [Act.put, List.setIfInBounds_toArray, List.set_cons_zero, List.set_cons_succ, i64_w, i32_w]
                           rfl
                          refine take_ (i := 12) (N := some 88) (v := ?_) (a' := ?_) #[true, true, true, true, true, true, true, true, true, true, true, true, true, false, false, false, false, false, false, false, false, false, false, false, false, false, false, false, false, false, false, false, false, false, false, false, false, false, false, false, false, false, false, false, false] rfl rfl (take_ofW HT_.out HW_.out (by kernel_rfl)) (fun _ _ _ h => h) (Or.inl ⟨by rfl, ?_⟩) hHeld ?_ ?_
                          rotate_left
                          ·rintro w' ⟨s0, s1, s2, s3, s4, s5, s6, s7, s8, s9, s10, s11, s12⟩
                           go_simp
                           with_reducible rfl
                          rotate_left
                          ·simp only [Act.put, List.setIfInBounds_toArray, List.set_cons_zero, List.set_cons_succ, i64_w, i32_w]
                           rfl
                          refine pure_ (i := 13) (N := some 89) (v := ?_) (a' := ?_) #[true, true, true, true, true, true, true, true, true, true, true, true, true, true, false, false, false, false, false, false, false, false, false, false, false, false, false, false, false, false, false, false, false, false, false, false, false, false, false, false, false, false, false, false, false] rfl rfl (any_of HT_.out (by kernel_rfl)) (fun _ _ _ h => h) (Or.inl ⟨by rfl, ?_⟩) ?_ ?_
                          rotate_left
                          ·intro w'
                           go_simp
                           with_reducible rfl
                          rotate_left
                          ·simp only [Act.put, List.setIfInBounds_toArray, List.set_cons_zero, List.set_cons_succ, i64_w, i32_w]
                           rfl
                          refine pure_ (i := 14) (N := some 90) (v := ?_) (a' := ?_) #[true, true, true, true, true, true, true, true, true, true, true, true, true, true, true, false, false, false, false, false, false, false, false, false, false, false, false, false, false, false, false, false, false, false, false, false, false, false, false, false, false, false, false, false, false] rfl rfl (any_of HT_.out (by kernel_rfl)) (fun _ _ _ h => h) (Or.inl ⟨by rfl, ?_⟩) ?_ ?_
                          rotate_left
                          ·intro w'
                           go_simp
                           with_reducible rfl
                          rotate_left
                          ·simp only [Act.put, List.setIfInBounds_toArray, List.set_cons_zero, List.set_cons_succ, i64_w, i32_w]
                           rfl
                          refine pure_ (i := 15) (N := some 91) (v := ?_) (a' := ?_) #[true, true, true, true, true, true, true, true, true, true, true, true, true, true, true, true, false, false, false, false, false, false, false, false, false, false, false, false, false, false, false, false, false, false, false, false, false, false, false, false, false, false, false, false, false] rfl rfl (any_of HT_.out (by kernel_rfl)) (fun _ _ _ h => h) (Or.inl ⟨by rfl, ?_⟩) ?_ ?_
                          rotate_left
                          ·intro w'
                           go_simp
                           with_reducible rfl
                          rotate_left
                          ·simp only [Act.put, List.setIfInBounds_toArray, List.set_cons_zero, List.set_cons_succ, i64_w, i32_w]
                           rfl
                          refine pure_ (i := 16) (N := some 92) (v := ?_) (a' := ?_) #[true, true, true, true, true, true, true, true, true, true, true, true, true, true, true, true, true, false, false, false, false, false, false, false, false, false, false, false, false, false, false, false, false, false, false, false, false, false, false, false, false, false, false, false, false] rfl rfl (any_of HT_.out (by kernel_rfl)) (fun _ _ _ h => h) (Or.inl ⟨by rfl, ?_⟩) ?_ ?_
                          rotate_left
                          ·intro w'
                           go_simp
                           with_reducible rfl
                          rotate_left
                          ·simp only [Act.put, List.setIfInBounds_toArray, List.set_cons_zero, List.set_cons_succ, i64_w, i32_w]
                           rfl
                          refine pure_ (i := 17) (N := some 93) (v := ?_) (a' := ?_) #[true, true, true, true, true, true, true, true, true, true, true, true, true, true, true, true, true, true, false, false, false, false, false, false, false, false, false, false, false, false, false, false, false, false, false, false, false, false, false, false, false, false, false, false, false] rfl rfl (any_of HT_.out (by kernel_rfl)) (fun _ _ _ h => h) (Or.inl ⟨by rfl, ?_⟩) ?_ ?_
                          rotate_left
                          ·intro w'
                           go_simp
                           with_reducible rfl
                          rotate_left
                          ·simp only [Act.put, List.setIfInBounds_toArray, List.set_cons_zero, List.set_cons_succ, i64_w, i32_w]
                           rfl
                          refine pure_ (i := 18) (N := some 94) (v := ?_) (a' := ?_) #[true, true, true, true, true, true, true, true, true, true, true, true, true, true, true, true, true, true, true, false, false, false, false, false, false, false, false, false, false, false, false, false, false, false, false, false, false, false, false, false, false, false, false, false, false] rfl rfl (any_of HT_.out (by kernel_rfl)) (fun _ _ _ h => h) (Or.inl ⟨by rfl, ?_⟩) ?_ ?_
                          rotate_left
                          ·intro w'
                           go_simp
                           with_reducible rfl
                          rotate_left
                          ·simp only [Act.put, List.setIfInBounds_toArray, List.set_cons_zero, List.set_cons_succ, i64_w, i32_w]
                           rfl
                          refine pure_ (i := 20) (N := some 96) (v := ?_) (a' := ?_) #[true, true, true, true, true, true, true, true, true, true, true, true, true, true, true, true, true, true, true, false, true, false, false, false, false, false, false, false, false, false, false, false, false, false, false, false, false, false, false, false, false, false, false, false, false] rfl rfl (any_of HT_.out (by kernel_rfl)) (fun _ _ _ h => h) (Or.inl ⟨by rfl, ?_⟩) ?_ ?_
                          rotate_left
                          ·intro w'
                           go_simp
                           with_reducible rfl
                          rotate_left
                          ·simp only [Act.put, List.setIfInBounds_toArray, List.set_cons_zero, List.set_cons_succ, i64_w, i32_w]
                           rfl
                          refine pure_ (i := 21) (N := some 97) (v := ?_) (a' := ?_) #[true, true, true, true, true, true, true, true, true, true, true, true, true, true, true, true, true, true, true, false, true, true, false, false, false, false, false, false, false, false, false, false, false, false, false, false, false, false, false, false, false, false, false, false, false] rfl rfl (any_of HT_.out (by kernel_rfl)) (fun _ _ _ h => h) (Or.inl ⟨by rfl, ?_⟩) ?_ ?_
                          rotate_left
                          ·intro w'
                           go_simp
                           with_reducible rfl
                          rotate_left
                          ·simp only [Act.put, List.setIfInBounds_toArray, List.set_cons_zero, List.set_cons_succ, i64_w, i32_w]
                           rfl
                          refine pure_ (i := 22) (N := some 98) (v := ?_) (a' := ?_) #[true, true, true, true, true, true, true, true, true, true, true, true, true, true, true, true, true, true, true, false, true, true, true, false, false, false, false, false, false, false, false, false, false, false, false, false, false, false, false, false, false, false, false, false, false] rfl rfl (any_of HT_.out (by kernel_rfl)) (fun _ _ _ h => h) (Or.inl ⟨by rfl, ?_⟩) ?_ ?_
                          rotate_left
                          ·intro w'
                           go_simp
                           with_reducible rfl
                          rotate_left
                          ·simp only [Act.put, List.setIfInBounds_toArray, List.set_cons_zero, List.set_cons_succ, i64_w, i32_w]
                           rfl
                          refine pure_ (i := 23) (N := some 99) (v := ?_) (a' := ?_) #[true, true, true, true, true, true, true, true, true, true, true, true, true, true, true, true, true, true, true, false, true, true, true, true, false, false, false, false, false, false, false, false, false, false, false, false, false, false, false, false, false, false, false, false, false] rfl rfl (any_of HT_.out (by kernel_rfl)) (fun _ _ _ h => h) (Or.inl ⟨by rfl, ?_⟩) ?_ ?_
                          rotate_left
                          ·intro w'
                           go_simp
                           with_reducible rfl
                          rotate_left
                          ·simp only [Act.put, List.setIfInBounds_toArray, List.set_cons_zero, List.set_cons_succ, i64_w, i32_w]
                           rfl
                          refine take_ (i := 19) (N := some 95) (v := ?_) (a' := ?_) #[true, true, true, true, true, true, true, true, true, true, true, true, true, true, true, true, true, true, true, true, true, true, true, true, false, false, false, false, false, false, false, false, false, false, false, false, false, false, false, false, false, false, false, false, false] rfl rfl (take_ofW HT_.out HW_.out (by kernel_rfl)) (fun _ _ _ h => h) (Or.inl ⟨by rfl, ?_⟩) hHeld ?_ ?_
                          rotate_left
                          ·rintro w' ⟨s0, s1, s2, s3, s4, s5, s6, s7, s8, s9, s10, s11, s12⟩
                           go_simp
                           with_reducible rfl
                          rotate_left
                          ·simp only [Act.put, List.setIfInBounds_toArray, List.set_cons_zero, List.set_cons_succ, i64_w, i32_w]
                           rfl
                          refine take_ (i := 24) (N := some 100) (v := ?_) (a' := ?_) #[true, true, true, true, true, true, true, true, true, true, true, true, true, true, true, true, true, true, true, true, true, true, true, true, true, false, false, false, false, false, false, false, false, false, false, false, false, false, false, false, false, false, false, false, false] rfl rfl (take_ofW HT_.out HW_.out (by kernel_rfl)) (fun _ _ _ h => h) (Or.inl ⟨by rfl, ?_⟩) hHeld ?_ ?_
                          rotate_left
                          ·rintro w' ⟨s0, s1, s2, s3, s4, s5, s6, s7, s8, s9, s10, s11, s12⟩
                           go_simp
                           with_reducible rfl
                          rotate_left
                          ·simp only [Act.put, List.setIfInBounds_toArray, List.set_cons_zero, List.set_cons_succ, i64_w, i32_w]
                           rfl
                          refine pure_ (i := 25) (N := some 101) (v := ?_) (a' := ?_) #[true, true, true, true, true, true, true, true, true, true, true, true, true, true, true, true, true, true, true, true, true, true, true, true, true, true, false, false, false, false, false, false, false, false, false, false, false, false, false, false, false, false, false, false, false] rfl rfl (any_of HT_.out (by kernel_rfl)) (fun _ _ _ h => h) (Or.inl ⟨by rfl, ?_⟩) ?_ ?_
                          rotate_left
                          ·intro w'
                           go_simp
                           with_reducible rfl
                          rotate_left
                          ·simp only [Act.put, List.setIfInBounds_toArray, List.set_cons_zero, List.set_cons_succ, i64_w, i32_w]
                           rfl
                          refine pure_ (i := 26) (N := some 102) (v := ?_) (a' := ?_) #[true, true, true, true, true, true, true, true, true, true, true, true, true, true, true, true, true, true, true, true, true, true, true, true, true, true, true, false, false, false, false, false, false, false, false, false, false, false, false, false, false, false, false, false, false] rfl rfl (any_of HT_.out (by kernel_rfl)) (fun _ _ _ h => h) (Or.inl ⟨by rfl, ?_⟩) ?_ ?_
                          rotate_left
                          ·intro w'
                           go_simp
                           with_reducible rfl
                          rotate_left
                          ·simp only [Act.put, List.setIfInBounds_toArray, List.set_cons_zero, List.set_cons_succ, i64_w, i32_w]
                           rfl
                          refine pure_ (i := 27) (N := some 103) (v := ?_) (a' := ?_) #[true, true, true, true, true, true, true, true, true, true, true, true, true, true, true, true, true, true, true, true, true, true, true, true, true, true, true, true, false, false, false, false, false, false, false, false, false, false, false, false, false, false, false, false, false] rfl rfl (any_of HT_.out (by kernel_rfl)) (fun _ _ _ h => h) (Or.inl ⟨by rfl, ?_⟩) ?_ ?_
                          rotate_left
                          ·intro w'
                           go_simp
                           with_reducible rfl
                          rotate_left
                          ·simp only [Act.put, List.setIfInBounds_toArray, List.set_cons_zero, List.set_cons_succ, i64_w, i32_w]
                           rfl
                          refine pure_ (i := 28) (N := some 104) (v := ?_) (a' := ?_) #[true, true, true, true, true, true, true, true, true, true, true, true, true, true, true, true, true, true, true, true, true, true, true, true, true, true, true, true, true, false, false, false, false, false, false, false, false, false, false, false, false, false, false, false, false] rfl rfl (any_of HT_.out (by kernel_rfl)) (fun _ _ _ h => h) (Or.inl ⟨by rfl, ?_⟩) ?_ ?_
                          rotate_left
                          ·intro w'
                           go_simp
                           with_reducible rfl
                          rotate_left
                          ·simp only [Act.put, List.setIfInBounds_toArray, List.set_cons_zero, List.set_cons_succ, i64_w, i32_w]
                           rfl
                          refine pure_ (i := 29) (N := some 105) (v := ?_) (a' := ?_) #[true, true, true, true, true, true, true, true, true, true, true, true, true, true, true, true, true, true, true, true, true, true, true, true, true, true, true, true, true, true, false, false, false, false, false, false, false, false, false, false, false, false, false, false, false] rfl rfl (any_of HT_.out (by kernel_rfl)) (fun _ _ _ h => h) (Or.inl ⟨by rfl, ?_⟩) ?_ ?_
                          rotate_left
                          ·intro w'
                           go_simp
                           with_reducible rfl
                          rotate_left
                          ·simp only [Act.put, List.setIfInBounds_toArray, List.set_cons_zero, List.set_cons_succ, i64_w, i32_w]
                           rfl
                          refine pure_ (i := 30) (N := some 106) (v := ?_) (a' := ?_) #[true, true, true, true, true, true, true, true, true, true, true, true, true, true, true, true, true, true, true, true, true, true, true, true, true, true, true, true, true, true, true, false, false, false, false, false, false, false, false, false, false, false, false, false, false] rfl rfl (any_of HT_.out (by kernel_rfl)) (fun _ _ _ h => h) (Or.inl ⟨by rfl, ?_⟩) ?_ ?_
                          rotate_left
                          ·intro w'
                           go_simp
                           with_reducible rfl
                          rotate_left
                          ·simp only [Act.put, List.setIfInBounds_toArray, List.set_cons_zero, List.set_cons_succ, i64_w, i32_w]
                           rfl
                          refine pure_ (i := 31) (N := some 107) (v := ?_) (a' := ?_) #[true, true, true, true, true, true, true, true, true, true, true, true, true, true, true, true, true, true, true, true, true, true, true, true, true, true, true, true, true, true, true, true, false, false, false, false, false, false, false, false, false, false, false, false, false] rfl rfl (any_of HT_.out (by kernel_rfl)) (fun _ _ _ h => h) (Or.inl ⟨by rfl, ?_⟩) ?_ ?_
                          rotate_left
                          ·intro w'
                           go_simp
                           with_reducible rfl
                          rotate_left
                          ·simp only [Act.put, List.setIfInBounds_toArray, List.set_cons_zero, List.set_cons_succ, i64_w, i32_w]
                           rfl
                          refine pure_ (i := 32) (N := some 108) (v := ?_) (a' := ?_) #[true, true, true, true, true, true, true, true, true, true, true, true, true, true, true, true, true, true, true, true, true, true, true, true, true, true, true, true, true, true, true, true, true, false, false, false, false, false, false, false, false, false, false, false, false] rfl rfl (any_of HT_.out (by kernel_rfl)) (fun _ _ _ h => h) (Or.inl ⟨by rfl, ?_⟩) ?_ ?_
                          rotate_left
                          ·intro w'
                           go_simp
                           with_reducible rfl
                          rotate_left
                          ·simp only [Act.put, List.setIfInBounds_toArray, List.set_cons_zero, List.set_cons_succ, i64_w, i32_w]
                           rfl
                          refine pure_ (i := 33) (N := some 109) (v := ?_) (a' := ?_) #[true, true, true, true, true, true, true, true, true, true, true, true, true, true, true, true, true, true, true, true, true, true, true, true, true, true, true, true, true, true, true, true, true, true, false, false, false, false, false, false, false, false, false, false, false] rfl rfl (any_of HT_.out (by kernel_rfl)) (fun _ _ _ h => h) (Or.inl ⟨by rfl, ?_⟩) ?_ ?_
                          rotate_left
                          ·intro w'
                           go_simp
                           with_reducible rfl
                          rotate_left
                          ·simp only [Act.put, List.setIfInBounds_toArray, List.set_cons_zero, List.set_cons_succ, i64_w, i32_w]
                           rfl
                          refine pure_ (i := 34) (N := some 110) (v := ?_) (a' := ?_) #[true, true, true, true, true, true, true, true, true, true, true, true, true, true, true, true, true, true, true, true, true, true, true, true, true, true, true, true, true, true, true, true, true, true, true, false, false, false, false, false, false, false, false, false, false] rfl rfl (any_of HT_.out (by kernel_rfl)) (fun _ _ _ h => h) (Or.inl ⟨by rfl, ?_⟩) ?_ ?_
                          rotate_left
                          ·intro w'
                           go_simp
                           with_reducible rfl
                          rotate_left
                          ·simp only [Act.put, List.setIfInBounds_toArray, List.set_cons_zero, List.set_cons_succ, i64_w, i32_w]
                           rfl
                          refine pure_ (i := 35) (N := some 111) (v := ?_) (a' := ?_) #[true, true, true, true, true, true, true, true, true, true, true, true, true, true, true, true, true, true, true, true, true, true, true, true, true, true, true, true, true, true, true, true, true, true, true, true, false, false, false, false, false, false, false, false, false] rfl rfl (any_of HT_.out (by kernel_rfl)) (fun _ _ _ h => h) (Or.inl ⟨by rfl, ?_⟩) ?_ ?_
                          rotate_left
                          ·intro w'
                           go_simp
                           with_reducible rfl
                          rotate_left
                          ·simp only [Act.put, List.setIfInBounds_toArray, List.set_cons_zero, List.set_cons_succ, i64_w, i32_w]
                           rfl
                          refine pure_ (i := 37) (N := some 113) (v := ?_) (a' := ?_) #[true, true, true, true, true, true, true, true, true, true, true, true, true, true, true, true, true, true, true, true, true, true, true, true, true, true, true, true, true, true, true, true, true, true, true, true, false, true, false, false, false, false, false, false, false] rfl rfl (any_of HT_.out (by kernel_rfl)) (fun _ _ _ h => h) (Or.inl ⟨by rfl, ?_⟩) ?_ ?_
                          rotate_left
                          ·intro w'
                           go_simp
                           with_reducible rfl
                          rotate_left
                          ·simp only [Act.put, List.setIfInBounds_toArray, List.set_cons_zero, List.set_cons_succ, i64_w, i32_w]
                           rfl
                          refine pure_ (i := 38) (N := some 114) (v := ?_) (a' := ?_) #[true, true, true, true, true, true, true, true, true, true, true, true, true, true, true, true, true, true, true, true, true, true, true, true, true, true, true, true, true, true, true, true, true, true, true, true, false, true, true, false, false, false, false, false, false] rfl rfl (any_of HT_.out (by kernel_rfl)) (fun _ _ _ h => h) (Or.inl ⟨by rfl, ?_⟩) ?_ ?_
                          rotate_left
                          ·intro w'
                           go_simp
                           with_reducible rfl
                          rotate_left
                          ·simp only [Act.put, List.setIfInBounds_toArray, List.set_cons_zero, List.set_cons_succ, i64_w, i32_w]
                           rfl
                          refine pure_ (i := 39) (N := some 115) (v := ?_) (a' := ?_) #[true, true, true, true, true, true, true, true, true, true, true, true, true, true, true, true, true, true, true, true, true, true, true, true, true, true, true, true, true, true, true, true, true, true, true, true, false, true, true, true, false, false, false, false, false] rfl rfl (any_of HT_.out (by kernel_rfl)) (fun _ _ _ h => h) (Or.inl ⟨by rfl, ?_⟩) ?_ ?_
                          rotate_left
                          ·intro w'
                           go_simp
                           with_reducible rfl
                          rotate_left
                          ·simp only [Act.put, List.setIfInBounds_toArray, List.set_cons_zero, List.set_cons_succ, i64_w, i32_w]
                           rfl
                          refine pure_ (i := 40) (N := some 116) (v := ?_) (a' := ?_) #[true, true, true, true, true, true, true, true, true, true, true, true, true, true, true, true, true, true, true, true, true, true, true, true, true, true, true, true, true, true, true, true, true, true, true, true, false, true, true, true, true, false, false, false, false] rfl rfl (any_of HT_.out (by kernel_rfl)) (fun _ _ _ h => h) (Or.inl ⟨by rfl, ?_⟩) ?_ ?_
                          rotate_left
                          ·intro w'
                           go_simp
                           with_reducible rfl
                          rotate_left
                          ·simp only [Act.put, List.setIfInBounds_toArray, List.set_cons_zero, List.set_cons_succ, i64_w, i32_w]
                           rfl
                          refine take_ (i := 36) (N := some 112) (v := ?_) (a' := ?_) #[true, true, true, true, true, true, true, true, true, true, true, true, true, true, true, true, true, true, true, true, true, true, true, true, true, true, true, true, true, true, true, true, true, true, true, true, true, true, true, true, true, false, false, false, false] rfl rfl (take_ofW HT_.out HW_.out (by kernel_rfl)) (fun _ _ _ h => h) (Or.inl ⟨by rfl, ?_⟩) hHeld ?_ ?_
                          rotate_left
                          ·rintro w' ⟨s0, s1, s2, s3, s4, s5, s6, s7, s8, s9, s10, s11, s12⟩
                           go_simp
                           with_reducible rfl
                          rotate_left
                          ·simp only [Act.put, List.setIfInBounds_toArray, List.set_cons_zero, List.set_cons_succ, i64_w, i32_w]
                           rfl
                          refine take_ (i := 41) (N := some 117) (v := ?_) (a' := ?_) #[true, true, true, true, true, true, true, true, true, true, true, true, true, true, true, true, true, true, true, true, true, true, true, true, true, true, true, true, true, true, true, true, true, true, true, true, true, true, true, true, true, true, false, false, false] rfl rfl (take_ofW HT_.out HW_.out (by kernel_rfl)) (fun _ _ _ h => h) (Or.inl ⟨by rfl, ?_⟩) hHeld ?_ ?_
                          rotate_left
                          ·rintro w' ⟨s0, s1, s2, s3, s4, s5, s6, s7, s8, s9, s10, s11, s12⟩
                           go_simp
                           with_reducible rfl
                          rotate_left
                          ·simp only [Act.put, List.setIfInBounds_toArray, List.set_cons_zero, List.set_cons_succ, i64_w, i32_w]
                           rfl
                          refine pure_ (i := 42) (N := some 118) (v := ?_) (a' := ?_) #[true, true, true, true, true, true, true, true, true, true, true, true, true, true, true, true, true, true, true, true, true, true, true, true, true, true, true, true, true, true, true, true, true, true, true, true, true, true, true, true, true, true, true, false, false] rfl rfl (any_of HT_.out (by kernel_rfl)) (fun _ _ _ h => h) (Or.inl ⟨by rfl, ?_⟩) ?_ ?_
                          rotate_left
                          ·intro w'
                           go_simp
                           with_reducible rfl
                          rotate_left
                          ·simp only [Act.put, List.setIfInBounds_toArray, List.set_cons_zero, List.set_cons_succ, i64_w, i32_w]
                           rfl
                          refine pure_ (i := 43) (N := some 119) (v := ?_) (a' := ?_) #[true, true, true, true, true, true, true, true, true, true, true, true, true, true, true, true, true, true, true, true, true, true, true, true, true, true, true, true, true, true, true, true, true, true, true, true, true, true, true, true, true, true, true, true, false] rfl rfl (any_of HT_.out (by kernel_rfl)) (fun _ _ _ h => h) (Or.inl ⟨by rfl, ?_⟩) ?_ ?_
                          rotate_left
                          ·intro w'
                           go_simp
                           with_reducible rfl
                          rotate_left
                          ·simp only [Act.put, List.setIfInBounds_toArray, List.set_cons_zero, List.set_cons_succ, i64_w, i32_w]
                           rfl
                          refine pure_ (i := 44) (N := some 120) (v := ?_) (a' := ?_) #[true, true, true, true, true, true, true, true, true, true, true, true, true, true, true, true, true, true, true, true, true, true, true, true, true, true, true, true, true, true, true, true, true, true, true, true, true, true, true, true, true, true, true, true, true] rfl rfl (any_of HT_.out (by kernel_rfl)) (fun _ _ _ h => h) (Or.inl ⟨by rfl, ?_⟩) ?_ ?_
                          rotate_left
                          ·intro w'
                           go_simp
                           with_reducible rfl
                          rotate_left
                          ·simp only [Act.put, List.setIfInBounds_toArray, List.set_cons_zero, List.set_cons_succ, i64_w, i32_w]
                           rfl
                          refine done_ (done_of HT_.out (by kernel_rfl)) ?_
                          have p55 : 0 ≤ (((rd_T45 t626 x10_3).f1) : Int) := of_decide_eq_true (by first | (with_reducible assumption) | assumption)
                          have q55 : (((rd_T45 t626 x10_3).f1) : Int) < ((x9_3.length : Int) : Int) := of_decide_eq_true (by first | (with_reducible assumption) | assumption)
                          obtain ⟨go55, co55, eo55, gb55, gl55, cl55, HG55⟩ := Kd.R_form HO_9.out (by omega)
                          (first | cases eo55 | (injection eo55 with ea_ en_ ec_; (first | subst ea_ | (injection ea_ with ea_; subst ea_)); subst ec_; clear en_))
                          have GB55 := ka gb55
                          have GG55 := ka HG55
                          clear gb55 gl55 HG55
                          (first | simp only [add_plain] at hx635_0 | skip)
                          obtain ⟨hx55_0, hf55_0⟩ := Kd.R_celln false HO_9.out (((rd_T45 t626 x10_3).f1) : Int) p55 q55
                          replace p55 := eq_true p55
                          replace q55 := eq_true q55
                          obtain ⟨hy58_, hz58_⟩ := Kd.R_celln false HO_9.out (((rd_T45 t626 x10_3).f1) : Int) (of_decide_eq_true (by first | (with_reducible assumption) | assumption)) (of_decide_eq_true (by first | (with_reducible assumption) | assumption))
                          have HP58 := Kd.R_putg HO_9.out (((rd_T45 t626 x10_3).f1) : Int) true
                          try go_wp2_with (first | ((with_reducible refine gate_store (t := 4) (p := 123) rfl ?_); refine store_event (t := 4) (p := 123) (v := ?vo_w59) (w1 := (w56.setCell ⟨go55, (((rd_T45 t626 x10_3).f1) : Int).toNat, none⟩ (.bool true))) ?hg ?ho ?hn ?hr ?_; (case ho => rfl); (case hg => rfl); (case hn => rfl); (case hr => first | (go_simp; done) | (go_simp; rfl)); intro w59 hw; have hg : w56.grownBy w59 (some go55) := (by rw [hw]; exact HP58.2); have hp_ : Kd.R Kd.bool 4 w59 w.heap.size (fun _ => True) (.slice (some ⟨go55, 0, none⟩) x9_3.length co57) y640 := (by rw [hw, Ny640.out]; exact HP58.1); clear HP58; replace HO_7 := ka (Kd.R_over' (v := (.slice (some ⟨go55, 0, none⟩) x9_3.length co57)) (kr HO_7.out) (Kd.R_typed HO_9.out) (by decide) hg); replace BK619 := ka (blk_grown (g := gb619) (kz BK619.out) hg (Kd.R_ne HO_9.out BK619.out (by decide))); replace BK621 := ka (blk_grown (g := gb621) (kz BK621.out) hg (Kd.R_ne HO_9.out BK621.out (by decide))); replace HO_9 := ka (hp_); replace HB := ka ((by rw [hw]; exact below_set (HB.out) GB55.out : Below w.heap.size w w59)); clear hg hw hp_))
                          go_roundg k3
                          case measure => have := HJ3.out; have := HJ9.out; have := HK3.out; omega
                          case rel => exact ⟨(y640), (wrap64 (x10_3 + 1)), (by first | rfl | (simp; done) | (simp [*]; done)), H', ⟨by have := HJ3.out; have := HJ9.out; have := HK3.out; omega⟩, ⟨kr HO_7.out⟩, ⟨kr HO_9.out⟩, ⟨by (with_reducible repeat (first | apply kb1 | apply kb2 | apply kb3)); exact BK619.out⟩, ⟨by (with_reducible repeat (first | apply kb1 | apply kb2 | apply kb3)); exact BK621.out⟩, ⟨by repeat (first | (with_reducible first | exact HB.out | apply kc1 | apply kc2 | apply kc3 | refine kc4 ?_ GE619.out | refine kc4 ?_ GE621.out) | exact HB.out)⟩⟩
                        ·rw [if_neg c53] at H
                         exact absurd H (by simp)
                       ·rw [if_neg c52] at H
                        exact absurd H (by simp)
                      ·rw [if_neg c50] at H
                       have c50b0 : decide (0 < x10_3) = false := decide_eq_false c50
                       clear c50
                       obtain ⟨y641, hy641⟩ : ∃ y_ : List Bool, y_ = (x9_3.set (((rd_T45 t626 x10_3).f1) : Int).toNat true) := ⟨_, rfl⟩
                       replace H : (trivetlaw14_CalendarOnce.l0 k3 l0 t620 t626 y641 (wrap64 (x10_3 + 1))) = some r := by first | (rw [hy641]; with_reducible exact H) | (have H2_ := (Option.bind_some _ _).symm.trans H; rw [hy641]; with_reducible exact H2_) | (have H2_ := (Option.bind_some _ _).symm.trans H; with_reducible exact H2_) | with_reducible exact H | (rw [hy641]; exact H) | exact H
                       have Ny641 := ka hy641
                       clear hy641
                       have H' := ka H
                       clear H
                       have p634 : 0 ≤ (x10_3 : Int) := of_decide_eq_true (by first | (with_reducible assumption) | assumption)
                       have q634 : x10_3 < (t626.length : Int) := of_decide_eq_true (by first | (with_reducible assumption) | assumption)
                       obtain ⟨ad634, e634, hx634_0, hx634_1, hx634_2⟩ := at_T45 (Kd.R_reads' HO_7.out).2.2 x10_3 p634 q634
                       cases e634
                       replace p634 := eq_true p634
                       replace q634 := eq_true q634
                       try go_wp2
                       replace HO_7 := ka (Kd.R_drew HO_7.out)
                       replace HO_9 := ka (Kd.R_drew HO_9.out)
                       replace BK619 := ka (blk_drew BK619.out)
                       replace BK621 := ka (blk_drew BK621.out)
                       replace HB := ka (below_drew1 HB.out)
                       obtain ⟨Ao62, co62, eo62⟩ := Kd.R_slice HO_9.out
                       (first | subst eo62 | (injection eo62 with f1_ f2_ f3_; have f4_ := f1_.symm; have f5_ := f3_.symm; clear f1_ f2_ f3_; subst f4_; subst f5_))
                       have p635 : 0 ≤ (((rd_T45 t626 x10_3).f1) : Int) := of_decide_eq_true (by first | (with_reducible assumption) | assumption)
                       have q635 : ((rd_T45 t626 x10_3).f1) < (x9_3.length : Int) := of_decide_eq_true (by first | (with_reducible assumption) | assumption)
                       obtain ⟨ad635, e635, hx635_0⟩ := Kd.at_bool (Kd.R_reads' HO_9.out).2.2 ((rd_T45 t626 x10_3).f1) p635 q635
                       (try rw [← Nbq46.out] at hx635_0)
                       cases e635
                       replace p635 := eq_true p635
                       replace q635 := eq_true q635
                       have p636 : 0 ≤ (x10_3 : Int) := of_decide_eq_true (by first | (with_reducible assumption) | assumption)
                       have q636 : x10_3 < (t626.length : Int) := of_decide_eq_true (by first | (with_reducible assumption) | assumption)
                       obtain ⟨ad636, e636, hx636_0, hx636_1, hx636_2⟩ := at_T45 (Kd.R_reads' HO_7.out).2.2 x10_3 p636 q636
                       obtain rfl : ad634 = ad636 := (by injection e636)
                       replace p636 := eq_true p636
                       replace q636 := eq_true q636
                       have p637 : 0 ≤ (((rd_T45 t626 x10_3).f1) : Int) := of_decide_eq_true (by first | (with_reducible assumption) | assumption)
                       have q637 : ((rd_T45 t626 x10_3).f1) < (l0.length : Int) := of_decide_eq_true (by first | (with_reducible assumption) | assumption)
                       obtain ⟨ad637, e637, hx637_0, hx637_1, hx637_2⟩ := at_T48 HR0.out ((rd_T45 t626 x10_3).f1) p637 q637
                       have hw637_2 := hx637_2
                       have hw637_1 := hx637_1
                       have hw637_0 := hx637_0
                       cases e637
                       replace hx637_0 := (HB.out.cell (World.block_lt_of_cell? w _ hx637_0)).trans hx637_0
                       replace hx637_1 := (HB.out.cell (World.block_lt_of_cell? w _ hx637_1)).trans hx637_1
                       replace hx637_2 := (HB.out.cell (World.block_lt_of_cell? w _ hx637_2)).trans hx637_2
                       replace p637 := eq_true p637
                       replace q637 := eq_true q637
                       refine start_ (n := 45) (S := fun w' => w'.cell? (ad635.add (((rd_T45 t626 x10_3).f1)).toNat) = some (.bool false) ∧ w'.cell? (ad634.add ((x10_3).toNat * 3)) = some (.int .i64 ((rd_T45 t626 x10_3).f0)) ∧ w'.cell? ⟨(ad634.add ((x10_3).toNat * 3)).block, (ad634.add ((x10_3).toNat * 3)).off + 1, none⟩ = some (.int .i64 ((rd_T45 t626 x10_3).f1)) ∧ w'.cell? ⟨(ad634.add ((x10_3).toNat * 3)).block, (ad634.add ((x10_3).toNat * 3)).off + 2, none⟩ = some (.int .i64 ((rd_T45 t626 x10_3).f2)) ∧ w'.cell? (ad637.add ((((rd_T45 t626 x10_3).f1)).toNat * 3)) = some (.int .i64 ((rd_T48 l0 ((rd_T45 t626 x10_3).f1)).f0)) ∧ w'.cell? ⟨(ad637.add ((((rd_T45 t626 x10_3).f1)).toNat * 3)).block, (ad637.add ((((rd_T45 t626 x10_3).f1)).toNat * 3)).off + 1, none⟩ = some (.int .i64 ((rd_T48 l0 ((rd_T45 t626 x10_3).f1)).f1)) ∧ w'.cell? ⟨(ad637.add ((((rd_T45 t626 x10_3).f1)).toNat * 3)).block, (ad637.add ((((rd_T45 t626 x10_3).f1)).toNat * 3)).off + 2, none⟩ = some (.int .i64 ((rd_T48 l0 ((rd_T45 t626 x10_3).f1)).f2))) (ds := []) #[false, false, false, false, false, false, false, false, false, false, false, false, false, false, false, false, false, false, false, false, false, false, false, false, false, false, false, false, false, false, false, false, false, false, false, false, false, false, false, false, false, false, false, false, false] (by kernel_rfl) rfl rfl ⟨hx635_0, hx636_0, hx636_1, hx636_2, ((HB.out.cell (World.block_lt_of_cell? w _ hw637_0)).trans hw637_0), ((HB.out.cell (World.block_lt_of_cell? w _ hw637_1)).trans hw637_1), ((HB.out.cell (World.block_lt_of_cell? w _ hw637_2)).trans hw637_2)⟩ (fun hHeld => ?_); refine with_tabW trivetlaw14_CalendarOnce.tab17 trivetlaw14_CalendarOnce.bits17 (fun HT_ HW_ => ?_)
                       generalize wr.drew = w61 at HO_7 HO_9 BK619 BK621 HB hx635_0 hx636_0 hx636_1 hx636_2 hx637_0 hx637_1 hx637_2 hHeld ⊢
                       refine pure_ (i := 0) (N := some 76) (v := ?_) (a' := ?_) #[true, false, false, false, false, false, false, false, false, false, false, false, false, false, false, false, false, false, false, false, false, false, false, false, false, false, false, false, false, false, false, false, false, false, false, false, false, false, false, false, false, false, false, false, false] rfl rfl (any_of HT_.out (by kernel_rfl)) (fun _ _ _ h => h) (Or.inl ⟨by rfl, ?_⟩) ?_ ?_
                       rotate_left
                       ·intro w'
                        go_simp
                        with_reducible rfl
                       rotate_left
                       ·simp only [Act.put, List.setIfInBounds_toArray, List.set_cons_zero, List.set_cons_succ, i64_w, i32_w]
                        rfl
                       refine pure_ (i := 1) (N := some 77) (v := ?_) (a' := ?_) #[true, true, false, false, false, false, false, false, false, false, false, false, false, false, false, false, false, false, false, false, false, false, false, false, false, false, false, false, false, false, false, false, false, false, false, false, false, false, false, false, false, false, false, false, false] rfl rfl (any_of HT_.out (by kernel_rfl)) (fun _ _ _ h => h) (Or.inl ⟨by rfl, ?_⟩) ?_ ?_
                       rotate_left
                       ·intro w'
                        go_simp
                        with_reducible rfl
                       rotate_left
                       ·simp only [Act.put, List.setIfInBounds_toArray, List.set_cons_zero, List.set_cons_succ, i64_w, i32_w]
                        rfl
                       refine pure_ (i := 2) (N := some 78) (v := ?_) (a' := ?_) #[true, true, true, false, false, false, false, false, false, false, false, false, false, false, false, false, false, false, false, false, false, false, false, false, false, false, false, false, false, false, false, false, false, false, false, false, false, false, false, false, false, false, false, false, false] rfl rfl (any_of HT_.out (by kernel_rfl)) (fun _ _ _ h => h) (Or.inl ⟨by rfl, ?_⟩) ?_ ?_
                       rotate_left
                       ·intro w'
                        go_simp
                        with_reducible rfl
                       rotate_left
                       ·simp only [Act.put, List.setIfInBounds_toArray, List.set_cons_zero, List.set_cons_succ, i64_w, i32_w]
                        rfl
                       refine pure_ (i := 3) (N := some 79) (v := ?_) (a' := ?_) #[true, true, true, true, false, false, false, false, false, false, false, false, false, false, false, false, false, false, false, false, false, false, false, false, false, false, false, false, false, false, false, false, false, false, false, false, false, false, false, false, false, false, false, false, false] rfl rfl (any_of HT_.out (by kernel_rfl)) (fun _ _ _ h => h) (Or.inl ⟨by rfl, ?_⟩) ?_ ?_
                       rotate_left
                       ·intro w'
                        go_simp
                        with_reducible rfl
                       rotate_left
                       ·simp only [Act.put, List.setIfInBounds_toArray, List.set_cons_zero, List.set_cons_succ, i64_w, i32_w]
                        rfl
                       refine pure_ (i := 4) (N := some 80) (v := ?_) (a' := ?_) #[true, true, true, true, true, false, false, false, false, false, false, false, false, false, false, false, false, false, false, false, false, false, false, false, false, false, false, false, false, false, false, false, false, false, false, false, false, false, false, false, false, false, false, false, false] rfl rfl (any_of HT_.out (by kernel_rfl)) (fun _ _ _ h => h) (Or.inl ⟨by rfl, ?_⟩) ?_ ?_
                       rotate_left
                       ·intro w'
                        go_simp
                        with_reducible rfl
                       rotate_left
                       ·simp only [Act.put, List.setIfInBounds_toArray, List.set_cons_zero, List.set_cons_succ, i64_w, i32_w]
                        rfl
                       refine pure_ (i := 5) (N := some 81) (v := ?_) (a' := ?_) #[true, true, true, true, true, true, false, false, false, false, false, false, false, false, false, false, false, false, false, false, false, false, false, false, false, false, false, false, false, false, false, false, false, false, false, false, false, false, false, false, false, false, false, false, false] rfl rfl (any_of HT_.out (by kernel_rfl)) (fun _ _ _ h => h) (Or.inl ⟨by rfl, ?_⟩) ?_ ?_
                       rotate_left
                       ·intro w'
                        go_simp
                        with_reducible rfl
                       rotate_left
                       ·simp only [Act.put, List.setIfInBounds_toArray, List.set_cons_zero, List.set_cons_succ, i64_w, i32_w]
                        rfl
                       refine pure_ (i := 6) (N := some 82) (v := ?_) (a' := ?_) #[true, true, true, true, true, true, true, false, false, false, false, false, false, false, false, false, false, false, false, false, false, false, false, false, false, false, false, false, false, false, false, false, false, false, false, false, false, false, false, false, false, false, false, false, false] rfl rfl (any_of HT_.out (by kernel_rfl)) (fun _ _ _ h => h) (Or.inl ⟨by rfl, ?_⟩) ?_ ?_
                       rotate_left
                       ·intro w'
                        go_simp
                        with_reducible rfl
                       rotate_left
                       ·simp only [Act.put, List.setIfInBounds_toArray, List.set_cons_zero, List.set_cons_succ, i64_w, i32_w]
                        rfl
                       refine pure_ (i := 7) (N := some 83) (v := ?_) (a' := ?_) #[true, true, true, true, true, true, true, true, false, false, false, false, false, false, false, false, false, false, false, false, false, false, false, false, false, false, false, false, false, false, false, false, false, false, false, false, false, false, false, false, false, false, false, false, false] rfl rfl (any_of HT_.out (by kernel_rfl)) (fun _ _ _ h => h) (Or.inl ⟨by rfl, ?_⟩) ?_ ?_
                       rotate_left
                       ·intro w'
                        go_simp
                        with_reducible rfl
                       rotate_left
                       ·simp only [Act.put, List.setIfInBounds_toArray, List.set_cons_zero, List.set_cons_succ, i64_w, i32_w]
                        rfl
                       refine pure_ (i := 8) (N := some 84) (v := ?_) (a' := ?_) #[true, true, true, true, true, true, true, true, true, false, false, false, false, false, false, false, false, false, false, false, false, false, false, false, false, false, false, false, false, false, false, false, false, false, false, false, false, false, false, false, false, false, false, false, false] rfl rfl (any_of HT_.out (by kernel_rfl)) (fun _ _ _ h => h) (Or.inl ⟨by rfl, ?_⟩) ?_ ?_
                       rotate_left
                       ·intro w'
                        go_simp
                        with_reducible rfl
                       rotate_left
                       ·simp only [Act.put, List.setIfInBounds_toArray, List.set_cons_zero, List.set_cons_succ, i64_w, i32_w]
                        rfl
                       refine pure_ (i := 9) (N := some 85) (v := ?_) (a' := ?_) #[true, true, true, true, true, true, true, true, true, true, false, false, false, false, false, false, false, false, false, false, false, false, false, false, false, false, false, false, false, false, false, false, false, false, false, false, false, false, false, false, false, false, false, false, false] rfl rfl (any_of HT_.out (by kernel_rfl)) (fun _ _ _ h => h) (Or.inl ⟨by rfl, ?_⟩) ?_ ?_
                       rotate_left
                       ·intro w'
                        go_simp
                        with_reducible rfl
                       rotate_left
                       ·simp only [Act.put, List.setIfInBounds_toArray, List.set_cons_zero, List.set_cons_succ, i64_w, i32_w]
                        rfl
                       refine pure_ (i := 10) (N := some 86) (v := ?_) (a' := ?_) #[true, true, true, true, true, true, true, true, true, true, true, false, false, false, false, false, false, false, false, false, false, false, false, false, false, false, false, false, false, false, false, false, false, false, false, false, false, false, false, false, false, false, false, false, false] rfl rfl (any_of HT_.out (by kernel_rfl)) (fun _ _ _ h => h) (Or.inl ⟨by rfl, ?_⟩) ?_ ?_
                       rotate_left
                       ·intro w'
                        go_simp
                        with_reducible rfl
                       rotate_left
                       ·simp only [Act.put, List.setIfInBounds_toArray, List.set_cons_zero, List.set_cons_succ, i64_w, i32_w]
                        rfl
                       refine pure_ (i := 11) (N := some 87) (v := ?_) (a' := ?_) #[true, true, true, true, true, true, true, true, true, true, true, true, false, false, false, false, false, false, false, false, false, false, false, false, false, false, false, false, false, false, false, false, false, false, false, false, false, false, false, false, false, false, false, false, false] rfl rfl (any_of HT_.out (by kernel_rfl)) (fun _ _ _ h => h) (Or.inl ⟨by rfl, ?_⟩) ?_ ?_
                       rotate_left
                       ·intro w'
                        go_simp
                        with_reducible rfl
                       rotate_left
                       ·simp only [Act.put, List.setIfInBounds_toArray, List.set_cons_zero, List.set_cons_succ, i64_w, i32_w]
                        rfl
                       refine take_ (i := 12) (N := some 88) (v := ?_) (a' := ?_) #[true, true, true, true, true, true, true, true, true, true, true, true, true, false, false, false, false, false, false, false, false, false, false, false, false, false, false, false, false, false, false, false, false, false, false, false, false, false, false, false, false, false, false, false, false] rfl rfl (take_ofW HT_.out HW_.out (by kernel_rfl)) (fun _ _ _ h => h) (Or.inl ⟨by rfl, ?_⟩) hHeld ?_ ?_
                       rotate_left
                       ·rintro w' ⟨s0, s1, s2, s3, s4, s5, s6⟩
                        go_simp
                        with_reducible rfl
                       rotate_left
                       ·simp only [Act.put, List.setIfInBounds_toArray, List.set_cons_zero, List.set_cons_succ, i64_w, i32_w]
                        rfl
                       refine pure_ (i := 13) (N := some 89) (v := ?_) (a' := ?_) #[true, true, true, true, true, true, true, true, true, true, true, true, true, true, false, false, false, false, false, false, false, false, false, false, false, false, false, false, false, false, false, false, false, false, false, false, false, false, false, false, false, false, false, false, false] rfl rfl (any_of HT_.out (by kernel_rfl)) (fun _ _ _ h => h) (Or.inl ⟨by rfl, ?_⟩) ?_ ?_
                       rotate_left
                       ·intro w'
                        go_simp
                        with_reducible rfl
                       rotate_left
                       ·simp only [Act.put, List.setIfInBounds_toArray, List.set_cons_zero, List.set_cons_succ, i64_w, i32_w]
                        rfl
                       refine pure_ (i := 14) (N := some 90) (v := ?_) (a' := ?_) #[true, true, true, true, true, true, true, true, true, true, true, true, true, true, true, false, false, false, false, false, false, false, false, false, false, false, false, false, false, false, false, false, false, false, false, false, false, false, false, false, false, false, false, false, false] rfl rfl (any_of HT_.out (by kernel_rfl)) (fun _ _ _ h => h) (Or.inl ⟨by rfl, ?_⟩) ?_ ?_
                       rotate_left
                       ·intro w'
                        go_simp
                        with_reducible rfl
                       rotate_left
                       ·simp only [Act.put, List.setIfInBounds_toArray, List.set_cons_zero, List.set_cons_succ, i64_w, i32_w]
                        rfl
                       refine pure_ (i := 15) (N := some 91) (v := ?_) (a' := ?_) #[true, true, true, true, true, true, true, true, true, true, true, true, true, true, true, true, false, false, false, false, false, false, false, false, false, false, false, false, false, false, false, false, false, false, false, false, false, false, false, false, false, false, false, false, false] rfl rfl (any_of HT_.out (by kernel_rfl)) (fun _ _ _ h => h) (Or.inl ⟨by rfl, ?_⟩) ?_ ?_
                       rotate_left
                       ·intro w'
                        go_simp
                        with_reducible rfl
                       rotate_left
                       ·simp only [Act.put, List.setIfInBounds_toArray, List.set_cons_zero, List.set_cons_succ, i64_w, i32_w]
                        rfl
                       refine pure_ (i := 16) (N := some 92) (v := ?_) (a' := ?_) #[true, true, true, true, true, true, true, true, true, true, true, true, true, true, true, true, true, false, false, false, false, false, false, false, false, false, false, false, false, false, false, false, false, false, false, false, false, false, false, false, false, false, false, false, false] rfl rfl (any_of HT_.out (by kernel_rfl)) (fun _ _ _ h => h) (Or.inl ⟨by rfl, ?_⟩) ?_ ?_
                       rotate_left
                       ·intro w'
                        go_simp
                        with_reducible rfl
                       rotate_left
                       ·simp only [Act.put, List.setIfInBounds_toArray, List.set_cons_zero, List.set_cons_succ, i64_w, i32_w]
                        rfl
                       refine pure_ (i := 17) (N := some 93) (v := ?_) (a' := ?_) #[true, true, true, true, true, true, true, true, true, true, true, true, true, true, true, true, true, true, false, false, false, false, false, false, false, false, false, false, false, false, false, false, false, false, false, false, false, false, false, false, false, false, false, false, false] rfl rfl (any_of HT_.out (by kernel_rfl)) (fun _ _ _ h => h) (Or.inl ⟨by rfl, ?_⟩) ?_ ?_
                       rotate_left
                       ·intro w'
                        go_simp
                        with_reducible rfl
                       rotate_left
                       ·simp only [Act.put, List.setIfInBounds_toArray, List.set_cons_zero, List.set_cons_succ, i64_w, i32_w]
                        rfl
                       refine pure_ (i := 18) (N := some 94) (v := ?_) (a' := ?_) #[true, true, true, true, true, true, true, true, true, true, true, true, true, true, true, true, true, true, true, false, false, false, false, false, false, false, false, false, false, false, false, false, false, false, false, false, false, false, false, false, false, false, false, false, false] rfl rfl (any_of HT_.out (by kernel_rfl)) (fun _ _ _ h => h) (Or.inl ⟨by rfl, ?_⟩) ?_ ?_
                       rotate_left
                       ·intro w'
                        go_simp
                        with_reducible rfl
                       rotate_left
                       ·simp only [Act.put, List.setIfInBounds_toArray, List.set_cons_zero, List.set_cons_succ, i64_w, i32_w]
                        rfl
                       refine pure_ (i := 20) (N := some 96) (v := ?_) (a' := ?_) #[true, true, true, true, true, true, true, true, true, true, true, true, true, true, true, true, true, true, true, false, true, false, false, false, false, false, false, false, false, false, false, false, false, false, false, false, false, false, false, false, false, false, false, false, false] rfl rfl (any_of HT_.out (by kernel_rfl)) (fun _ _ _ h => h) (Or.inl ⟨by rfl, ?_⟩) ?_ ?_
                       rotate_left
                       ·intro w'
                        go_simp
                        with_reducible rfl
                       rotate_left
                       ·simp only [Act.put, List.setIfInBounds_toArray, List.set_cons_zero, List.set_cons_succ, i64_w, i32_w]
                        rfl
                       refine pure_ (i := 21) (N := some 97) (v := ?_) (a' := ?_) #[true, true, true, true, true, true, true, true, true, true, true, true, true, true, true, true, true, true, true, false, true, true, false, false, false, false, false, false, false, false, false, false, false, false, false, false, false, false, false, false, false, false, false, false, false] rfl rfl (any_of HT_.out (by kernel_rfl)) (fun _ _ _ h => h) (Or.inl ⟨by rfl, ?_⟩) ?_ ?_
                       rotate_left
                       ·intro w'
                        go_simp
                        with_reducible rfl
                       rotate_left
                       ·simp only [Act.put, List.setIfInBounds_toArray, List.set_cons_zero, List.set_cons_succ, i64_w, i32_w]
                        rfl
                       refine pure_ (i := 22) (N := some 98) (v := ?_) (a' := ?_) #[true, true, true, true, true, true, true, true, true, true, true, true, true, true, true, true, true, true, true, false, true, true, true, false, false, false, false, false, false, false, false, false, false, false, false, false, false, false, false, false, false, false, false, false, false] rfl rfl (any_of HT_.out (by kernel_rfl)) (fun _ _ _ h => h) (Or.inl ⟨by rfl, ?_⟩) ?_ ?_
                       rotate_left
                       ·intro w'
                        go_simp
                        with_reducible rfl
                       rotate_left
                       ·simp only [Act.put, List.setIfInBounds_toArray, List.set_cons_zero, List.set_cons_succ, i64_w, i32_w]
                        rfl
                       refine pure_ (i := 23) (N := some 99) (v := ?_) (a' := ?_) #[true, true, true, true, true, true, true, true, true, true, true, true, true, true, true, true, true, true, true, false, true, true, true, true, false, false, false, false, false, false, false, false, false, false, false, false, false, false, false, false, false, false, false, false, false] rfl rfl (any_of HT_.out (by kernel_rfl)) (fun _ _ _ h => h) (Or.inl ⟨by rfl, ?_⟩) ?_ ?_
                       rotate_left
                       ·intro w'
                        go_simp
                        with_reducible rfl
                       rotate_left
                       ·simp only [Act.put, List.setIfInBounds_toArray, List.set_cons_zero, List.set_cons_succ, i64_w, i32_w]
                        rfl
                       refine take_ (i := 19) (N := some 95) (v := ?_) (a' := ?_) #[true, true, true, true, true, true, true, true, true, true, true, true, true, true, true, true, true, true, true, true, true, true, true, true, false, false, false, false, false, false, false, false, false, false, false, false, false, false, false, false, false, false, false, false, false] rfl rfl (take_ofW HT_.out HW_.out (by kernel_rfl)) (fun _ _ _ h => h) (Or.inl ⟨by rfl, ?_⟩) hHeld ?_ ?_
                       rotate_left
                       ·rintro w' ⟨s0, s1, s2, s3, s4, s5, s6⟩
                        go_simp
                        with_reducible rfl
                       rotate_left
                       ·simp only [Act.put, List.setIfInBounds_toArray, List.set_cons_zero, List.set_cons_succ, i64_w, i32_w]
                        rfl
                       refine take_ (i := 24) (N := some 100) (v := ?_) (a' := ?_) #[true, true, true, true, true, true, true, true, true, true, true, true, true, true, true, true, true, true, true, true, true, true, true, true, true, false, false, false, false, false, false, false, false, false, false, false, false, false, false, false, false, false, false, false, false] rfl rfl (take_ofW HT_.out HW_.out (by kernel_rfl)) (fun _ _ _ h => h) (Or.inl ⟨by rfl, ?_⟩) hHeld ?_ ?_
                       rotate_left
                       ·rintro w' ⟨s0, s1, s2, s3, s4, s5, s6⟩
                        go_simp
                        with_reducible rfl
                       rotate_left
                       ·simp only [Act.put, List.setIfInBounds_toArray, List.set_cons_zero, List.set_cons_succ, i64_w, i32_w]
                        rfl
                       refine pure_ (i := 25) (N := some 101) (v := ?_) (a' := ?_) #[true, true, true, true, true, true, true, true, true, true, true, true, true, true, true, true, true, true, true, true, true, true, true, true, true, true, false, false, false, false, false, false, false, false, false, false, false, false, false, false, false, false, false, false, false] rfl rfl (any_of HT_.out (by kernel_rfl)) (fun _ _ _ h => h) (Or.inl ⟨by rfl, ?_⟩) ?_ ?_
                       rotate_left
                       ·intro w'
                        go_simp
                        with_reducible rfl
                       rotate_left
                       ·simp only [Act.put, List.setIfInBounds_toArray, List.set_cons_zero, List.set_cons_succ, i64_w, i32_w]
                        rfl
                       refine pure_ (i := 26) (N := some 102) (v := ?_) (a' := ?_) #[true, true, true, true, true, true, true, true, true, true, true, true, true, true, true, true, true, true, true, true, true, true, true, true, true, true, true, false, false, false, false, false, false, false, false, false, false, false, false, false, false, false, false, false, false] rfl rfl (any_of HT_.out (by kernel_rfl)) (fun _ _ _ h => h) (Or.inl ⟨by rfl, ?_⟩) ?_ ?_
                       rotate_left
                       ·intro w'
                        go_simp
                        with_reducible rfl
                       rotate_left
                       ·simp only [Act.put, List.setIfInBounds_toArray, List.set_cons_zero, List.set_cons_succ, i64_w, i32_w]
                        rfl
                       refine pure_ (i := 27) (N := some 103) (v := ?_) (a' := ?_) #[true, true, true, true, true, true, true, true, true, true, true, true, true, true, true, true, true, true, true, true, true, true, true, true, true, true, true, true, false, false, false, false, false, false, false, false, false, false, false, false, false, false, false, false, false] rfl rfl (any_of HT_.out (by kernel_rfl)) (fun _ _ _ h => h) (Or.inl ⟨by rfl, ?_⟩) ?_ ?_
                       rotate_left
                       ·intro w'
                        go_simp
                        with_reducible rfl
                       rotate_left
                       ·simp only [Act.put, List.setIfInBounds_toArray, List.set_cons_zero, List.set_cons_succ, i64_w, i32_w]
                        rfl
                       refine pure_ (i := 28) (N := some 104) (v := ?_) (a' := ?_) #[true, true, true, true, true, true, true, true, true, true, true, true, true, true, true, true, true, true, true, true, true, true, true, true, true, true, true, true, true, false, false, false, false, false, false, false, false, false, false, false, false, false, false, false, false] rfl rfl (any_of HT_.out (by kernel_rfl)) (fun _ _ _ h => h) (Or.inl ⟨by rfl, ?_⟩) ?_ ?_
                       rotate_left
                       ·intro w'
                        go_simp
                        with_reducible rfl
                       rotate_left
                       ·simp only [Act.put, List.setIfInBounds_toArray, List.set_cons_zero, List.set_cons_succ, i64_w, i32_w]
                        rfl
                       refine pure_ (i := 29) (N := some 105) (v := ?_) (a' := ?_) #[true, true, true, true, true, true, true, true, true, true, true, true, true, true, true, true, true, true, true, true, true, true, true, true, true, true, true, true, true, true, false, false, false, false, false, false, false, false, false, false, false, false, false, false, false] rfl rfl (any_of HT_.out (by kernel_rfl)) (fun _ _ _ h => h) (Or.inl ⟨by rfl, ?_⟩) ?_ ?_
                       rotate_left
                       ·intro w'
                        go_simp
                        with_reducible rfl
                       rotate_left
                       ·simp only [Act.put, List.setIfInBounds_toArray, List.set_cons_zero, List.set_cons_succ, i64_w, i32_w]
                        rfl
                       refine pure_ (i := 30) (N := some 106) (v := ?_) (a' := ?_) #[true, true, true, true, true, true, true, true, true, true, true, true, true, true, true, true, true, true, true, true, true, true, true, true, true, true, true, true, true, true, true, false, false, false, false, false, false, false, false, false, false, false, false, false, false] rfl rfl (any_of HT_.out (by kernel_rfl)) (fun _ _ _ h => h) (Or.inl ⟨by rfl, ?_⟩) ?_ ?_
                       rotate_left
                       ·intro w'
                        go_simp
                        with_reducible rfl
                       rotate_left
                       ·simp only [Act.put, List.setIfInBounds_toArray, List.set_cons_zero, List.set_cons_succ, i64_w, i32_w]
                        rfl
                       refine pure_ (i := 31) (N := some 107) (v := undef) (a' := ?_) #[true, true, true, true, true, true, true, true, true, true, true, true, true, true, true, true, true, true, true, true, true, true, true, true, true, true, true, true, true, true, true, true, false, false, false, false, false, false, false, false, false, false, false, false, false] rfl rfl (any_of HT_.out (by kernel_rfl)) (fun _ _ _ h => h) (Or.inr ⟨by rfl, rfl⟩) ?_ ?_
                       rotate_left
                       ·simp only [Act.put, List.setIfInBounds_toArray, List.set_cons_zero, List.set_cons_succ, i64_w, i32_w]
                        rfl
                       refine pure_ (i := 32) (N := some 108) (v := undef) (a' := ?_) #[true, true, true, true, true, true, true, true, true, true, true, true, true, true, true, true, true, true, true, true, true, true, true, true, true, true, true, true, true, true, true, true, true, false, false, false, false, false, false, false, false, false, false, false, false] rfl rfl (any_of HT_.out (by kernel_rfl)) (fun _ _ _ h => h) (Or.inr ⟨by rfl, rfl⟩) ?_ ?_
                       rotate_left
                       ·simp only [Act.put, List.setIfInBounds_toArray, List.set_cons_zero, List.set_cons_succ, i64_w, i32_w]
                        rfl
                       refine pure_ (i := 33) (N := some 109) (v := undef) (a' := ?_) #[true, true, true, true, true, true, true, true, true, true, true, true, true, true, true, true, true, true, true, true, true, true, true, true, true, true, true, true, true, true, true, true, true, true, false, false, false, false, false, false, false, false, false, false, false] rfl rfl (any_of HT_.out (by kernel_rfl)) (fun _ _ _ h => h) (Or.inr ⟨by rfl, rfl⟩) ?_ ?_
                       rotate_left
                       ·simp only [Act.put, List.setIfInBounds_toArray, List.set_cons_zero, List.set_cons_succ, i64_w, i32_w]
                        rfl
                       refine pure_ (i := 34) (N := some 110) (v := undef) (a' := ?_) #[true, true, true, true, true, true, true, true, true, true, true, true, true, true, true, true, true, true, true, true, true, true, true, true, true, true, true, true, true, true, true, true, true, true, true, false, false, false, false, false, false, false, false, false, false] rfl rfl (any_of HT_.out (by kernel_rfl)) (fun _ _ _ h => h) (Or.inr ⟨by rfl, rfl⟩) ?_ ?_
                       rotate_left
                       ·simp only [Act.put, List.setIfInBounds_toArray, List.set_cons_zero, List.set_cons_succ, i64_w, i32_w]
                        rfl
                       refine pure_ (i := 35) (N := some 111) (v := undef) (a' := ?_) #[true, true, true, true, true, true, true, true, true, true, true, true, true, true, true, true, true, true, true, true, true, true, true, true, true, true, true, true, true, true, true, true, true, true, true, true, false, false, false, false, false, false, false, false, false] rfl rfl (any_of HT_.out (by kernel_rfl)) (fun _ _ _ h => h) (Or.inr ⟨by rfl, rfl⟩) ?_ ?_
                       rotate_left
                       ·simp only [Act.put, List.setIfInBounds_toArray, List.set_cons_zero, List.set_cons_succ, i64_w, i32_w]
                        rfl
                       refine pure_ (i := 36) (N := some 112) (v := undef) (a' := ?_) #[true, true, true, true, true, true, true, true, true, true, true, true, true, true, true, true, true, true, true, true, true, true, true, true, true, true, true, true, true, true, true, true, true, true, true, true, true, false, false, false, false, false, false, false, false] rfl rfl (any_of HT_.out (by kernel_rfl)) (fun _ _ _ h => h) (Or.inr ⟨by rfl, rfl⟩) ?_ ?_
                       rotate_left
                       ·simp only [Act.put, List.setIfInBounds_toArray, List.set_cons_zero, List.set_cons_succ, i64_w, i32_w]
                        rfl
                       refine pure_ (i := 37) (N := some 113) (v := undef) (a' := ?_) #[true, true, true, true, true, true, true, true, true, true, true, true, true, true, true, true, true, true, true, true, true, true, true, true, true, true, true, true, true, true, true, true, true, true, true, true, true, true, false, false, false, false, false, false, false] rfl rfl (any_of HT_.out (by kernel_rfl)) (fun _ _ _ h => h) (Or.inr ⟨by rfl, rfl⟩) ?_ ?_
                       rotate_left
                       ·simp only [Act.put, List.setIfInBounds_toArray, List.set_cons_zero, List.set_cons_succ, i64_w, i32_w]
                        rfl
                       refine pure_ (i := 38) (N := some 114) (v := undef) (a' := ?_) #[true, true, true, true, true, true, true, true, true, true, true, true, true, true, true, true, true, true, true, true, true, true, true, true, true, true, true, true, true, true, true, true, true, true, true, true, true, true, true, false, false, false, false, false, false] rfl rfl (any_of HT_.out (by kernel_rfl)) (fun _ _ _ h => h) (Or.inr ⟨by rfl, rfl⟩) ?_ ?_
                       rotate_left
                       ·simp only [Act.put, List.setIfInBounds_toArray, List.set_cons_zero, List.set_cons_succ, i64_w, i32_w]
                        rfl
                       refine pure_ (i := 39) (N := some 115) (v := undef) (a' := ?_) #[true, true, true, true, true, true, true, true, true, true, true, true, true, true, true, true, true, true, true, true, true, true, true, true, true, true, true, true, true, true, true, true, true, true, true, true, true, true, true, true, false, false, false, false, false] rfl rfl (any_of HT_.out (by kernel_rfl)) (fun _ _ _ h => h) (Or.inr ⟨by rfl, rfl⟩) ?_ ?_
                       rotate_left
                       ·simp only [Act.put, List.setIfInBounds_toArray, List.set_cons_zero, List.set_cons_succ, i64_w, i32_w]
                        rfl
                       refine pure_ (i := 40) (N := some 116) (v := undef) (a' := ?_) #[true, true, true, true, true, true, true, true, true, true, true, true, true, true, true, true, true, true, true, true, true, true, true, true, true, true, true, true, true, true, true, true, true, true, true, true, true, true, true, true, true, false, false, false, false] rfl rfl (any_of HT_.out (by kernel_rfl)) (fun _ _ _ h => h) (Or.inr ⟨by rfl, rfl⟩) ?_ ?_
                       rotate_left
                       ·simp only [Act.put, List.setIfInBounds_toArray, List.set_cons_zero, List.set_cons_succ, i64_w, i32_w]
                        rfl
                       refine pure_ (i := 41) (N := some 117) (v := undef) (a' := ?_) #[true, true, true, true, true, true, true, true, true, true, true, true, true, true, true, true, true, true, true, true, true, true, true, true, true, true, true, true, true, true, true, true, true, true, true, true, true, true, true, true, true, true, false, false, false] rfl rfl (any_of HT_.out (by kernel_rfl)) (fun _ _ _ h => h) (Or.inr ⟨by rfl, rfl⟩) ?_ ?_
                       rotate_left
                       ·simp only [Act.put, List.setIfInBounds_toArray, List.set_cons_zero, List.set_cons_succ, i64_w, i32_w]
                        rfl
                       refine pure_ (i := 42) (N := some 118) (v := undef) (a' := ?_) #[true, true, true, true, true, true, true, true, true, true, true, true, true, true, true, true, true, true, true, true, true, true, true, true, true, true, true, true, true, true, true, true, true, true, true, true, true, true, true, true, true, true, true, false, false] rfl rfl (any_of HT_.out (by kernel_rfl)) (fun _ _ _ h => h) (Or.inr ⟨by rfl, rfl⟩) ?_ ?_
                       rotate_left
                       ·simp only [Act.put, List.setIfInBounds_toArray, List.set_cons_zero, List.set_cons_succ, i64_w, i32_w]
                        rfl
                       refine pure_ (i := 43) (N := some 119) (v := ?_) (a' := ?_) #[true, true, true, true, true, true, true, true, true, true, true, true, true, true, true, true, true, true, true, true, true, true, true, true, true, true, true, true, true, true, true, true, true, true, true, true, true, true, true, true, true, true, true, true, false] rfl rfl (any_of HT_.out (by kernel_rfl)) (fun _ _ _ h => h) (Or.inl ⟨by rfl, ?_⟩) ?_ ?_
                       rotate_left
                       ·intro w'
                        go_simp
                        with_reducible rfl
                       rotate_left
                       ·simp only [Act.put, List.setIfInBounds_toArray, List.set_cons_zero, List.set_cons_succ, i64_w, i32_w]
                        rfl
                       refine pure_ (i := 44) (N := some 120) (v := ?_) (a' := ?_) #[true, true, true, true, true, true, true, true, true, true, true, true, true, true, true, true, true, true, true, true, true, true, true, true, true, true, true, true, true, true, true, true, true, true, true, true, true, true, true, true, true, true, true, true, true] rfl rfl (any_of HT_.out (by kernel_rfl)) (fun _ _ _ h => h) (Or.inl ⟨by rfl, ?_⟩) ?_ ?_
                       rotate_left
                       ·intro w'
                        go_simp
                        with_reducible rfl
                       rotate_left
                       ·simp only [Act.put, List.setIfInBounds_toArray, List.set_cons_zero, List.set_cons_succ, i64_w, i32_w]
                        rfl
                       refine done_ (done_of HT_.out (by kernel_rfl)) ?_
                       have p60 : 0 ≤ (((rd_T45 t626 x10_3).f1) : Int) := of_decide_eq_true (by first | (with_reducible assumption) | assumption)
                       have q60 : (((rd_T45 t626 x10_3).f1) : Int) < ((x9_3.length : Int) : Int) := of_decide_eq_true (by first | (with_reducible assumption) | assumption)
                       obtain ⟨go60, co60, eo60, gb60, gl60, cl60, HG60⟩ := Kd.R_form HO_9.out (by omega)
                       (first | cases eo60 | (injection eo60 with ea_ en_ ec_; (first | subst ea_ | (injection ea_ with ea_; subst ea_)); subst ec_; clear en_))
                       have GB60 := ka gb60
                       have GG60 := ka HG60
                       clear gb60 gl60 HG60
                       (first | simp only [add_plain] at hx635_0 | skip)
                       obtain ⟨hx60_0, hf60_0⟩ := Kd.R_celln false HO_9.out (((rd_T45 t626 x10_3).f1) : Int) p60 q60
                       replace p60 := eq_true p60
                       replace q60 := eq_true q60
                       obtain ⟨hy63_, hz63_⟩ := Kd.R_celln false HO_9.out (((rd_T45 t626 x10_3).f1) : Int) (of_decide_eq_true (by first | (with_reducible assumption) | assumption)) (of_decide_eq_true (by first | (with_reducible assumption) | assumption))
                       have HP63 := Kd.R_putg HO_9.out (((rd_T45 t626 x10_3).f1) : Int) true
                       try go_wp2_with (first | ((with_reducible refine gate_store (t := 4) (p := 123) rfl ?_); refine store_event (t := 4) (p := 123) (v := ?vo_w64) (w1 := (w61.setCell ⟨go60, (((rd_T45 t626 x10_3).f1) : Int).toNat, none⟩ (.bool true))) ?hg ?ho ?hn ?hr ?_; (case ho => rfl); (case hg => rfl); (case hn => rfl); (case hr => first | (go_simp; done) | (go_simp; rfl)); intro w64 hw; have hg : w61.grownBy w64 (some go60) := (by rw [hw]; exact HP63.2); have hp_ : Kd.R Kd.bool 4 w64 w.heap.size (fun _ => True) (.slice (some ⟨go60, 0, none⟩) x9_3.length co62) y641 := (by rw [hw, Ny641.out]; exact HP63.1); clear HP63; replace HO_7 := ka (Kd.R_over' (v := (.slice (some ⟨go60, 0, none⟩) x9_3.length co62)) (kr HO_7.out) (Kd.R_typed HO_9.out) (by decide) hg); replace BK619 := ka (blk_grown (g := gb619) (kz BK619.out) hg (Kd.R_ne HO_9.out BK619.out (by decide))); replace BK621 := ka (blk_grown (g := gb621) (kz BK621.out) hg (Kd.R_ne HO_9.out BK621.out (by decide))); replace HO_9 := ka (hp_); replace HB := ka ((by rw [hw]; exact below_set (HB.out) GB60.out : Below w.heap.size w w64)); clear hg hw hp_))
                       go_roundg k3
                       case measure => have := HJ3.out; have := HJ9.out; have := HK3.out; omega
                       case rel => exact ⟨(y641), (wrap64 (x10_3 + 1)), (by first | rfl | (simp; done) | (simp [*]; done)), H', ⟨by have := HJ3.out; have := HJ9.out; have := HK3.out; omega⟩, ⟨kr HO_7.out⟩, ⟨kr HO_9.out⟩, ⟨by (with_reducible repeat (first | apply kb1 | apply kb2 | apply kb3)); exact BK619.out⟩, ⟨by (with_reducible repeat (first | apply kb1 | apply kb2 | apply kb3)); exact BK621.out⟩, ⟨by repeat (first | (with_reducible first | exact HB.out | apply kc1 | apply kc2 | apply kc3 | refine kc4 ?_ GE619.out | refine kc4 ?_ GE621.out) | exact HB.out)⟩⟩
                     ·rw [if_neg c49] at H
                      exact absurd H (by simp)
                    ·rw [if_neg c48] at H
                     exact absurd H (by simp)
                  ·rw [if_neg c45] at H
                   exact absurd H (by simp)
                 ·rw [if_neg c44] at H
                  exact absurd H (by simp)
              ·rw [if_neg c41] at H
               exact absurd H (by simp)
             ·rw [if_neg c40] at H
              have c40b0 : decide (x10_3 < (t626.length : Int)) = false := decide_eq_false c40
              clear c40
              obtain rfl := Option.some.inj H
              go_wp2
              go_ret
              exact ⟨by first | rfl | (simp [errW_none, errW_some] <;> rfl) | (simp [*, errW_none, errW_some] <;> rfl), by repeat (first | (with_reducible first | exact HB.out | apply kc1 | apply kc2 | apply kc3 | refine kc4 ?_ GE619.out | refine kc4 ?_ GE621.out) | exact HB.out)⟩
          ·rw [if_neg c32] at H
           exact absurd H (by simp)
         ·rw [if_neg c31] at H
          exact absurd H (by simp)
        ·rw [if_neg c30] at H
         exact absurd H (by simp)
       ·have H1 : (if t620 = true then ((calendar_Check.f l0).bind fun t642 => (if t642.isNone = true then (none) else (some ((t642.getD 0) == 1)))) else (none)) = some r := by rw [if_neg (show ¬ (some q630).isNone = true by simp)] at H; exact H
        clear H
        have H := H1
        clear H1
        try simp only [errW_none, errW_some]
        by_cases c65 : t620 = true
        ·subst c65
         have H1 : ((calendar_Check.f l0).bind fun t642 => (if t642.isNone = true then (none) else (some ((t642.getD 0) == 1)))) = some r := by rw [if_pos rfl] at H; exact H
         clear H
         have H := H1
         clear H1
         replace H := Option.bind_eq_some_iff.mp H
         obtain ⟨t642, A660, H⟩ := H
         replace H : (if t642.isNone = true then (none) else (some ((t642.getD 0) == 1))) = some r := H
         have A66 := ka A660
         clear A660
         rcases t642 with _ | q643
         ·have H1 : (none) = some r := by rw [if_pos (show (none : Option Int).isNone = true by rfl)] at H; exact H
          clear H
          have H := H1
          clear H1
          try simp only [errW_none, errW_some]
          exact absurd H (by simp)
         ·have H1 : (some (q643 == 1)) = some r := by rw [if_neg (show ¬ (some q643).isNone = true by simp)] at H; exact H
          clear H
          have H := H1
          clear H1
          try simp only [errW_none, errW_some]
          obtain rfl := Option.some.inj H
          try go_wp2
          replace BK619 := ka (blk_drew BK619.out)
          replace BK621 := ka (blk_drew BK621.out)
          replace HB := ka (below_drew1 HB.out)
          refine start_ (n := 11) (S := fun w' => w'.cell? ⟨gb619, 0, none⟩ = some (.int .i64 a1_0) ∧ w'.cell? ⟨gb619, 1, none⟩ = some (.int .i64 a1_1) ∧ w'.cell? ⟨gb619, 2, none⟩ = some (.int .i64 a1_2) ∧ w'.cell? ⟨gb621, 0, none⟩ = some (.int .i64 (wrap64 (a1_0 + 1))) ∧ w'.cell? ⟨gb621, 1, none⟩ = some (.int .i64 a1_1) ∧ w'.cell? ⟨gb621, 2, none⟩ = some (.int .i64 a1_2)) (ds := []) #[false, false, false, false, false, false, false, false, false, false, false] (by kernel_rfl) rfl rfl ⟨(blk_cell BK619.out 0).trans rfl, (blk_cell BK619.out 1).trans rfl, (blk_cell BK619.out 2).trans rfl, (blk_cell BK621.out 0).trans rfl, (blk_cell BK621.out 1).trans rfl, (blk_cell BK621.out 2).trans rfl⟩ (fun hHeld => ?_); refine with_tabW trivetlaw14_CalendarOnce.tab7 trivetlaw14_CalendarOnce.bits7 (fun HT_ HW_ => ?_)
          generalize wc.drew = w67 at BK619 BK621 HB hHeld ⊢
          refine pure_ (i := 0) (N := some 40) (v := ?_) (a' := ?_) #[true, false, false, false, false, false, false, false, false, false, false] rfl rfl (any_of HT_.out (by kernel_rfl)) (fun _ _ _ h => h) (Or.inl ⟨by rfl, ?_⟩) ?_ ?_
          rotate_left
          ·intro w'
           go_simp
           with_reducible rfl
          rotate_left
          ·simp only [Act.put, List.setIfInBounds_toArray, List.set_cons_zero, List.set_cons_succ, i64_w, i32_w]
           rfl
          refine take_ (i := 1) (N := some 41) (v := ?_) (a' := ?_) #[true, true, false, false, false, false, false, false, false, false, false] rfl rfl (take_ofW HT_.out HW_.out (by kernel_rfl)) (fun _ _ _ h => h) (Or.inl ⟨by rfl, ?_⟩) hHeld ?_ ?_
          rotate_left
          ·rintro w' ⟨s0, s1, s2, s3, s4, s5⟩
           go_simp
           with_reducible rfl
          rotate_left
          ·simp only [Act.put, List.setIfInBounds_toArray, List.set_cons_zero, List.set_cons_succ, i64_w, i32_w]
           rfl
          refine take_ (i := 3) (N := some 43) (v := ?_) (a' := ?_) #[true, true, false, true, false, false, false, false, false, false, false] rfl rfl (take_ofW HT_.out HW_.out (by kernel_rfl)) (fun _ _ _ h => h) (Or.inl ⟨by rfl, ?_⟩) hHeld ?_ ?_
          rotate_left
          ·rintro w' ⟨s0, s1, s2, s3, s4, s5⟩
           go_simp
           with_reducible rfl
          rotate_left
          ·simp only [Act.put, List.setIfInBounds_toArray, List.set_cons_zero, List.set_cons_succ, i64_w, i32_w]
           rfl
          refine one_ (i := 2) (N := some 42) #[true, true, true, true, false, false, false, false, false, false, false] rfl rfl (one_of HT_.out (by kernel_rfl)) (by decide) (fun K hK => ?_)
          refine goes_ Try.func19 (by kernel_rfl) rfl #[.agg #[.int .i64 a1_0, .int .i64 a1_1, .int .i64 a1_2]] (by rfl) rfl rfl (by (try simp only [List.map_toArray, List.map_cons, List.map_nil]); first | done | rfl | (simp only [List.length_drop, List.length_take]; rfl)) ?_
          with_reducible refine (trivetref04_Number_s.calls a1_0 a1_1 a1_2 t624 _ A27.out).mono ?_
          rintro e w68 ⟨rfl, hb⟩
          refine ⟨_, rfl, ?_⟩
          replace BK619 := kbb BK619 hb
          replace BK621 := kbb BK621 hb
          replace HB := ka (below_step (kw HB.out) hb)
          (try clear hb)
          (try clear hb2)
          (try clear hk)
          (try clear hi)
          refine hK.out _ _ ⟨(blk_cell BK619.out 0).trans rfl, (blk_cell BK619.out 1).trans rfl, (blk_cell BK619.out 2).trans rfl, (blk_cell BK621.out 0).trans rfl, (blk_cell BK621.out 1).trans rfl, (blk_cell BK621.out 2).trans rfl⟩ (fun hHeld => ?_)
          clear hK K
          refine norm_ (a' := ?_) ?_ ?_
          rotate_left
          ·show Act.put _ (some 42) _ = _
           simp only [Act.put, List.setIfInBounds_toArray, List.set_cons_zero, List.set_cons_succ, i64_w, i32_w]
           rfl
          refine one_ (i := 4) (N := some 44) #[true, true, true, true, true, false, false, false, false, false, false] rfl rfl (one_of HT_.out (by kernel_rfl)) (by decide) (fun K hK => ?_)
          refine goes_ Try.func19 (by kernel_rfl) rfl #[.agg #[.int .i64 (wrap64 (a1_0 + 1)), .int .i64 a1_1, .int .i64 a1_2]] (by rfl) rfl rfl (by (try simp only [List.map_toArray, List.map_cons, List.map_nil]); first | done | rfl | (simp only [List.length_drop, List.length_take]; rfl)) ?_
          with_reducible refine (trivetref04_Number_s.calls (wrap64 (a1_0 + 1)) a1_1 a1_2 t625 _ A28.out).mono ?_
          rintro e w69 ⟨rfl, hb⟩
          refine ⟨_, rfl, ?_⟩
          replace BK619 := kbb BK619 hb
          replace BK621 := kbb BK621 hb
          replace HB := ka (below_step (kw HB.out) hb)
          (try clear hb)
          (try clear hb2)
          (try clear hk)
          (try clear hi)
          refine hK.out _ _ ⟨(blk_cell BK619.out 0).trans rfl, (blk_cell BK619.out 1).trans rfl, (blk_cell BK619.out 2).trans rfl, (blk_cell BK621.out 0).trans rfl, (blk_cell BK621.out 1).trans rfl, (blk_cell BK621.out 2).trans rfl⟩ (fun hHeld => ?_)
          clear hK K
          refine norm_ (a' := ?_) ?_ ?_
          rotate_left
          ·show Act.put _ (some 44) _ = _
           simp only [Act.put, List.setIfInBounds_toArray, List.set_cons_zero, List.set_cons_succ, i64_w, i32_w]
           rfl
          refine one_ (i := 5) (N := some 45) #[true, true, true, true, true, true, false, false, false, false, false] rfl rfl (one_of HT_.out (by kernel_rfl)) (by decide) (fun K hK => ?_)
          refine goes_ Try.func17 (by kernel_rfl) rfl #[.slice A0 l0.length c0, .int .i64 t624, .int .i64 t625] (by rfl) rfl rfl (by (try simp only [List.map_toArray, List.map_cons, List.map_nil]); first | done | rfl | (simp only [List.length_drop, List.length_take]; rfl)) ?_
          with_reducible refine (calendar_Outs.calls kj9 _ _ l0 t624 t625 t626 (some q630) _ ?side1 ?side2 A29.out).mono ?_
          (case side1 => repeat (first | exact (Kd.C_below HR0.out HB.out) | (with_reducible refine Kd.C_alloc ?_ _) | (with_reducible refine Kd.C_drewN ?_ _) | (with_reducible refine Kd.C_drew ?_)))
          (case side2 => exact HC0.out)
          rintro e w70 ⟨v628, rfl, ho0, hb⟩
          refine ⟨_, rfl, ?_⟩
          have HO629 := ka (Kd.R_lower ho0 (below_size (kw HB.out)))
          replace BK619 := kbb BK619 hb
          replace BK621 := kbb BK621 hb
          replace HB := ka (below_step (kw HB.out) hb)
          (try clear hb)
          (try clear hb2)
          (try clear hk)
          (try clear hi)
          (try clear ho0)
          (try simp only [errW_none, errW_some])
          refine hK.out _ _ ⟨(blk_cell BK619.out 0).trans rfl, (blk_cell BK619.out 1).trans rfl, (blk_cell BK619.out 2).trans rfl, (blk_cell BK621.out 0).trans rfl, (blk_cell BK621.out 1).trans rfl, (blk_cell BK621.out 2).trans rfl⟩ (fun hHeld => ?_)
          clear hK K
          refine norm_ (a' := ?_) ?_ ?_
          rotate_left
          ·show Act.put _ (some 45) _ = _
           simp only [Act.put, List.setIfInBounds_toArray, List.set_cons_zero, List.set_cons_succ, i64_w, i32_w]
           rfl
          refine pure_ (i := 6) (N := some 39) (v := ?_) (a' := ?_) #[true, true, true, true, true, true, true, false, false, false, false] rfl rfl (any_of HT_.out (by kernel_rfl)) (fun _ _ _ h => h) (Or.inl ⟨by rfl, ?_⟩) ?_ ?_
          rotate_left
          ·intro w'
           go_simp
           with_reducible rfl
          rotate_left
          ·simp only [Act.put, List.setIfInBounds_toArray, List.set_cons_zero, List.set_cons_succ, i64_w, i32_w]
           rfl
          refine pure_ (i := 7) (N := some 46) (v := ?_) (a' := ?_) #[true, true, true, true, true, true, true, true, false, false, false] rfl rfl (any_of HT_.out (by kernel_rfl)) (fun _ _ _ h => h) (Or.inl ⟨by rfl, ?_⟩) ?_ ?_
          rotate_left
          ·intro w'
           go_simp
           with_reducible rfl
          rotate_left
          ·simp only [Act.put, List.setIfInBounds_toArray, List.set_cons_zero, List.set_cons_succ, i64_w, i32_w]
           rfl
          refine pure_ (i := 8) (N := some 47) (v := ?_) (a' := ?_) #[true, true, true, true, true, true, true, true, true, false, false] rfl rfl (any_of HT_.out (by kernel_rfl)) (fun _ _ _ h => h) (Or.inl ⟨by rfl, ?_⟩) ?_ ?_
          rotate_left
          ·intro w'
           go_simp
           with_reducible rfl
          rotate_left
          ·simp only [Act.put, List.setIfInBounds_toArray, List.set_cons_zero, List.set_cons_succ, i64_w, i32_w]
           rfl
          refine pure_ (i := 9) (N := some 7) (v := ?_) (a' := ?_) #[true, true, true, true, true, true, true, true, true, true, false] rfl rfl (any_of HT_.out (by kernel_rfl)) (fun _ _ _ h => h) (Or.inl ⟨by rfl, ?_⟩) ?_ ?_
          rotate_left
          ·intro w'
           go_simp
           with_reducible rfl
          rotate_left
          ·simp only [Act.put, List.setIfInBounds_toArray, List.set_cons_zero, List.set_cons_succ, i64_w, i32_w]
           rfl
          refine pure_ (i := 10) (N := some 8) (v := ?_) (a' := ?_) #[true, true, true, true, true, true, true, true, true, true, true] rfl rfl (any_of HT_.out (by kernel_rfl)) (fun _ _ _ h => h) (Or.inl ⟨by rfl, ?_⟩) ?_ ?_
          rotate_left
          ·intro w'
           go_simp
           with_reducible rfl
          rotate_left
          ·simp only [Act.put, List.setIfInBounds_toArray, List.set_cons_zero, List.set_cons_succ, i64_w, i32_w]
           rfl
          refine done_ (done_of HT_.out (by kernel_rfl)) ?_
          try go_wp2_with (first | (go_at_call 16; (with_reducible refine (calendar_Check.calls _ _ l0 (some q643) _ ?side1 ?side2 A66.out).mono ?_); (case side1 => repeat (first | exact (Kd.C_below HR0.out HB.out) | (with_reducible refine Kd.C_alloc ?_ _) | (with_reducible refine Kd.C_drewN ?_ _) | (with_reducible refine Kd.C_drew ?_))); (case side2 => exact HC0.out); rintro e w71 ⟨rfl, hb⟩; replace HO629 := ka (Kd.R_below (kr HO629.out) hb); replace BK619 := kbb BK619 hb; replace BK621 := kbb BK621 hb; replace HB := ka (below_step (kw HB.out) hb); (try clear hb); (try clear hb2); (try clear hk); (try clear hi); (try simp only [errW_none, errW_some])))
          go_ret
          exact ⟨by first | rfl | (simp [errW_none, errW_some] <;> rfl) | (simp [*, errW_none, errW_some] <;> rfl), by repeat (first | (with_reducible first | exact HB.out | apply kc1 | apply kc2 | apply kc3 | refine kc4 ?_ GE619.out | refine kc4 ?_ GE621.out) | exact HB.out)⟩
        ·replace c65 := Bool.eq_false_iff.mpr c65
         subst c65
         have H1 : (none) = some r := by rw [if_neg (show ¬ (false = true) by decide)] at H; exact H
         clear H
         have H := H1
         clear H1
         exact absurd H (by simp)

/-- THE ONE PURE STATEMENT of trivetlaw14_CalendarOnce: yours. -/
def trivetlaw14_CalendarOnce.Pure : Prop := ∀ (l0 : List (S48)) (a1_0 : Int) (a1_1 : Int) (a1_2 : Int), l0.length ≤ maxLen → l0.length * 24 ≤ 140737488351232 → (∀ x ∈ l0, (Lit.int .i64 x.f0).wf = true ∧ (Lit.int .i64 x.f1).wf = true ∧ (Lit.int .i64 x.f2).wf = true) → (Lit.int .i64 a1_0).wf = true → (Lit.int .i64 a1_1).wf = true → (Lit.int .i64 a1_2).wf = true → ∃ k, trivetlaw14_CalendarOnce.f k l0 a1_0 a1_1 a1_2 = some true
theorem trivetlaw14_CalendarOnce.walk (P : trivetlaw14_CalendarOnce.Pure) (a0 : Option Addr) (len0 cap0 : Nat) (l0 : List (S48)) (a1_0 : Int) (a1_1 : Int) (a1_2 : Int) (w : World) (w0 : Kd.C k48 w a0 len0 l0 ∧ len0 ≤ cap0 ∧ len0 ≤ maxLen ∧ (∀ x ∈ l0, (Lit.int .i64 x.f0).wf = true ∧ (Lit.int .i64 x.f1).wf = true ∧ (Lit.int .i64 x.f2).wf = true)) (y0 : len0 * 24 ≤ 140737488351232) (w1_0 : (Lit.int .i64 a1_0).wf = true) (w1_1 : (Lit.int .i64 a1_1).wf = true) (w1_2 : (Lit.int .i64 a1_2).wf = true) :
  Calls Try.prog 8 #[.slice a0 len0 cap0, .agg #[.int .i64 a1_0, .int .i64 a1_1, .int .i64 a1_2]] w fun e w' => e = .returned (.bool true) ∧ Below w.heap.size w w' := by
 obtain ⟨hr0, hc0, hm0, hw0⟩ := w0
 obtain rfl := Kd.C_len hr0
 obtain ⟨k, h⟩ := P l0 a1_0 a1_1 a1_2 hm0 y0 hw0 w1_0 w1_1 w1_2
 refine (trivetlaw14_CalendarOnce.calls k _ _ l0 a1_0 a1_1 a1_2 true w hr0 hc0 h).mono ?_
 rintro e w' ⟨rfl, hd⟩
 exact ⟨rfl, hd⟩

end Go.Proofs.Ytmkfbaoglmmhjaa.P
