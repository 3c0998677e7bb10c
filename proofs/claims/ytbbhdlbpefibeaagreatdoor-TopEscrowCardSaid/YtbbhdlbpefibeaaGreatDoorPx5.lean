-- Written by a program of this session out of the translation of the seat: Lean functions and the proofs that the Go functions come to them.
import Derived.Test.YtbbhdlbpefibeaaGreatDoorPx0
import Derived.Test.YtbbhdlbpefibeaaGreatDoorPx4
namespace Go.Proofs.YtbbhdlbpefibeaaGreatDoor.P
open Go.RowKit Go.Proofs.YtbbhdlbpefibeaaGreatDoorW.PrintWords Go.Proofs.YtbbhdlbpefibeaaGreatDoorW.PrintLast Go.Proofs.YtbbhdlbpefibeaaGreatDoorW.PrintMore
attribute [local go_sem] max2_int min2_int max_two min_two max_three min_three max_four min_four   -- for this text's walks alone
set_option linter.unusedVariables false
set_option linter.unusedSimpArgs false

/-! ### trivetref15_Analyze: function 10 -/
mutual
def trivetref15_Analyze.l0 : Nat → List Int → Int → Int → Int → Int → Int → Int → Int → Option (Int × Int × Int × Int × Int × List Int)
 | 0, _, _, _, _, _, _, _, _ => none
 | k + 1, x0, x1, x6, x435000, x435001, x435002, x435003, x435004 => if x6 < 12 then (if 0 ≤ x6 then (if x6 < (x0.length : Int) then (trivetref15_Analyze.l0 k x0 x1 (wrap64 (x6 + 1)) (wrap64 (x435000 + (rd x0 x6))) x435001 x435002 x435003 x435004) else (none)) else (none)) else (if (Int.tmod x435000 12) > 0 then (trivetref15_Analyze.j1 k x0 x1 x435000 (wrap64 ((wrap64 (Int.tdiv x435000 12)) + 1)) x435002 x435003 x435004) else (trivetref15_Analyze.j1 k x0 x1 x435000 (wrap64 (Int.tdiv x435000 12)) x435002 x435003 x435004))
def trivetref15_Analyze.j1 : Nat → List Int → Int → Int → Int → Int → Int → Int → Option (Int × Int × Int × Int × Int × List Int)
 | 0, _, _, _, _, _, _, _ => none
 | k + 1, x0, x1, x435000, x435001, x435002, x435003, x435004 => if x1 < (wrap64 (Int.tdiv x435000 6)) then (trivetref15_Analyze.j2 k x0 x435000 x435001 x1 x435003 x435004) else (trivetref15_Analyze.j2 k x0 x435000 x435001 (wrap64 (Int.tdiv x435000 6)) x435003 x435004)
def trivetref15_Analyze.j2 : Nat → List Int → Int → Int → Int → Int → Int → Option (Int × Int × Int × Int × Int × List Int)
 | 0, _, _, _, _, _, _ => none
 | k + 1, x0, x435000, x435001, x435002, x435003, x435004 => (trivetref15_Balances.f k x0 x435001 0).bind fun t436 => (trivetref15_Analyze.l1 k x0 t436 0 x435000 x435001 x435002 x435003 x435004)
def trivetref15_Analyze.l1 : Nat → List Int → List Int → Int → Int → Int → Int → Int → Int → Option (Int × Int × Int × Int × Int × List Int)
 | 0, _, _, _, _, _, _, _, _ => none
 | k + 1, x0, x7, x8, x435000, x435001, x435002, x435003, x435004 => if x8 < 12 then (if 0 ≤ x8 then (if x8 < (x7.length : Int) then (if x8 = 0 then (trivetref15_Analyze.l1 k x0 x7 (wrap64 (x8 + 1)) x435000 x435001 x435002 (wrap64 (x435002 - (rd x7 x8))) x8) else (if (wrap64 (x435002 - (rd x7 x8))) > x435003 then (trivetref15_Analyze.l1 k x0 x7 (wrap64 (x8 + 1)) x435000 x435001 x435002 (wrap64 (x435002 - (rd x7 x8))) x8) else (trivetref15_Analyze.l1 k x0 x7 (wrap64 (x8 + 1)) x435000 x435001 x435002 x435003 x435004))) else (none)) else (none)) else ((trivetref15_Balances.f k x0 x435001 x435003).bind fun t440 => (some (x435000, x435001, x435002, x435003, x435004, t440)))
end
def trivetref15_Analyze.f (k : Nat) (l0 : List Int) (a1 : Int) : Option (Int × Int × Int × Int × Int × List Int) := trivetref15_Analyze.l0 k l0 a1 0 0 0 0 0 0
theorem trivetref15_Analyze.mono_l : ∀ k, (∀ y0 y1 y2 y3 y4 y5 y6 y7, LeO (trivetref15_Analyze.l0 k y0 y1 y2 y3 y4 y5 y6 y7) (trivetref15_Analyze.l0 (k + 1) y0 y1 y2 y3 y4 y5 y6 y7)) ∧ (∀ y0 y1 y2 y3 y4 y5 y6, LeO (trivetref15_Analyze.j1 k y0 y1 y2 y3 y4 y5 y6) (trivetref15_Analyze.j1 (k + 1) y0 y1 y2 y3 y4 y5 y6)) ∧ (∀ y0 y1 y2 y3 y4 y5, LeO (trivetref15_Analyze.j2 k y0 y1 y2 y3 y4 y5) (trivetref15_Analyze.j2 (k + 1) y0 y1 y2 y3 y4 y5)) ∧ (∀ y0 y1 y2 y3 y4 y5 y6 y7, LeO (trivetref15_Analyze.l1 k y0 y1 y2 y3 y4 y5 y6 y7) (trivetref15_Analyze.l1 (k + 1) y0 y1 y2 y3 y4 y5 y6 y7))
 | 0 => ⟨fun _ _ _ _ _ _ _ _ r h => by simp [trivetref15_Analyze.l0] at h, fun _ _ _ _ _ _ _ r h => by simp [trivetref15_Analyze.j1] at h, fun _ _ _ _ _ _ r h => by simp [trivetref15_Analyze.j2] at h, fun _ _ _ _ _ _ _ _ r h => by simp [trivetref15_Analyze.l1] at h⟩
 | k + 1 => by
  obtain ⟨ih0, ih1, ih2, ih3⟩ := trivetref15_Analyze.mono_l k
  refine ⟨?_, ?_, ?_, ?_⟩
  ·intro y0 y1 y2 y3 y4 y5 y6 y7
   unfold trivetref15_Analyze.l0
   repeat' first
   | (with_reducible exact ih0 _ _ _ _ _ _ _ _)
   | (with_reducible exact ih1 _ _ _ _ _ _ _)
   | (with_reducible exact ih2 _ _ _ _ _ _)
   | (with_reducible exact ih3 _ _ _ _ _ _ _ _)
   | (with_reducible exact trivetref15_Balances.mono _ _ _ _)
   | (with_reducible exact LeO.refl _)
   | (with_reducible exact LeO.none _)
   | (with_reducible refine LeO.ite ?_ ?_)
   | (with_reducible refine LeO.bind ?_ (fun _ => ?_))
   | exact ih0 _ _ _ _ _ _ _ _
   | exact ih1 _ _ _ _ _ _ _
   | exact ih2 _ _ _ _ _ _
   | exact ih3 _ _ _ _ _ _ _ _
   | exact trivetref15_Balances.mono _ _ _ _
   | exact LeO.none _
   | refine LeO.ite ?_ ?_
   | refine LeO.bind ?_ (fun _ => ?_)
  ·intro y0 y1 y2 y3 y4 y5 y6
   unfold trivetref15_Analyze.j1
   repeat' first
   | (with_reducible exact ih0 _ _ _ _ _ _ _ _)
   | (with_reducible exact ih1 _ _ _ _ _ _ _)
   | (with_reducible exact ih2 _ _ _ _ _ _)
   | (with_reducible exact ih3 _ _ _ _ _ _ _ _)
   | (with_reducible exact trivetref15_Balances.mono _ _ _ _)
   | (with_reducible exact LeO.refl _)
   | (with_reducible exact LeO.none _)
   | (with_reducible refine LeO.ite ?_ ?_)
   | (with_reducible refine LeO.bind ?_ (fun _ => ?_))
   | exact ih0 _ _ _ _ _ _ _ _
   | exact ih1 _ _ _ _ _ _ _
   | exact ih2 _ _ _ _ _ _
   | exact ih3 _ _ _ _ _ _ _ _
   | exact trivetref15_Balances.mono _ _ _ _
   | exact LeO.none _
   | refine LeO.ite ?_ ?_
   | refine LeO.bind ?_ (fun _ => ?_)
  ·intro y0 y1 y2 y3 y4 y5
   unfold trivetref15_Analyze.j2
   repeat' first
   | (with_reducible exact ih0 _ _ _ _ _ _ _ _)
   | (with_reducible exact ih1 _ _ _ _ _ _ _)
   | (with_reducible exact ih2 _ _ _ _ _ _)
   | (with_reducible exact ih3 _ _ _ _ _ _ _ _)
   | (with_reducible exact trivetref15_Balances.mono _ _ _ _)
   | (with_reducible exact LeO.refl _)
   | (with_reducible exact LeO.none _)
   | (with_reducible refine LeO.ite ?_ ?_)
   | (with_reducible refine LeO.bind ?_ (fun _ => ?_))
   | exact ih0 _ _ _ _ _ _ _ _
   | exact ih1 _ _ _ _ _ _ _
   | exact ih2 _ _ _ _ _ _
   | exact ih3 _ _ _ _ _ _ _ _
   | exact trivetref15_Balances.mono _ _ _ _
   | exact LeO.none _
   | refine LeO.ite ?_ ?_
   | refine LeO.bind ?_ (fun _ => ?_)
  ·intro y0 y1 y2 y3 y4 y5 y6 y7
   unfold trivetref15_Analyze.l1
   repeat' first
   | (with_reducible exact ih0 _ _ _ _ _ _ _ _)
   | (with_reducible exact ih1 _ _ _ _ _ _ _)
   | (with_reducible exact ih2 _ _ _ _ _ _)
   | (with_reducible exact ih3 _ _ _ _ _ _ _ _)
   | (with_reducible exact trivetref15_Balances.mono _ _ _ _)
   | (with_reducible exact LeO.refl _)
   | (with_reducible exact LeO.none _)
   | (with_reducible refine LeO.ite ?_ ?_)
   | (with_reducible refine LeO.bind ?_ (fun _ => ?_))
   | exact ih0 _ _ _ _ _ _ _ _
   | exact ih1 _ _ _ _ _ _ _
   | exact ih2 _ _ _ _ _ _
   | exact ih3 _ _ _ _ _ _ _ _
   | exact trivetref15_Balances.mono _ _ _ _
   | exact LeO.none _
   | refine LeO.ite ?_ ?_
   | refine LeO.bind ?_ (fun _ => ?_)
theorem trivetref15_Analyze.mono : ∀ a0 a1 k, LeO (trivetref15_Analyze.f k a0 a1) (trivetref15_Analyze.f (k + 1) a0 a1) := by
 intro a0 a1 k
 obtain ⟨ih0, ih1, ih2, ih3⟩ := trivetref15_Analyze.mono_l k
 unfold trivetref15_Analyze.f
 repeat' first
   | (with_reducible exact ih0 _ _ _ _ _ _ _ _)
   | (with_reducible exact ih1 _ _ _ _ _ _ _)
   | (with_reducible exact ih2 _ _ _ _ _ _)
   | (with_reducible exact ih3 _ _ _ _ _ _ _ _)
   | (with_reducible exact trivetref15_Balances.mono _ _ _ _)
   | (with_reducible exact LeO.refl _)
   | (with_reducible exact LeO.none _)
   | (with_reducible refine LeO.ite ?_ ?_)
   | (with_reducible refine LeO.bind ?_ (fun _ => ?_))
   | exact ih0 _ _ _ _ _ _ _ _
   | exact ih1 _ _ _ _ _ _ _
   | exact ih2 _ _ _ _ _ _
   | exact ih3 _ _ _ _ _ _ _ _
   | exact trivetref15_Balances.mono _ _ _ _
   | exact LeO.none _
   | refine LeO.ite ?_ ?_
   | refine LeO.bind ?_ (fun _ => ?_)
def trivetref15_Analyze.T5 : Bool × List (List Nat × List Nat) := (true, [([], []), ([0], [0]), ([], []), ([], []), ([2, 3], [2, 3]), ([4], [4]), ([1, 5], [1, 5]), ([0, 1, 2, 3, 4, 5, 6], []), ([7, 6, 0, 1, 2, 3, 4, 5, 6], [6, 7])])
def trivetref15_Analyze.B5 : List Nat := [0, 1, 0, 0, 12, 28, 63, 127, 255]
theorem trivetref15_Analyze.tab5 : rtab .any (opsOf Tryz.f10 5) = trivetref15_Analyze.T5 := by kernel_rfl
theorem trivetref15_Analyze.bits5 : waitsOk trivetref15_Analyze.T5.2 trivetref15_Analyze.B5 = true := by kernel_rfl
def trivetref15_Analyze.T16 : Bool × List (List Nat × List Nat) := (true, [([], []), ([0], [0]), ([], []), ([], []), ([2, 3], [2, 3]), ([4], [4]), ([1, 5], [1, 5]), ([6, 0, 1, 2, 3, 4, 5, 6], [6])])
def trivetref15_Analyze.B16 : List Nat := [0, 1, 0, 0, 12, 28, 63, 127]
theorem trivetref15_Analyze.tab16 : rtab .any (opsOf Tryz.f10 16) = trivetref15_Analyze.T16 := by kernel_rfl
theorem trivetref15_Analyze.bits16 : waitsOk trivetref15_Analyze.T16.2 trivetref15_Analyze.B16 = true := by kernel_rfl
set_option maxHeartbeats 8000000 in
set_option maxRecDepth 100000 in
theorem trivetref15_Analyze.calls (k : Nat) (A0 : Option Addr) (c0 : Nat) (l0 : List Int) (a1 : Int) (r1 : Int) (r2 : Int) (r3 : Int) (r4 : Int) (r5 : Int) (r6 : List Int) (w : World) (hr0 : Kd.C (Kd.int .i64) w A0 l0.length l0) (hc0 : l0.length ≤ c0) (h : trivetref15_Analyze.f k l0 a1 = some (r1, r2, r3, r4, r5, r6)) :
  Calls Tryz.prog 10 #[.slice A0 l0.length c0, .int .i64 a1] w fun e w' => ∃ v5_ : Value, e = .returned (.agg #[.int .i64 r1, .int .i64 r2, .int .i64 r3, .int .i64 r4, .int .i64 r5, v5_]) ∧ Kd.R (Kd.int .i64) 2 w' w.heap.size (fun _ => True) v5_ r6 ∧ Below w.heap.size w w' := by
 have hu25 := Tryz.underlying25
 have HR0 := ka hr0
 have HC0 := ka hc0
 clear hr0 hc0
 have HB := ka (Below.refl w.heap.size w)
 have H : (trivetref15_Analyze.l0 k l0 a1 0 0 0 0 0 0) = some (r1, r2, r3, r4, r5, r6) := h
 clear h
 have H' := ka H
 clear H
 go_enter Tryz.func10, Tryz.ntmps10
 go_wp2_with (first | ((with_reducible refine gate_dst (N := 4) rfl ?_); refine kx (N := 4) (cs := #[.int .i64 0, .int .i64 0, .int .i64 0, .int .i64 0, .int .i64 0, .slice none 0 0]) (t := 25) ?_; intro gb433 hg w3 hbox hb; have n0_ := ka (below_step (kw HB.out) hb); have n1_ := ka (hbox); have n2_ := ka ((by rw [hg]; exact (below_size (kw HB.out)) : w.heap.size ≤ gb433)); have n3_ := n2_; clear HB; have HB := n0_; have BK433 := n1_; have GW433 := n2_; have GE433 := n3_; clear n0_ n1_ n2_ n3_; clear hb hbox hg) | ((with_reducible refine gate_dst (N := 5) rfl ?_); refine kx (N := 5) (cs := #[.int .i64 0, .int .i64 0, .int .i64 0, .int .i64 0, .int .i64 0, .slice none 0 0]) (t := 25) ?_; intro gb434 hg w4 hbox hb; have n0_ := ka (blk_below (g := gb433) (kz BK433.out) hb); have n1_ := ka (below_step (kw HB.out) hb); have n2_ := ka (hbox); have n3_ := ka ((by rw [hg]; exact (below_size (kw HB.out)) : w.heap.size ≤ gb434)); have n4_ := n3_; have n5_ := ka ((by rw [hg]; exact Nat.ne_of_lt (blk_lt (g := gb433) (kz BK433.out)) : gb433 ≠ gb434)); have n6_ := ka n5_.out.symm; clear BK433; clear HB; have BK433 := n0_; have HB := n1_; have BK434 := n2_; have GW434 := n3_; have GE434 := n4_; have NB433_434 := n5_; have NB434_433 := n6_; clear n0_ n1_ n2_ n3_ n4_ n5_ n6_; clear hb hbox hg))
 (try simp only [Act.put, List.setIfInBounds_toArray, List.set_cons_zero, List.set_cons_succ])
 go_loopg [6] k (fun kq v6 w' => ∃ (x6_1 : Int) (x435000_1 : Int), v6 = .int .i64 x6_1 ∧ Aside0 (trivetref15_Analyze.l0 kq l0 a1 x6_1 x435000_1 0 0 0 0 = some (r1, r2, r3, r4, r5, r6)) ∧ Aside0 (kq ≤ k) ∧ Aside0 (w'.heap[gb433]? = some (.cells #[.int .i64 0, .int .i64 0, .int .i64 0, .int .i64 0, .int .i64 0, (.slice none 0 0)] 25 (0, 0))) ∧ Aside0 (w'.heap[gb434]? = some (.cells #[.int .i64 x435000_1, .int .i64 0, .int .i64 0, .int .i64 0, .int .i64 0, (.slice none 0 0)] 25 (0, 0))) ∧ Aside0 (Below w.heap.size w w'))
 case atStart => exact ⟨(0), (0), (by first | rfl | (simp; done) | (simp [*]; done)), H', ⟨Nat.le_refl _⟩, ⟨by (with_reducible repeat (first | apply kb1 | apply kb2 | apply kb3)); exact BK433.out⟩, ⟨by (with_reducible repeat (first | apply kb1 | apply kb2 | apply kb3)); exact BK434.out⟩, ⟨by repeat (first | (with_reducible first | exact HB.out | apply kc1 | apply kc2 | apply kc3 | refine kc4 ?_ GE433.out | refine kc4 ?_ GE434.out) | exact HB.out)⟩⟩
 case round =>
  clear H'
  try clear c1
  try clear p2
  obtain ⟨x6_1, x435000_1, rfl, HA, HK1, BK433, BK434, HB⟩ := hrel
  cases gk with
  | zero => exact absurd HA.out (by simp [trivetref15_Analyze.l0])
  | succ k1 =>
   have H := HA.out
   clear HA
   simp only [trivetref15_Analyze.l0] at H
   by_cases c5 : x6_1 < 12
   ·rw [if_pos c5] at H
    have c5b0 : decide (x6_1 < 12) = true := decide_eq_true c5
    clear c5
    by_cases c6 : 0 ≤ x6_1
    ·rw [if_pos c6] at H
     have c6b0 : decide (0 ≤ x6_1) = true := decide_eq_true c6
     clear c6
     by_cases c7 : x6_1 < (l0.length : Int)
     ·rw [if_pos c7] at H
      have c7b0 : decide (x6_1 < (l0.length : Int)) = true := decide_eq_true c7
      clear c7
      have H' := ka H
      clear H
      try go_wp2
      replace BK433 := ka (blk_drew BK433.out)
      replace BK434 := ka (blk_drew BK434.out)
      replace HB := ka (below_drew1 HB.out)
      have p435 : 0 ≤ (x6_1 : Int) := of_decide_eq_true (by first | (with_reducible assumption) | assumption)
      have q435 : x6_1 < (l0.length : Int) := of_decide_eq_true (by first | (with_reducible assumption) | assumption)
      obtain ⟨ad435, e435, hx435_0⟩ := Kd.at_int HR0.out x6_1 p435 q435
      have hw435_0 := hx435_0
      cases e435
      replace hx435_0 := (HB.out.cell (World.block_lt_of_cell? w _ hx435_0)).trans hx435_0
      replace p435 := eq_true p435
      replace q435 := eq_true q435
      refine start_ (n := 9) (S := fun w' => w'.cell? ⟨gb434, 0, none⟩ = some (.int .i64 x435000_1) ∧ w'.cell? ⟨gb434, 1, none⟩ = some (.int .i64 0) ∧ w'.cell? ⟨gb434, 2, none⟩ = some (.int .i64 0) ∧ w'.cell? ⟨gb434, 3, none⟩ = some (.int .i64 0) ∧ w'.cell? ⟨gb434, 4, none⟩ = some (.int .i64 0) ∧ w'.cell? ⟨gb434, 5, none⟩ = some (.slice none 0 0) ∧ w'.cell? (ad435.add (x6_1).toNat) = some (.int .i64 (rd l0 x6_1))) (ds := [8]) #[false, false, false, false, false, false, false, false, false] (by kernel_rfl) rfl rfl ⟨(blk_cell BK434.out 0).trans rfl, (blk_cell BK434.out 1).trans rfl, (blk_cell BK434.out 2).trans rfl, (blk_cell BK434.out 3).trans rfl, (blk_cell BK434.out 4).trans rfl, (blk_cell BK434.out 5).trans rfl, ((HB.out.cell (World.block_lt_of_cell? w _ hw435_0)).trans hw435_0)⟩ (fun hHeld => ?_); refine with_tabW trivetref15_Analyze.tab5 trivetref15_Analyze.bits5 (fun HT_ HW_ => ?_)
      generalize wr.drew = w8 at BK433 BK434 HB hx435_0 hHeld ⊢
      refine pure_ (i := 0) (N := some 14) (v := ?_) (a' := ?_) #[true, false, false, false, false, false, false, false, false] rfl rfl (any_of HT_.out (by kernel_rfl)) (fun _ _ _ h => h) (Or.inl ⟨by rfl, ?_⟩) ?_ ?_
      rotate_left
      ·intro w'
       go_simp
       with_reducible rfl
      rotate_left
      ·simp only [Act.put, List.setIfInBounds_toArray, List.set_cons_zero, List.set_cons_succ, i64_w, i32_w]
       rfl
      refine pure_ (i := 2) (N := some 16) (v := ?_) (a' := ?_) #[true, false, true, false, false, false, false, false, false] rfl rfl (any_of HT_.out (by kernel_rfl)) (fun _ _ _ h => h) (Or.inl ⟨by rfl, ?_⟩) ?_ ?_
      rotate_left
      ·intro w'
       go_simp
       with_reducible rfl
      rotate_left
      ·simp only [Act.put, List.setIfInBounds_toArray, List.set_cons_zero, List.set_cons_succ, i64_w, i32_w]
       rfl
      refine pure_ (i := 3) (N := some 17) (v := ?_) (a' := ?_) #[true, false, true, true, false, false, false, false, false] rfl rfl (any_of HT_.out (by kernel_rfl)) (fun _ _ _ h => h) (Or.inl ⟨by rfl, ?_⟩) ?_ ?_
      rotate_left
      ·intro w'
       go_simp
       with_reducible rfl
      rotate_left
      ·simp only [Act.put, List.setIfInBounds_toArray, List.set_cons_zero, List.set_cons_succ, i64_w, i32_w]
       rfl
      refine pure_ (i := 4) (N := some 18) (v := ?_) (a' := ?_) #[true, false, true, true, true, false, false, false, false] rfl rfl (any_of HT_.out (by kernel_rfl)) (fun _ _ _ h => h) (Or.inl ⟨by rfl, ?_⟩) ?_ ?_
      rotate_left
      ·intro w'
       go_simp
       with_reducible rfl
      rotate_left
      ·simp only [Act.put, List.setIfInBounds_toArray, List.set_cons_zero, List.set_cons_succ, i64_w, i32_w]
       rfl
      refine take_ (i := 1) (N := some 15) (v := ?_) (a' := ?_) #[true, true, true, true, true, false, false, false, false] rfl rfl (take_ofW HT_.out HW_.out (by kernel_rfl)) (fun _ _ _ h => h) (Or.inl ⟨by rfl, ?_⟩) hHeld ?_ ?_
      rotate_left
      ·rintro w' ⟨s0, s1, s2, s3, s4, s5, s6⟩
       go_simp
       with_reducible rfl
      rotate_left
      ·simp only [Act.put, List.setIfInBounds_toArray, List.set_cons_zero, List.set_cons_succ, i64_w, i32_w]
       rfl
      refine take_ (i := 5) (N := some 19) (v := ?_) (a' := ?_) #[true, true, true, true, true, true, false, false, false] rfl rfl (take_ofW HT_.out HW_.out (by kernel_rfl)) (fun _ _ _ h => h) (Or.inl ⟨by rfl, ?_⟩) hHeld ?_ ?_
      rotate_left
      ·rintro w' ⟨s0, s1, s2, s3, s4, s5, s6⟩
       go_simp
       with_reducible rfl
      rotate_left
      ·simp only [Act.put, List.setIfInBounds_toArray, List.set_cons_zero, List.set_cons_succ, i64_w, i32_w]
       rfl
      refine pure_ (i := 6) (N := some 20) (v := ?_) (a' := ?_) #[true, true, true, true, true, true, true, false, false] rfl rfl (any_of HT_.out (by kernel_rfl)) (fun _ _ _ h => h) (Or.inl ⟨by rfl, ?_⟩) ?_ ?_
      rotate_left
      ·intro w'
       go_simp
       with_reducible rfl
      rotate_left
      ·simp only [Act.put, List.setIfInBounds_toArray, List.set_cons_zero, List.set_cons_succ, i64_w, i32_w]
       rfl
      refine pure_ (i := 7) (N := some 21) (v := ?_) (a' := ?_) #[true, true, true, true, true, true, true, true, false] rfl rfl (any_of HT_.out (by kernel_rfl)) (fun _ _ _ h => h) (Or.inl ⟨by rfl, ?_⟩) ?_ ?_
      rotate_left
      ·intro w'
       go_simp
       with_reducible rfl
      rotate_left
      ·simp only [Act.put, List.setIfInBounds_toArray, List.set_cons_zero, List.set_cons_succ, i64_w, i32_w]
       rfl
      refine last_ (i := 8) (N := none) #[true, true, true, true, true, true, true, true, true] rfl rfl (one_of HT_.out (by kernel_rfl)) (by decide) (fun K hK => ?_)
      have hs9 : w8.cell? ⟨gb434, 0, none⟩ = some (.int .i64 x435000_1) := (blk_cell BK434.out 0).trans rfl
      have hfs9 := blk_frozen BK434.out 0
      have hns9_0 := NB433_434.out
      have hms9_0 := NB434_433.out
      refine skip_ (w1 := ?_) (by rfl) rfl ?_ ?_
      rotate_left
      ·go_simp
       rfl
      refine hK.out _ _ ?_
      clear hK K
      refine done_ (done_of HT_.out (by kernel_rfl)) ?_
      try go_wp2
      go_roundg k1
      case measure => have := HK1.out; omega
      case rel => exact ⟨(wrap64 (x6_1 + 1)), (wrap64 (x435000_1 + (rd l0 x6_1))), (by first | rfl | (simp; done) | (simp [*]; done)), H', ⟨by have := HK1.out; omega⟩, ⟨by (with_reducible repeat (first | apply kb1 | apply kb2 | apply kb3)); refine kb4 ?_ NB433_434.out _; (with_reducible repeat (first | apply kb1 | apply kb2 | apply kb3)); exact BK433.out⟩, ⟨by (with_reducible repeat (first | apply kb1 | apply kb2 | apply kb3)); refine blk_put (cs := #[.int .i64 x435000_1, .int .i64 0, .int .i64 0, .int .i64 0, .int .i64 0, .slice none 0 0]) ?_ 0 _ rfl; (with_reducible repeat (first | apply kb1 | apply kb2 | apply kb3)); exact BK434.out⟩, ⟨by repeat (first | (with_reducible first | exact HB.out | apply kc1 | apply kc2 | apply kc3 | refine kc4 ?_ GE433.out | refine kc4 ?_ GE434.out) | exact HB.out)⟩⟩
     ·rw [if_neg c7] at H
      exact absurd H (by simp)
    ·rw [if_neg c6] at H
     exact absurd H (by simp)
   ·rw [if_neg c5] at H
    have c5b0 : decide (x6_1 < 12) = false := decide_eq_false c5
    clear c5
    have HC10 := ka H
    clear H
    have hnb11 := NB434_433.out
    have hnc11 := NB433_434.out
    have hcz12 := blkAll6 BK434.out
    go_upto_if 29 with (fail)
    go_cut [] (fun wc => ∃ (kq : Nat) (x435001_9 : Int), Aside0 (trivetref15_Analyze.j1 kq l0 a1 x435000_1 x435001_9 0 0 0 = some (r1, r2, r3, r4, r5, r6)) ∧ Aside0 (kq ≤ k1) ∧ Aside0 (wc.heap[gb433]? = some (.cells #[.int .i64 0, .int .i64 0, .int .i64 0, .int .i64 0, .int .i64 0, (.slice none 0 0)] 25 (0, 0))) ∧ Aside0 (wc.heap[gb434]? = some (.cells #[.int .i64 x435000_1, .int .i64 x435001_9, .int .i64 0, .int .i64 0, .int .i64 0, (.slice none 0 0)] 25 (0, 0))) ∧ Aside0 (Below w.heap.size w wc))
    case first =>
     have H := HC10.out
     clear HC10
     by_cases c13 : (Int.tmod x435000_1 12) > 0
     ·rw [if_pos c13] at H
      have c13b0 : decide (0 < (Int.tmod x435000_1 12)) = true := decide_eq_true c13
      clear c13
      (first | rw [c13b0] | (simp only [i64_w, i32_w]; rw [c13b0]) | skip)
      have H' := ka H
      clear H
      have hnb14 := NB434_433.out
      have hnc14 := NB433_434.out
      have hcz15 := blkAll6 BK434.out
      go_wp2
      go_meet
      case rel => exact ⟨_, (wrap64 ((wrap64 (Int.tdiv x435000_1 12)) + 1)), H', ⟨by have := HK1.out; first | omega | exact Nat.le_refl _⟩, ⟨by (with_reducible repeat (first | apply kb1 | apply kb2 | apply kb3 | refine kb4 ?_ NB433_434.out _)); exact BK433.out⟩, ⟨by (with_reducible repeat (first | apply kb1 | apply kb2 | apply kb3 | apply blkPut6_1)); exact BK434.out⟩, ⟨by repeat (first | (with_reducible first | exact HB.out | apply kc1 | apply kc2 | apply kc3 | refine kc4 ?_ GE433.out | refine kc4 ?_ GE434.out) | exact HB.out)⟩⟩
     ·rw [if_neg c13] at H
      have c13b0 : decide (0 < (Int.tmod x435000_1 12)) = false := decide_eq_false c13
      clear c13
      (first | rw [c13b0] | (simp only [i64_w, i32_w]; rw [c13b0]) | skip)
      have H' := ka H
      clear H
      go_wp2
      go_meet
      case rel => exact ⟨_, (wrap64 (Int.tdiv x435000_1 12)), H', ⟨by have := HK1.out; first | omega | exact Nat.le_refl _⟩, ⟨by (with_reducible repeat (first | apply kb1 | apply kb2 | apply kb3)); refine kb4 ?_ NB433_434.out _; (with_reducible repeat (first | apply kb1 | apply kb2 | apply kb3)); exact BK433.out⟩, ⟨by (with_reducible repeat (first | apply kb1 | apply kb2 | apply kb3)); refine blk_put (cs := #[.int .i64 x435000_1, .int .i64 0, .int .i64 0, .int .i64 0, .int .i64 0, .slice none 0 0]) ?_ 1 _ rfl; (with_reducible repeat (first | apply kb1 | apply kb2 | apply kb3)); exact BK434.out⟩, ⟨by repeat (first | (with_reducible first | exact HB.out | apply kc1 | apply kc2 | apply kc3 | refine kc4 ?_ GE433.out | refine kc4 ?_ GE434.out) | exact HB.out)⟩⟩
    case rest =>
     clear HC10
     try clear c1
     try clear p2
     try clear p4
     try clear q4
     try clear hx4
     try clear c5
     try clear c5b0
     try clear c6
     try clear c6b0
     try clear p6
     try clear c7
     try clear c7b0
     try clear c10
     try clear c11
     try clear c13
     try clear c13b0
     try clear c14
     try clear hcz12
     try clear hcz15
     try clear hx435_0
     try clear p2
     try clear p435
     try clear q435
     obtain ⟨kq, x435001_9, HA, HJ9, BK433, BK434, HB⟩ := hcut
     cases kq with
     | zero => exact absurd HA.out (by simp [trivetref15_Analyze.j1])
     | succ kj9 =>
      have H := HA.out
      clear HA
      simp only [trivetref15_Analyze.j1] at H
      have HC16 := ka H
      clear H
      have hnb17 := NB434_433.out
      have hnc17 := NB433_434.out
      have hcz18 := blkAll6 BK434.out
      go_upto_if 41 with (fail)
      go_cut [] (fun wc => ∃ (kq : Nat) (x435002_15 : Int), Aside0 (trivetref15_Analyze.j2 kq l0 x435000_1 x435001_9 x435002_15 0 0 = some (r1, r2, r3, r4, r5, r6)) ∧ Aside0 (kq ≤ kj9) ∧ Aside0 (wc.heap[gb433]? = some (.cells #[.int .i64 0, .int .i64 0, .int .i64 0, .int .i64 0, .int .i64 0, (.slice none 0 0)] 25 (0, 0))) ∧ Aside0 (wc.heap[gb434]? = some (.cells #[.int .i64 x435000_1, .int .i64 x435001_9, .int .i64 x435002_15, .int .i64 0, .int .i64 0, (.slice none 0 0)] 25 (0, 0))) ∧ Aside0 (Below w.heap.size w wc))
      case first =>
       have H := HC16.out
       clear HC16
       by_cases c19 : a1 < (wrap64 (Int.tdiv x435000_1 6))
       ·rw [if_pos c19] at H
        have c19b0 : decide (a1 < (wrap64 (Int.tdiv x435000_1 6))) = true := decide_eq_true c19
        clear c19
        (first | rw [c19b0] | (simp only [i64_w, i32_w]; rw [c19b0]) | skip)
        have H' := ka H
        clear H
        have hnb20 := NB434_433.out
        have hnc20 := NB433_434.out
        have hcz21 := blkAll6 BK434.out
        go_wp2
        go_meet
        case rel => exact ⟨_, (a1), H', ⟨by have := HK1.out; have := HJ9.out; first | omega | exact Nat.le_refl _⟩, ⟨by (with_reducible repeat (first | apply kb1 | apply kb2 | apply kb3 | refine kb4 ?_ NB433_434.out _)); exact BK433.out⟩, ⟨by (with_reducible repeat (first | apply kb1 | apply kb2 | apply kb3 | apply blkPut6_2)); exact BK434.out⟩, ⟨by repeat (first | (with_reducible first | exact HB.out | apply kc1 | apply kc2 | apply kc3 | refine kc4 ?_ GE433.out | refine kc4 ?_ GE434.out) | exact HB.out)⟩⟩
       ·rw [if_neg c19] at H
        have c19b0 : decide (a1 < (wrap64 (Int.tdiv x435000_1 6))) = false := decide_eq_false c19
        clear c19
        (first | rw [c19b0] | (simp only [i64_w, i32_w]; rw [c19b0]) | skip)
        have H' := ka H
        clear H
        go_wp2
        go_meet
        case rel => exact ⟨_, (wrap64 (Int.tdiv x435000_1 6)), H', ⟨by have := HK1.out; have := HJ9.out; first | omega | exact Nat.le_refl _⟩, ⟨by (with_reducible repeat (first | apply kb1 | apply kb2 | apply kb3)); refine kb4 ?_ NB433_434.out _; (with_reducible repeat (first | apply kb1 | apply kb2 | apply kb3)); exact BK433.out⟩, ⟨by (with_reducible repeat (first | apply kb1 | apply kb2 | apply kb3)); refine blk_put (cs := #[.int .i64 x435000_1, .int .i64 x435001_9, .int .i64 0, .int .i64 0, .int .i64 0, .slice none 0 0]) ?_ 2 _ rfl; (with_reducible repeat (first | apply kb1 | apply kb2 | apply kb3)); exact BK434.out⟩, ⟨by repeat (first | (with_reducible first | exact HB.out | apply kc1 | apply kc2 | apply kc3 | refine kc4 ?_ GE433.out | refine kc4 ?_ GE434.out) | exact HB.out)⟩⟩
      case rest =>
       clear HC16
       try clear c1
       try clear c2
       try clear p2
       try clear p4
       try clear q4
       try clear hx4
       try clear c5
       try clear c5b0
       try clear c6
       try clear c6b0
       try clear p6
       try clear c7
       try clear c7b0
       try clear c10
       try clear c11
       try clear c13
       try clear c13b0
       try clear c14
       try clear c17
       try clear c19
       try clear c19b0
       try clear c20
       try clear hcz12
       try clear hcz15
       try clear hcz18
       try clear hcz21
       try clear hx435_0
       try clear p2
       try clear p4
       try clear p435
       try clear p6
       try clear q4
       try clear q435
       obtain ⟨kq, x435002_15, HA, HJ15, BK433, BK434, HB⟩ := hcut
       cases kq with
       | zero => exact absurd HA.out (by simp [trivetref15_Analyze.j2])
       | succ kj15 =>
        have H := HA.out
        clear HA
        simp only [trivetref15_Analyze.j2] at H
        replace H := Option.bind_eq_some_iff.mp H
        obtain ⟨t436, A220, H⟩ := H
        replace H : (trivetref15_Analyze.l1 kj15 l0 t436 0 x435000_1 x435001_9 x435002_15 0 0) = some (r1, r2, r3, r4, r5, r6) := H
        have A22 := ka A220
        clear A220
        have H' := ka H
        clear H
        have hnb23 := NB434_433.out
        have hnc23 := NB433_434.out
        have hcz24 := blkAll6 BK434.out
        go_wp2_with (first | ((with_reducible refine gate_callee (f := 9) rfl ?_); refine kg (some 47) rfl rfl Tryz.func9 (by kernel_rfl) rfl #[.slice A0 l0.length c0, .int .i64 x435001_9, .int .i64 0] rfl ?_; (with_reducible refine (trivetref15_Balances.calls kj15 _ _ l0 x435001_9 0 t436 _ ?side1 ?side2 A22.out).mono ?_); (case side1 => repeat (first | exact (Kd.C_below HR0.out HB.out) | (with_reducible refine Kd.C_alloc ?_ _) | (with_reducible refine Kd.C_drewN ?_ _) | (with_reducible refine Kd.C_drew ?_))); (case side2 => exact HC0.out); rintro e w25 ⟨v437, rfl, ho0, hb⟩; refine ⟨_, rfl, ?_⟩; have HO438 := ka (Kd.R_lower ho0 (below_size (kw HB.out))); replace BK433 := kbb BK433 hb; replace BK434 := kbb BK434 hb; replace HB := ka (below_step (kw HB.out) hb); (try clear hb); (try clear hb2); (try clear hk); (try clear hi); (try clear ho0)))
        (try simp only [Act.put, List.setIfInBounds_toArray, List.set_cons_zero, List.set_cons_succ])
        go_loopg [8] kj15 (fun kq v8 w' => ∃ (x8_4 : Int) (x435003_4 : Int) (x435004_4 : Int), v8 = .int .i64 x8_4 ∧ Aside0 (trivetref15_Analyze.l1 kq l0 t436 x8_4 x435000_1 x435001_9 x435002_15 x435003_4 x435004_4 = some (r1, r2, r3, r4, r5, r6)) ∧ Aside0 (kq ≤ kj15) ∧ Aside0 (Kd.R (Kd.int .i64) 2 w' w.heap.size (fun _ => True) v437 t436) ∧ Aside0 (w'.heap[gb433]? = some (.cells #[.int .i64 0, .int .i64 0, .int .i64 0, .int .i64 0, .int .i64 0, (.slice none 0 0)] 25 (0, 0))) ∧ Aside0 (w'.heap[gb434]? = some (.cells #[.int .i64 x435000_1, .int .i64 x435001_9, .int .i64 x435002_15, .int .i64 x435003_4, .int .i64 x435004_4, (.slice none 0 0)] 25 (0, 0))) ∧ Aside0 (Below w.heap.size w w'))
        case atStart => exact ⟨(0), (0), (0), (by first | rfl | (simp; done) | (simp [*]; done)), H', ⟨Nat.le_refl _⟩, ⟨kr HO438.out⟩, ⟨by (with_reducible repeat (first | apply kb1 | apply kb2 | apply kb3)); exact BK433.out⟩, ⟨by (with_reducible repeat (first | apply kb1 | apply kb2 | apply kb3)); exact BK434.out⟩, ⟨by repeat (first | (with_reducible first | exact HB.out | apply kc1 | apply kc2 | apply kc3 | refine kc4 ?_ GE433.out | refine kc4 ?_ GE434.out) | exact HB.out)⟩⟩
        case round =>
         clear H'
         try clear c1
         try clear c2
         try clear p2
         try clear p4
         try clear q4
         try clear hx4
         try clear c5
         try clear c5b0
         try clear c6
         try clear c6b0
         try clear p6
         try clear c7
         try clear c7b0
         try clear c9
         try clear c10
         try clear c11
         try clear c13
         try clear c13b0
         try clear c14
         try clear c17
         try clear c19
         try clear c19b0
         try clear c20
         try clear c23
         try clear hcz12
         try clear hcz15
         try clear hcz18
         try clear hcz21
         try clear hcz24
         try clear hx435_0
         try clear p2
         try clear p4
         try clear p435
         try clear p6
         try clear q4
         try clear q435
         obtain ⟨x8_4, x435003_4, x435004_4, rfl, HA, HK4, HO_7, BK433, BK434, HB⟩ := hrel
         cases gk with
         | zero => exact absurd HA.out (by simp [trivetref15_Analyze.l1])
         | succ k4 =>
          have H := HA.out
          clear HA
          simp only [trivetref15_Analyze.l1] at H
          by_cases c26 : x8_4 < 12
          ·rw [if_pos c26] at H
           have c26b0 : decide (x8_4 < 12) = true := decide_eq_true c26
           clear c26
           by_cases c27 : 0 ≤ x8_4
           ·rw [if_pos c27] at H
            have c27b0 : decide (0 ≤ x8_4) = true := decide_eq_true c27
            clear c27
            by_cases c28 : x8_4 < (t436.length : Int)
            ·rw [if_pos c28] at H
             have c28b0 : decide (x8_4 < (t436.length : Int)) = true := decide_eq_true c28
             clear c28
             by_cases c29 : x8_4 = 0
             ·rw [if_pos c29] at H
              have c29b0 : (x8_4 == 0) = true := beq_iff_eq.mpr c29
              have c29b1 : (x8_4 != 0) = false := bne_eq_false_iff_eq.mpr c29
              clear c29
              have H' := ka H
              clear H
              try go_wp2
              replace HO_7 := ka (Kd.R_drew HO_7.out)
              replace BK433 := ka (blk_drew BK433.out)
              replace BK434 := ka (blk_drew BK434.out)
              replace HB := ka (below_drew1 HB.out)
              obtain ⟨Ao31, co31, eo31⟩ := Kd.R_slice HO_7.out
              (first | subst eo31 | (injection eo31 with f1_ f2_ f3_; have f4_ := f1_.symm; have f5_ := f3_.symm; clear f1_ f2_ f3_; subst f4_; subst f5_))
              have p439 : 0 ≤ (x8_4 : Int) := of_decide_eq_true (by first | (with_reducible assumption) | assumption)
              have q439 : x8_4 < (t436.length : Int) := of_decide_eq_true (by first | (with_reducible assumption) | assumption)
              obtain ⟨ad439, e439, hx439_0⟩ := Kd.at_int (Kd.R_reads' HO_7.out).2.2 x8_4 p439 q439
              cases e439
              replace p439 := eq_true p439
              replace q439 := eq_true q439
              refine start_ (n := 8) (S := fun w' => w'.cell? ⟨gb434, 0, none⟩ = some (.int .i64 x435000_1) ∧ w'.cell? ⟨gb434, 1, none⟩ = some (.int .i64 x435001_9) ∧ w'.cell? ⟨gb434, 2, none⟩ = some (.int .i64 x435002_15) ∧ w'.cell? ⟨gb434, 3, none⟩ = some (.int .i64 x435003_4) ∧ w'.cell? ⟨gb434, 4, none⟩ = some (.int .i64 x435004_4) ∧ w'.cell? ⟨gb434, 5, none⟩ = some (.slice none 0 0) ∧ w'.cell? (ad439.add (x8_4).toNat) = some (.int .i64 (rd t436 x8_4))) (ds := []) #[false, false, false, false, false, false, false, false] (by kernel_rfl) rfl rfl ⟨(blk_cell BK434.out 0).trans rfl, (blk_cell BK434.out 1).trans rfl, (blk_cell BK434.out 2).trans rfl, (blk_cell BK434.out 3).trans rfl, (blk_cell BK434.out 4).trans rfl, (blk_cell BK434.out 5).trans rfl, hx439_0⟩ (fun hHeld => ?_); refine with_tabW trivetref15_Analyze.tab16 trivetref15_Analyze.bits16 (fun HT_ HW_ => ?_)
              generalize wr.drew = w30 at HO_7 BK433 BK434 HB hx439_0 hHeld ⊢
              refine pure_ (i := 0) (N := some 52) (v := ?_) (a' := ?_) #[true, false, false, false, false, false, false, false] rfl rfl (any_of HT_.out (by kernel_rfl)) (fun _ _ _ h => h) (Or.inl ⟨by rfl, ?_⟩) ?_ ?_
              rotate_left
              ·intro w'
               go_simp
               with_reducible rfl
              rotate_left
              ·simp only [Act.put, List.setIfInBounds_toArray, List.set_cons_zero, List.set_cons_succ, i64_w, i32_w]
               rfl
              refine pure_ (i := 2) (N := some 54) (v := ?_) (a' := ?_) #[true, false, true, false, false, false, false, false] rfl rfl (any_of HT_.out (by kernel_rfl)) (fun _ _ _ h => h) (Or.inl ⟨by rfl, ?_⟩) ?_ ?_
              rotate_left
              ·intro w'
               go_simp
               with_reducible rfl
              rotate_left
              ·simp only [Act.put, List.setIfInBounds_toArray, List.set_cons_zero, List.set_cons_succ, i64_w, i32_w]
               rfl
              refine pure_ (i := 3) (N := some 55) (v := ?_) (a' := ?_) #[true, false, true, true, false, false, false, false] rfl rfl (any_of HT_.out (by kernel_rfl)) (fun _ _ _ h => h) (Or.inl ⟨by rfl, ?_⟩) ?_ ?_
              rotate_left
              ·intro w'
               go_simp
               with_reducible rfl
              rotate_left
              ·simp only [Act.put, List.setIfInBounds_toArray, List.set_cons_zero, List.set_cons_succ, i64_w, i32_w]
               rfl
              refine pure_ (i := 4) (N := some 56) (v := ?_) (a' := ?_) #[true, false, true, true, true, false, false, false] rfl rfl (any_of HT_.out (by kernel_rfl)) (fun _ _ _ h => h) (Or.inl ⟨by rfl, ?_⟩) ?_ ?_
              rotate_left
              ·intro w'
               go_simp
               with_reducible rfl
              rotate_left
              ·simp only [Act.put, List.setIfInBounds_toArray, List.set_cons_zero, List.set_cons_succ, i64_w, i32_w]
               rfl
              refine take_ (i := 1) (N := some 53) (v := ?_) (a' := ?_) #[true, true, true, true, true, false, false, false] rfl rfl (take_ofW HT_.out HW_.out (by kernel_rfl)) (fun _ _ _ h => h) (Or.inl ⟨by rfl, ?_⟩) hHeld ?_ ?_
              rotate_left
              ·rintro w' ⟨s0, s1, s2, s3, s4, s5, s6⟩
               go_simp
               with_reducible rfl
              rotate_left
              ·simp only [Act.put, List.setIfInBounds_toArray, List.set_cons_zero, List.set_cons_succ, i64_w, i32_w]
               rfl
              refine take_ (i := 5) (N := some 57) (v := ?_) (a' := ?_) #[true, true, true, true, true, true, false, false] rfl rfl (take_ofW HT_.out HW_.out (by kernel_rfl)) (fun _ _ _ h => h) (Or.inl ⟨by rfl, ?_⟩) hHeld ?_ ?_
              rotate_left
              ·rintro w' ⟨s0, s1, s2, s3, s4, s5, s6⟩
               go_simp
               with_reducible rfl
              rotate_left
              ·simp only [Act.put, List.setIfInBounds_toArray, List.set_cons_zero, List.set_cons_succ, i64_w, i32_w]
               rfl
              refine pure_ (i := 6) (N := some 58) (v := ?_) (a' := ?_) #[true, true, true, true, true, true, true, false] rfl rfl (any_of HT_.out (by kernel_rfl)) (fun _ _ _ h => h) (Or.inl ⟨by rfl, ?_⟩) ?_ ?_
              rotate_left
              ·intro w'
               go_simp
               with_reducible rfl
              rotate_left
              ·simp only [Act.put, List.setIfInBounds_toArray, List.set_cons_zero, List.set_cons_succ, i64_w, i32_w]
               rfl
              refine pure_ (i := 7) (N := some 9) (v := ?_) (a' := ?_) #[true, true, true, true, true, true, true, true] rfl rfl (any_of HT_.out (by kernel_rfl)) (fun _ _ _ h => h) (Or.inl ⟨by rfl, ?_⟩) ?_ ?_
              rotate_left
              ·intro w'
               go_simp
               with_reducible rfl
              rotate_left
              ·simp only [Act.put, List.setIfInBounds_toArray, List.set_cons_zero, List.set_cons_succ, i64_w, i32_w]
               rfl
              refine done_ (done_of HT_.out (by kernel_rfl)) ?_
              have hnb32 := NB434_433.out
              have hnc32 := NB433_434.out
              have hcz33 := blkAll6 BK434.out
              try go_wp2
              go_roundg k4
              case measure => have := HK1.out; have := HJ9.out; have := HJ15.out; have := HK4.out; omega
              case rel => exact ⟨(wrap64 (x8_4 + 1)), (wrap64 (x435002_15 - (rd t436 x8_4))), (x8_4), (by first | rfl | (simp; done) | (simp [*]; done)), H', ⟨by have := HK1.out; have := HJ9.out; have := HJ15.out; have := HK4.out; omega⟩, ⟨kr (Kd.R_mono (Kd.R_far (p := ⟨gb434, 4, none⟩) (Kd.R_far (p := ⟨gb434, 3, none⟩) (Kd.R_types HO_7.out BK434.out (by decide)) (fun _ hk => hk.2) (.int .i64 (wrap64 (x435002_15 - (rd t436 x8_4))))) (fun _ hk => hk.2) (.int .i64 x8_4)) (fun _ hk => trivial))⟩, ⟨by (with_reducible repeat (first | apply kb1 | apply kb2 | apply kb3 | refine kb4 ?_ NB433_434.out _)); exact BK433.out⟩, ⟨by (with_reducible repeat (first | apply kb1 | apply kb2 | apply kb3 | apply blkPut6_4 | apply blkPut6_3)); exact BK434.out⟩, ⟨by repeat (first | (with_reducible first | exact HB.out | apply kc1 | apply kc2 | apply kc3 | refine kc4 ?_ GE433.out | refine kc4 ?_ GE434.out) | exact HB.out)⟩⟩
             ·rw [if_neg c29] at H
              have c29b0 : (x8_4 == 0) = false := beq_eq_false_iff_ne.mpr c29
              have c29b1 : (x8_4 != 0) = true := bne_iff_ne.mpr c29
              by_cases c34 : (wrap64 (x435002_15 - (rd t436 x8_4))) > x435003_4
              ·rw [if_pos c34] at H
               have c34b0 : decide (x435003_4 < (wrap64 (x435002_15 - (rd t436 x8_4)))) = true := decide_eq_true c34
               clear c34
               have H' := ka H
               clear H
               try go_wp2
               replace HO_7 := ka (Kd.R_drew HO_7.out)
               replace BK433 := ka (blk_drew BK433.out)
               replace BK434 := ka (blk_drew BK434.out)
               replace HB := ka (below_drew1 HB.out)
               obtain ⟨Ao36, co36, eo36⟩ := Kd.R_slice HO_7.out
               (first | subst eo36 | (injection eo36 with f1_ f2_ f3_; have f4_ := f1_.symm; have f5_ := f3_.symm; clear f1_ f2_ f3_; subst f4_; subst f5_))
               have p439 : 0 ≤ (x8_4 : Int) := of_decide_eq_true (by first | (with_reducible assumption) | assumption)
               have q439 : x8_4 < (t436.length : Int) := of_decide_eq_true (by first | (with_reducible assumption) | assumption)
               obtain ⟨ad439, e439, hx439_0⟩ := Kd.at_int (Kd.R_reads' HO_7.out).2.2 x8_4 p439 q439
               cases e439
               replace p439 := eq_true p439
               replace q439 := eq_true q439
               refine start_ (n := 8) (S := fun w' => w'.cell? ⟨gb434, 0, none⟩ = some (.int .i64 x435000_1) ∧ w'.cell? ⟨gb434, 1, none⟩ = some (.int .i64 x435001_9) ∧ w'.cell? ⟨gb434, 2, none⟩ = some (.int .i64 x435002_15) ∧ w'.cell? ⟨gb434, 3, none⟩ = some (.int .i64 x435003_4) ∧ w'.cell? ⟨gb434, 4, none⟩ = some (.int .i64 x435004_4) ∧ w'.cell? ⟨gb434, 5, none⟩ = some (.slice none 0 0) ∧ w'.cell? (ad439.add (x8_4).toNat) = some (.int .i64 (rd t436 x8_4))) (ds := []) #[false, false, false, false, false, false, false, false] (by kernel_rfl) rfl rfl ⟨(blk_cell BK434.out 0).trans rfl, (blk_cell BK434.out 1).trans rfl, (blk_cell BK434.out 2).trans rfl, (blk_cell BK434.out 3).trans rfl, (blk_cell BK434.out 4).trans rfl, (blk_cell BK434.out 5).trans rfl, hx439_0⟩ (fun hHeld => ?_); refine with_tabW trivetref15_Analyze.tab16 trivetref15_Analyze.bits16 (fun HT_ HW_ => ?_)
               generalize wr.drew = w35 at HO_7 BK433 BK434 HB hx439_0 hHeld ⊢
               refine pure_ (i := 0) (N := some 52) (v := ?_) (a' := ?_) #[true, false, false, false, false, false, false, false] rfl rfl (any_of HT_.out (by kernel_rfl)) (fun _ _ _ h => h) (Or.inl ⟨by rfl, ?_⟩) ?_ ?_
               rotate_left
               ·intro w'
                go_simp
                with_reducible rfl
               rotate_left
               ·simp only [Act.put, List.setIfInBounds_toArray, List.set_cons_zero, List.set_cons_succ, i64_w, i32_w]
                rfl
               refine pure_ (i := 2) (N := some 54) (v := ?_) (a' := ?_) #[true, false, true, false, false, false, false, false] rfl rfl (any_of HT_.out (by kernel_rfl)) (fun _ _ _ h => h) (Or.inl ⟨by rfl, ?_⟩) ?_ ?_
               rotate_left
               ·intro w'
                go_simp
                with_reducible rfl
               rotate_left
               ·simp only [Act.put, List.setIfInBounds_toArray, List.set_cons_zero, List.set_cons_succ, i64_w, i32_w]
                rfl
               refine pure_ (i := 3) (N := some 55) (v := ?_) (a' := ?_) #[true, false, true, true, false, false, false, false] rfl rfl (any_of HT_.out (by kernel_rfl)) (fun _ _ _ h => h) (Or.inl ⟨by rfl, ?_⟩) ?_ ?_
               rotate_left
               ·intro w'
                go_simp
                with_reducible rfl
               rotate_left
               ·simp only [Act.put, List.setIfInBounds_toArray, List.set_cons_zero, List.set_cons_succ, i64_w, i32_w]
                rfl
               refine pure_ (i := 4) (N := some 56) (v := ?_) (a' := ?_) #[true, false, true, true, true, false, false, false] rfl rfl (any_of HT_.out (by kernel_rfl)) (fun _ _ _ h => h) (Or.inl ⟨by rfl, ?_⟩) ?_ ?_
               rotate_left
               ·intro w'
                go_simp
                with_reducible rfl
               rotate_left
               ·simp only [Act.put, List.setIfInBounds_toArray, List.set_cons_zero, List.set_cons_succ, i64_w, i32_w]
                rfl
               refine take_ (i := 1) (N := some 53) (v := ?_) (a' := ?_) #[true, true, true, true, true, false, false, false] rfl rfl (take_ofW HT_.out HW_.out (by kernel_rfl)) (fun _ _ _ h => h) (Or.inl ⟨by rfl, ?_⟩) hHeld ?_ ?_
               rotate_left
               ·rintro w' ⟨s0, s1, s2, s3, s4, s5, s6⟩
                go_simp
                with_reducible rfl
               rotate_left
               ·simp only [Act.put, List.setIfInBounds_toArray, List.set_cons_zero, List.set_cons_succ, i64_w, i32_w]
                rfl
               refine take_ (i := 5) (N := some 57) (v := ?_) (a' := ?_) #[true, true, true, true, true, true, false, false] rfl rfl (take_ofW HT_.out HW_.out (by kernel_rfl)) (fun _ _ _ h => h) (Or.inl ⟨by rfl, ?_⟩) hHeld ?_ ?_
               rotate_left
               ·rintro w' ⟨s0, s1, s2, s3, s4, s5, s6⟩
                go_simp
                with_reducible rfl
               rotate_left
               ·simp only [Act.put, List.setIfInBounds_toArray, List.set_cons_zero, List.set_cons_succ, i64_w, i32_w]
                rfl
               refine pure_ (i := 6) (N := some 58) (v := ?_) (a' := ?_) #[true, true, true, true, true, true, true, false] rfl rfl (any_of HT_.out (by kernel_rfl)) (fun _ _ _ h => h) (Or.inl ⟨by rfl, ?_⟩) ?_ ?_
               rotate_left
               ·intro w'
                go_simp
                with_reducible rfl
               rotate_left
               ·simp only [Act.put, List.setIfInBounds_toArray, List.set_cons_zero, List.set_cons_succ, i64_w, i32_w]
                rfl
               refine pure_ (i := 7) (N := some 9) (v := ?_) (a' := ?_) #[true, true, true, true, true, true, true, true] rfl rfl (any_of HT_.out (by kernel_rfl)) (fun _ _ _ h => h) (Or.inl ⟨by rfl, ?_⟩) ?_ ?_
               rotate_left
               ·intro w'
                go_simp
                with_reducible rfl
               rotate_left
               ·simp only [Act.put, List.setIfInBounds_toArray, List.set_cons_zero, List.set_cons_succ, i64_w, i32_w]
                rfl
               refine done_ (done_of HT_.out (by kernel_rfl)) ?_
               have hnb37 := NB434_433.out
               have hnc37 := NB433_434.out
               have hcz38 := blkAll6 BK434.out
               try go_wp2
               go_roundg k4
               case measure => have := HK1.out; have := HJ9.out; have := HJ15.out; have := HK4.out; omega
               case rel => exact ⟨(wrap64 (x8_4 + 1)), (wrap64 (x435002_15 - (rd t436 x8_4))), (x8_4), (by first | rfl | (simp; done) | (simp [*]; done)), H', ⟨by have := HK1.out; have := HJ9.out; have := HJ15.out; have := HK4.out; omega⟩, ⟨kr (Kd.R_mono (Kd.R_far (p := ⟨gb434, 4, none⟩) (Kd.R_far (p := ⟨gb434, 3, none⟩) (Kd.R_types HO_7.out BK434.out (by decide)) (fun _ hk => hk.2) (.int .i64 (wrap64 (x435002_15 - (rd t436 x8_4))))) (fun _ hk => hk.2) (.int .i64 x8_4)) (fun _ hk => trivial))⟩, ⟨by (with_reducible repeat (first | apply kb1 | apply kb2 | apply kb3 | refine kb4 ?_ NB433_434.out _)); exact BK433.out⟩, ⟨by (with_reducible repeat (first | apply kb1 | apply kb2 | apply kb3 | apply blkPut6_4 | apply blkPut6_3)); exact BK434.out⟩, ⟨by repeat (first | (with_reducible first | exact HB.out | apply kc1 | apply kc2 | apply kc3 | refine kc4 ?_ GE433.out | refine kc4 ?_ GE434.out) | exact HB.out)⟩⟩
              ·rw [if_neg c34] at H
               have c34b0 : decide (x435003_4 < (wrap64 (x435002_15 - (rd t436 x8_4)))) = false := decide_eq_false c34
               clear c34
               have H' := ka H
               clear H
               try go_wp2
               replace HO_7 := ka (Kd.R_drew HO_7.out)
               replace BK433 := ka (blk_drew BK433.out)
               replace BK434 := ka (blk_drew BK434.out)
               replace HB := ka (below_drew1 HB.out)
               obtain ⟨Ao40, co40, eo40⟩ := Kd.R_slice HO_7.out
               (first | subst eo40 | (injection eo40 with f1_ f2_ f3_; have f4_ := f1_.symm; have f5_ := f3_.symm; clear f1_ f2_ f3_; subst f4_; subst f5_))
               have p439 : 0 ≤ (x8_4 : Int) := of_decide_eq_true (by first | (with_reducible assumption) | assumption)
               have q439 : x8_4 < (t436.length : Int) := of_decide_eq_true (by first | (with_reducible assumption) | assumption)
               obtain ⟨ad439, e439, hx439_0⟩ := Kd.at_int (Kd.R_reads' HO_7.out).2.2 x8_4 p439 q439
               cases e439
               replace p439 := eq_true p439
               replace q439 := eq_true q439
               refine start_ (n := 8) (S := fun w' => w'.cell? ⟨gb434, 0, none⟩ = some (.int .i64 x435000_1) ∧ w'.cell? ⟨gb434, 1, none⟩ = some (.int .i64 x435001_9) ∧ w'.cell? ⟨gb434, 2, none⟩ = some (.int .i64 x435002_15) ∧ w'.cell? ⟨gb434, 3, none⟩ = some (.int .i64 x435003_4) ∧ w'.cell? ⟨gb434, 4, none⟩ = some (.int .i64 x435004_4) ∧ w'.cell? ⟨gb434, 5, none⟩ = some (.slice none 0 0) ∧ w'.cell? (ad439.add (x8_4).toNat) = some (.int .i64 (rd t436 x8_4))) (ds := []) #[false, false, false, false, false, false, false, false] (by kernel_rfl) rfl rfl ⟨(blk_cell BK434.out 0).trans rfl, (blk_cell BK434.out 1).trans rfl, (blk_cell BK434.out 2).trans rfl, (blk_cell BK434.out 3).trans rfl, (blk_cell BK434.out 4).trans rfl, (blk_cell BK434.out 5).trans rfl, hx439_0⟩ (fun hHeld => ?_); refine with_tabW trivetref15_Analyze.tab16 trivetref15_Analyze.bits16 (fun HT_ HW_ => ?_)
               generalize wr.drew = w39 at HO_7 BK433 BK434 HB hx439_0 hHeld ⊢
               refine pure_ (i := 0) (N := some 52) (v := ?_) (a' := ?_) #[true, false, false, false, false, false, false, false] rfl rfl (any_of HT_.out (by kernel_rfl)) (fun _ _ _ h => h) (Or.inl ⟨by rfl, ?_⟩) ?_ ?_
               rotate_left
               ·intro w'
                go_simp
                with_reducible rfl
               rotate_left
               ·simp only [Act.put, List.setIfInBounds_toArray, List.set_cons_zero, List.set_cons_succ, i64_w, i32_w]
                rfl
               refine pure_ (i := 2) (N := some 54) (v := ?_) (a' := ?_) #[true, false, true, false, false, false, false, false] rfl rfl (any_of HT_.out (by kernel_rfl)) (fun _ _ _ h => h) (Or.inl ⟨by rfl, ?_⟩) ?_ ?_
               rotate_left
               ·intro w'
                go_simp
                with_reducible rfl
               rotate_left
               ·simp only [Act.put, List.setIfInBounds_toArray, List.set_cons_zero, List.set_cons_succ, i64_w, i32_w]
                rfl
               refine pure_ (i := 3) (N := some 55) (v := ?_) (a' := ?_) #[true, false, true, true, false, false, false, false] rfl rfl (any_of HT_.out (by kernel_rfl)) (fun _ _ _ h => h) (Or.inl ⟨by rfl, ?_⟩) ?_ ?_
               rotate_left
               ·intro w'
                go_simp
                with_reducible rfl
               rotate_left
               ·simp only [Act.put, List.setIfInBounds_toArray, List.set_cons_zero, List.set_cons_succ, i64_w, i32_w]
                rfl
               refine pure_ (i := 4) (N := some 56) (v := ?_) (a' := ?_) #[true, false, true, true, true, false, false, false] rfl rfl (any_of HT_.out (by kernel_rfl)) (fun _ _ _ h => h) (Or.inl ⟨by rfl, ?_⟩) ?_ ?_
               rotate_left
               ·intro w'
                go_simp
                with_reducible rfl
               rotate_left
               ·simp only [Act.put, List.setIfInBounds_toArray, List.set_cons_zero, List.set_cons_succ, i64_w, i32_w]
                rfl
               refine take_ (i := 1) (N := some 53) (v := ?_) (a' := ?_) #[true, true, true, true, true, false, false, false] rfl rfl (take_ofW HT_.out HW_.out (by kernel_rfl)) (fun _ _ _ h => h) (Or.inl ⟨by rfl, ?_⟩) hHeld ?_ ?_
               rotate_left
               ·rintro w' ⟨s0, s1, s2, s3, s4, s5, s6⟩
                go_simp
                with_reducible rfl
               rotate_left
               ·simp only [Act.put, List.setIfInBounds_toArray, List.set_cons_zero, List.set_cons_succ, i64_w, i32_w]
                rfl
               refine take_ (i := 5) (N := some 57) (v := ?_) (a' := ?_) #[true, true, true, true, true, true, false, false] rfl rfl (take_ofW HT_.out HW_.out (by kernel_rfl)) (fun _ _ _ h => h) (Or.inl ⟨by rfl, ?_⟩) hHeld ?_ ?_
               rotate_left
               ·rintro w' ⟨s0, s1, s2, s3, s4, s5, s6⟩
                go_simp
                with_reducible rfl
               rotate_left
               ·simp only [Act.put, List.setIfInBounds_toArray, List.set_cons_zero, List.set_cons_succ, i64_w, i32_w]
                rfl
               refine pure_ (i := 6) (N := some 58) (v := ?_) (a' := ?_) #[true, true, true, true, true, true, true, false] rfl rfl (any_of HT_.out (by kernel_rfl)) (fun _ _ _ h => h) (Or.inl ⟨by rfl, ?_⟩) ?_ ?_
               rotate_left
               ·intro w'
                go_simp
                with_reducible rfl
               rotate_left
               ·simp only [Act.put, List.setIfInBounds_toArray, List.set_cons_zero, List.set_cons_succ, i64_w, i32_w]
                rfl
               refine pure_ (i := 7) (N := some 9) (v := ?_) (a' := ?_) #[true, true, true, true, true, true, true, true] rfl rfl (any_of HT_.out (by kernel_rfl)) (fun _ _ _ h => h) (Or.inl ⟨by rfl, ?_⟩) ?_ ?_
               rotate_left
               ·intro w'
                go_simp
                with_reducible rfl
               rotate_left
               ·simp only [Act.put, List.setIfInBounds_toArray, List.set_cons_zero, List.set_cons_succ, i64_w, i32_w]
                rfl
               refine done_ (done_of HT_.out (by kernel_rfl)) ?_
               have hnb41 := NB434_433.out
               have hnc41 := NB433_434.out
               have hcz42 := blkAll6 BK434.out
               try go_wp2
               go_roundg k4
               case measure => have := HK1.out; have := HJ9.out; have := HJ15.out; have := HK4.out; omega
               case rel => exact ⟨(wrap64 (x8_4 + 1)), (x435003_4), (x435004_4), (by first | rfl | (simp; done) | (simp [*]; done)), H', ⟨by have := HK1.out; have := HJ9.out; have := HJ15.out; have := HK4.out; omega⟩, ⟨kr HO_7.out⟩, ⟨by (with_reducible repeat (first | apply kb1 | apply kb2 | apply kb3)); exact BK433.out⟩, ⟨by (with_reducible repeat (first | apply kb1 | apply kb2 | apply kb3)); exact BK434.out⟩, ⟨by repeat (first | (with_reducible first | exact HB.out | apply kc1 | apply kc2 | apply kc3 | refine kc4 ?_ GE433.out | refine kc4 ?_ GE434.out) | exact HB.out)⟩⟩
            ·rw [if_neg c28] at H
             exact absurd H (by simp)
           ·rw [if_neg c27] at H
            exact absurd H (by simp)
          ·rw [if_neg c26] at H
           have c26b0 : decide (x8_4 < 12) = false := decide_eq_false c26
           clear c26
           replace H := Option.bind_eq_some_iff.mp H
           obtain ⟨t440, A430, H⟩ := H
           replace H : (some (x435000_1, x435001_9, x435002_15, x435003_4, x435004_4, t440)) = some (r1, r2, r3, r4, r5, r6) := H
           have A43 := ka A430
           clear A430
           simp only [Option.some.injEq, Prod.mk.injEq] at H
           obtain ⟨rfl, rfl, rfl, rfl, rfl, rfl⟩ := H
           have hnb44 := NB434_433.out
           have hnc44 := NB433_434.out
           have hcz45 := blkAll6 BK434.out
           go_wp2_with (first | ((with_reducible refine gate_callee (f := 9) rfl ?_); refine kg (some 76) rfl rfl Tryz.func9 (by kernel_rfl) rfl #[.slice A0 l0.length c0, .int .i64 x435001_9, .int .i64 x435003_4] rfl ?_; (with_reducible refine (trivetref15_Balances.calls k4 _ _ l0 x435001_9 x435003_4 t440 _ ?side1 ?side2 A43.out).mono ?_); (case side1 => repeat (first | exact (Kd.C_below HR0.out HB.out) | (with_reducible refine Kd.C_alloc ?_ _) | (with_reducible refine Kd.C_drewN ?_ _) | (with_reducible refine Kd.C_drew ?_))); (case side2 => exact HC0.out); rintro e w46 ⟨v441, rfl, ho0, hb⟩; refine ⟨_, rfl, ?_⟩; have HO442 := ka (Kd.R_lower (Kd.R_new' ho0 (Kd.R_lt (kr HO_7.out))) (below_size (kw HB.out))); replace HO_7 := ka (Kd.R_elder' (kr HO_7.out) (Kd.R_base ho0) hb); replace BK433 := kbb BK433 hb; replace BK434 := kbb BK434 hb; replace HB := ka (below_step (kw HB.out) hb); (try clear hb); (try clear hb2); (try clear hk); (try clear hi); (try clear ho0); obtain ⟨Ao47, co47, eo47⟩ := Kd.R_slice HO442.out; subst eo47; have hcz48 := blkAll6 BK434.out; have hcz49 := blkAll6 BK433.out))
           refine bodyPost_ret (results_cell_row rfl _ _ gb433 25 #[.int .i64 x435000_1, .int .i64 x435001_9, .int .i64 x435002_15, .int .i64 x435003_4, .int .i64 x435004_4, .slice Ao47 t440.length co47] (0, 0) _ rfl (by (with_reducible repeat (first | apply kb1 | apply kb2 | apply kb3 | apply blkPut6_5 | apply blkPut6_4 | apply blkPut6_3 | apply blkPut6_2 | apply blkPut6_1 | apply blkPut6_0 | refine kb4 ?_ NB433_434.out _)); exact BK433.out) Tryz.underlying25 rfl (by kernel_rfl)) rfl ?_
           exact ⟨_, by first | rfl | (simp [errW_none, errW_some] <;> rfl) | (simp [*, errW_none, errW_some] <;> rfl), by (with_reducible repeat (first | apply Kd.R_alloc | apply Kd.R_drewN | apply Kd.R_drew)); exact Kd.R_mono (Kd.R_far (p := ⟨gb433, 5, none⟩) (Kd.R_far (p := ⟨gb433, 4, none⟩) (Kd.R_far (p := ⟨gb433, 3, none⟩) (Kd.R_far (p := ⟨gb433, 2, none⟩) (Kd.R_far (p := ⟨gb433, 1, none⟩) (Kd.R_far (p := ⟨gb433, 0, none⟩) (Kd.R_far (p := ⟨gb434, 5, none⟩) (Kd.R_types (Kd.R_types HO442.out BK434.out (by decide)) BK433.out (by decide)) (fun _ hk => hk.1.2) (.slice Ao47 t440.length co47)) (fun _ hk => hk.2) (.int .i64 x435000_1)) (fun _ hk => hk.2) (.int .i64 x435001_9)) (fun _ hk => hk.2) (.int .i64 x435002_15)) (fun _ hk => hk.2) (.int .i64 x435003_4)) (fun _ hk => hk.2) (.int .i64 x435004_4)) (fun _ hk => hk.2) (.slice Ao47 t440.length co47)) (fun _ hk => trivial), by repeat (first | (with_reducible first | exact HB.out | apply kc1 | apply kc2 | apply kc3 | refine kc4 ?_ GE433.out | refine kc4 ?_ GE434.out) | exact HB.out)⟩

end Go.Proofs.YtbbhdlbpefibeaaGreatDoor.P
