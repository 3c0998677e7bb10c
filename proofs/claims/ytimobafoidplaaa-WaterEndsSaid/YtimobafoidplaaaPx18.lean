-- Written by a program of this session out of the translation of the seat: Lean functions and the proofs that the Go functions come to them.
import Derived.Test.YtimobafoidplaaaPx0
import Derived.Test.YtimobafoidplaaaPx5
import Derived.Test.YtimobafoidplaaaPx14
import Derived.Test.YtimobafoidplaaaPx15
namespace Go.Proofs.Ytimobafoidplaaa.P
open Go.RowKit Go.Proofs.YtimobafoidplaaaW.PrintWords Go.Proofs.YtimobafoidplaaaW.PrintLast Go.Proofs.YtimobafoidplaaaW.PrintMore
attribute [local go_sem] max2_int min2_int max_two min_two max_three min_three max_four min_four   -- for this text's walks alone
set_option linter.unusedVariables false
set_option linter.unusedSimpArgs false

/-! ### water_Curtail: function 18 -/
def water_Curtail.j0 : Nat → Int → Bool → Int → Int → Int → Int → Int → Int → Int → Int → Int → Int → Int → Int → Int → Int → Int → Option (Int × Int × Int × Int × Int × Int × Int × Int × Int × Int × Int × Int × Int × Int × Int × Option Int)
 | 0, _, _, _, _, _, _, _, _, _, _, _, _, _, _, _, _, _ => none
 | k + 1, x2, x16, x371000, x371001, x371002, x371003, x371004, x371005, x371006, x371007, x371008, x371009, x371010, x371011, x371012, x371013, x371014 => if x16 = true then (some (0, 0, 0, 0, 0, 0, 0, 0, 0, 0, 0, 0, 0, 0, 0, some 7)) else (if x2 > x371009 then (some (0, 0, 0, 0, 0, 0, 0, 0, 0, 0, 0, 0, 0, 0, 0, some 3)) else (some (x371000, x371001, x371002, x371003, x371004, x371005, x371006, x371007, x371008, wrap64 (x371009 - x2), x371010, x371011, x371012, x371013, x371014, none)))
def water_Curtail.f (k : Nat) (a0_0 : Int) (a0_1 : Int) (a0_2 : Int) (a0_3 : Int) (a0_4 : Int) (a0_5 : Int) (a0_6 : Int) (a0_7 : Int) (a0_8 : Int) (a0_9 : Int) (a0_10 : Int) (a0_11 : Int) (a0_12 : Int) (a0_13 : Int) (a0_14 : Int) (a1 : Int) (a2 : Int) : Option (Int × Int × Int × Int × Int × Int × Int × Int × Int × Int × Int × Int × Int × Int × Int × Option Int) := (water_may_s.f a0_0 a0_1 a0_2 a0_3 a0_4 a0_5 a0_6 a0_7 a0_8 a0_9 a0_10 a0_11 a0_12 a0_13 a0_14 a1 a2).bind fun t372 => (if t372 = true then (if a0_9 = 0 then (water_Curtail.j0 k a2 true a0_0 a0_1 a0_2 a0_3 a0_4 a0_5 a0_6 a0_7 a0_8 a0_9 a0_10 a0_11 a0_12 a0_13 a0_14) else (water_Curtail.j0 k a2 (decide (a0_11 ≤ a1)) a0_0 a0_1 a0_2 a0_3 a0_4 a0_5 a0_6 a0_7 a0_8 a0_9 a0_10 a0_11 a0_12 a0_13 a0_14)) else (some (0, 0, 0, 0, 0, 0, 0, 0, 0, 0, 0, 0, 0, 0, 0, some 1)))
theorem water_Curtail.mono_l : ∀ k, (∀ y0 y1 y2 y3 y4 y5 y6 y7 y8 y9 y10 y11 y12 y13 y14 y15 y16, LeO (water_Curtail.j0 k y0 y1 y2 y3 y4 y5 y6 y7 y8 y9 y10 y11 y12 y13 y14 y15 y16) (water_Curtail.j0 (k + 1) y0 y1 y2 y3 y4 y5 y6 y7 y8 y9 y10 y11 y12 y13 y14 y15 y16))
 | 0 => fun _ _ _ _ _ _ _ _ _ _ _ _ _ _ _ _ _ r h => by simp [water_Curtail.j0] at h
 | k + 1 => by
  have ih0 := water_Curtail.mono_l k
  ·intro y0 y1 y2 y3 y4 y5 y6 y7 y8 y9 y10 y11 y12 y13 y14 y15 y16
   unfold water_Curtail.j0
   repeat' first
   | (with_reducible exact ih0 _ _ _ _ _ _ _ _ _ _ _ _ _ _ _ _ _)
   | (with_reducible exact LeO.refl _)
   | (with_reducible exact LeO.none _)
   | (with_reducible refine LeO.ite ?_ ?_)
   | (with_reducible refine LeO.bind ?_ (fun _ => ?_))
   | exact ih0 _ _ _ _ _ _ _ _ _ _ _ _ _ _ _ _ _
   | exact LeO.none _
   | refine LeO.ite ?_ ?_
   | refine LeO.bind ?_ (fun _ => ?_)
theorem water_Curtail.mono : ∀ a0 a1 a2 a3 a4 a5 a6 a7 a8 a9 a10 a11 a12 a13 a14 a15 a16 k, LeO (water_Curtail.f k a0 a1 a2 a3 a4 a5 a6 a7 a8 a9 a10 a11 a12 a13 a14 a15 a16) (water_Curtail.f (k + 1) a0 a1 a2 a3 a4 a5 a6 a7 a8 a9 a10 a11 a12 a13 a14 a15 a16) := by
 intro a0 a1 a2 a3 a4 a5 a6 a7 a8 a9 a10 a11 a12 a13 a14 a15 a16 k
 have ih0 := water_Curtail.mono_l k
 unfold water_Curtail.f
 repeat' first
   | (with_reducible exact ih0 _ _ _ _ _ _ _ _ _ _ _ _ _ _ _ _ _)
   | (with_reducible exact LeO.refl _)
   | (with_reducible exact LeO.none _)
   | (with_reducible refine LeO.ite ?_ ?_)
   | (with_reducible refine LeO.bind ?_ (fun _ => ?_))
   | exact ih0 _ _ _ _ _ _ _ _ _ _ _ _ _ _ _ _ _
   | exact LeO.none _
   | refine LeO.ite ?_ ?_
   | refine LeO.bind ?_ (fun _ => ?_)
set_option maxHeartbeats 8000000 in
set_option maxRecDepth 100000 in
theorem water_Curtail.calls (k : Nat) (a0_0 : Int) (a0_1 : Int) (a0_2 : Int) (a0_3 : Int) (a0_4 : Int) (a0_5 : Int) (a0_6 : Int) (a0_7 : Int) (a0_8 : Int) (a0_9 : Int) (a0_10 : Int) (a0_11 : Int) (a0_12 : Int) (a0_13 : Int) (a0_14 : Int) (a1 : Int) (a2 : Int) (r1 : Int) (r2 : Int) (r3 : Int) (r4 : Int) (r5 : Int) (r6 : Int) (r7 : Int) (r8 : Int) (r9 : Int) (r10 : Int) (r11 : Int) (r12 : Int) (r13 : Int) (r14 : Int) (r15 : Int) (r16 : Option Int) (w : World) (h : water_Curtail.f k a0_0 a0_1 a0_2 a0_3 a0_4 a0_5 a0_6 a0_7 a0_8 a0_9 a0_10 a0_11 a0_12 a0_13 a0_14 a1 a2 = some (r1, r2, r3, r4, r5, r6, r7, r8, r9, r10, r11, r12, r13, r14, r15, r16)) :
  Calls Try.prog 18 #[.agg #[.int .i64 a0_0, .int .i64 a0_1, .int .i64 a0_2, .int .i64 a0_3, .int .i64 a0_4, .int .i64 a0_5, .int .i64 a0_6, .int .i64 a0_7, .int .i64 a0_8, .int .i64 a0_9, .int .i64 a0_10, .int .i64 a0_11, .int .i64 a0_12, .int .i64 a0_13, .int .i64 a0_14], .int .i64 a1, .int .i64 a2] w fun e w' => e = .returned (.tuple #[.agg #[.int .i64 r1, .int .i64 r2, .int .i64 r3, .int .i64 r4, .int .i64 r5, .int .i64 r6, .int .i64 r7, .int .i64 r8, .int .i64 r9, .int .i64 r10, .int .i64 r11, .int .i64 r12, .int .i64 r13, .int .i64 r14, .int .i64 r15], errW r16]) ∧ Below w.heap.size w w' := by
 have hu25 := Try.underlying25
 have hu30 := Try.underlying30
 have hu34 := Try.underlying34
 have HB := ka (Below.refl w.heap.size w)
 have H : ((water_may_s.f a0_0 a0_1 a0_2 a0_3 a0_4 a0_5 a0_6 a0_7 a0_8 a0_9 a0_10 a0_11 a0_12 a0_13 a0_14 a1 a2).bind fun t372 => (if t372 = true then (if a0_9 = 0 then (water_Curtail.j0 k a2 true a0_0 a0_1 a0_2 a0_3 a0_4 a0_5 a0_6 a0_7 a0_8 a0_9 a0_10 a0_11 a0_12 a0_13 a0_14) else (water_Curtail.j0 k a2 (decide (a0_11 ≤ a1)) a0_0 a0_1 a0_2 a0_3 a0_4 a0_5 a0_6 a0_7 a0_8 a0_9 a0_10 a0_11 a0_12 a0_13 a0_14)) else (some (0, 0, 0, 0, 0, 0, 0, 0, 0, 0, 0, 0, 0, 0, 0, some 1)))) = some (r1, r2, r3, r4, r5, r6, r7, r8, r9, r10, r11, r12, r13, r14, r15, r16) := h
 clear h
 replace H := Option.bind_eq_some_iff.mp H
 obtain ⟨t372, A40, H⟩ := H
 replace H : (if t372 = true then (if a0_9 = 0 then (water_Curtail.j0 k a2 true a0_0 a0_1 a0_2 a0_3 a0_4 a0_5 a0_6 a0_7 a0_8 a0_9 a0_10 a0_11 a0_12 a0_13 a0_14) else (water_Curtail.j0 k a2 (decide (a0_11 ≤ a1)) a0_0 a0_1 a0_2 a0_3 a0_4 a0_5 a0_6 a0_7 a0_8 a0_9 a0_10 a0_11 a0_12 a0_13 a0_14)) else (some (0, 0, 0, 0, 0, 0, 0, 0, 0, 0, 0, 0, 0, 0, 0, some 1))) = some (r1, r2, r3, r4, r5, r6, r7, r8, r9, r10, r11, r12, r13, r14, r15, r16) := H
 have A4 := ka A40
 clear A40
 by_cases c5 : t372 = true
 ·subst c5
  have H1 : (if a0_9 = 0 then (water_Curtail.j0 k a2 true a0_0 a0_1 a0_2 a0_3 a0_4 a0_5 a0_6 a0_7 a0_8 a0_9 a0_10 a0_11 a0_12 a0_13 a0_14) else (water_Curtail.j0 k a2 (decide (a0_11 ≤ a1)) a0_0 a0_1 a0_2 a0_3 a0_4 a0_5 a0_6 a0_7 a0_8 a0_9 a0_10 a0_11 a0_12 a0_13 a0_14)) = some (r1, r2, r3, r4, r5, r6, r7, r8, r9, r10, r11, r12, r13, r14, r15, r16) := by rw [if_pos rfl] at H; exact H
  clear H
  have H := H1
  clear H1
  have HC6 := ka H
  clear H
  go_enter Try.func18, Try.ntmps18
  go_upto_region 3 with (first | ((with_reducible refine gate_dst (N := 3) rfl ?_); refine kx (N := 3) (cs := #[.int .i64 a0_0, .int .i64 a0_1, .int .i64 a0_2, .int .i64 a0_3, .int .i64 a0_4, .int .i64 a0_5, .int .i64 a0_6, .int .i64 a0_7, .int .i64 a0_8, .int .i64 a0_9, .int .i64 a0_10, .int .i64 a0_11, .int .i64 a0_12, .int .i64 a0_13, .int .i64 a0_14]) (t := 25) ?_; intro gb370 hg w7 hbox hb; have n0_ := ka (below_step (kw HB.out) hb); have n1_ := ka (hbox); have n2_ := ka ((by rw [hg]; exact (below_size (kw HB.out)) : w.heap.size ≤ gb370)); have n3_ := n2_; clear HB; have HB := n0_; have BK370 := n1_; have GW370 := n2_; have GE370 := n3_; clear n0_ n1_ n2_ n3_; clear hb hbox hg) | ((with_reducible refine gate_dst (N := 6) rfl ?_); refine kx (N := 6) (cs := #[.int .i64 0, .int .i64 0, .int .i64 0, .int .i64 0, .int .i64 0, .int .i64 0, .int .i64 0, .int .i64 0, .int .i64 0, .int .i64 0, .int .i64 0, .int .i64 0, .int .i64 0, .int .i64 0, .int .i64 0]) (t := 25) ?_; intro gb371 hg w8 hbox hb; have n0_ := ka (blk_below (g := gb370) (kz BK370.out) hb); have n1_ := ka (below_step (kw HB.out) hb); have n2_ := ka (hbox); have n3_ := ka ((by rw [hg]; exact (below_size (kw HB.out)) : w.heap.size ≤ gb371)); have n4_ := n3_; have n5_ := ka ((by rw [hg]; exact Nat.ne_of_lt (blk_lt (g := gb370) (kz BK370.out)) : gb370 ≠ gb371)); have n6_ := ka n5_.out.symm; clear BK370; clear HB; have BK370 := n0_; have HB := n1_; have BK371 := n2_; have GW371 := n3_; have GE371 := n4_; have NB370_371 := n5_; have NB371_370 := n6_; clear n0_ n1_ n2_ n3_ n4_ n5_ n6_; clear hb hbox hg; have hnb9 := NB370_371.out; have hnc9 := NB371_370.out; have hcz10 := blkAll15 BK370.out) | ((with_reducible refine gate_callee (f := 22) rfl ?_); refine kg (some 12) rfl rfl Try.func22 (by kernel_rfl) rfl #[.agg #[.int .i64 a0_0, .int .i64 a0_1, .int .i64 a0_2, .int .i64 a0_3, .int .i64 a0_4, .int .i64 a0_5, .int .i64 a0_6, .int .i64 a0_7, .int .i64 a0_8, .int .i64 a0_9, .int .i64 a0_10, .int .i64 a0_11, .int .i64 a0_12, .int .i64 a0_13, .int .i64 a0_14], .int .i64 a1, .int .i64 a2] rfl ?_; (with_reducible refine (water_may_s.calls a0_0 a0_1 a0_2 a0_3 a0_4 a0_5 a0_6 a0_7 a0_8 a0_9 a0_10 a0_11 a0_12 a0_13 a0_14 a1 a2 true _ A4.out).mono ?_); rintro e w11 ⟨rfl, hb⟩; refine ⟨_, rfl, ?_⟩; have n0_ := ka (blk_below (g := gb370) (kz BK370.out) hb); have n1_ := ka (blk_below (g := gb371) (kz BK371.out) hb); have n2_ := ka (below_step (kw HB.out) hb); clear BK370; clear BK371; clear HB; have BK370 := n0_; have BK371 := n1_; have HB := n2_; clear n0_ n1_ n2_; (try clear hb); (try clear hb2); (try clear hk); (try clear hi)) | ((with_reducible refine gate_load (T := 25) rfl ?_); first | refine load_event (g := gb370) rfl rfl rfl Try.underlying25 rfl (by (with_reducible repeat (first | apply kb1 | apply kb2 | apply kb3)); with_reducible exact BK370.out) (by kernel_rfl) ?_ | refine load_event (g := gb371) rfl rfl rfl Try.underlying25 rfl (by (with_reducible repeat (first | apply kb1 | apply kb2 | apply kb3)); with_reducible exact BK371.out) (by kernel_rfl) ?_) | ((with_reducible refine gate_store (T := 25) rfl ?_); first | (refine store_event (g := gb370) rfl rfl rfl rfl rfl (by (with_reducible repeat (first | apply kb1 | apply kb2 | apply kb3)); with_reducible exact BK370.out) (by kernel_rfl) (by rfl) (by rfl) ?_; intro w_370 eX eO eB; (try (replace BK371 := ka ((eO _ NB371_370.out).trans (by (with_reducible repeat (first | apply kb1 | apply kb2 | apply kb3)); with_reducible exact BK371.out)))); replace BK370 := ka eX; replace HB := ka (eB _ _ (kw HB.out) GE370.out); clear eX eO eB; (try have hz370 := blkAll15 BK370.out); (try have hz371 := blkAll15 BK371.out); (try have hy371 := NB371_370.out); (try have hx371 := NB370_371.out)) | (refine store_event (g := gb371) rfl rfl rfl rfl rfl (by (with_reducible repeat (first | apply kb1 | apply kb2 | apply kb3)); with_reducible exact BK371.out) (by kernel_rfl) (by rfl) (by rfl) ?_; intro w_371 eX eO eB; (try (replace BK370 := ka ((eO _ NB370_371.out).trans (by (with_reducible repeat (first | apply kb1 | apply kb2 | apply kb3)); with_reducible exact BK370.out)))); replace BK371 := ka eX; replace HB := ka (eB _ _ (kw HB.out) GE371.out); clear eX eO eB; (try have hz370 := blkAll15 BK370.out); (try have hz371 := blkAll15 BK371.out); (try have hy370 := NB370_371.out); (try have hx370 := NB371_370.out))))
  (try simp only [Act.put, List.setIfInBounds_toArray, List.set_cons_zero, List.set_cons_succ])
  go_cut [16] (fun v16 wc => ∃ (kq : Nat) (x16_5 : Bool), v16 = .bool x16_5 ∧ Aside0 (water_Curtail.j0 kq a2 x16_5 a0_0 a0_1 a0_2 a0_3 a0_4 a0_5 a0_6 a0_7 a0_8 a0_9 a0_10 a0_11 a0_12 a0_13 a0_14 = some (r1, r2, r3, r4, r5, r6, r7, r8, r9, r10, r11, r12, r13, r14, r15, r16)) ∧ Aside0 (kq ≤ k) ∧ Aside0 (wc.heap[gb370]? = some (.cells #[.int .i64 a0_0, .int .i64 a0_1, .int .i64 a0_2, .int .i64 a0_3, .int .i64 a0_4, .int .i64 a0_5, .int .i64 a0_6, .int .i64 a0_7, .int .i64 a0_8, .int .i64 a0_9, .int .i64 a0_10, .int .i64 a0_11, .int .i64 a0_12, .int .i64 a0_13, .int .i64 a0_14] 25 (0, 0))) ∧ Aside0 (wc.heap[gb371]? = some (.cells #[.int .i64 0, .int .i64 0, .int .i64 0, .int .i64 0, .int .i64 0, .int .i64 0, .int .i64 0, .int .i64 0, .int .i64 0, .int .i64 0, .int .i64 0, .int .i64 0, .int .i64 0, .int .i64 0, .int .i64 0] 25 (0, 0))) ∧ Aside0 (Below w.heap.size w wc))
  case first =>
   have H := HC6.out
   clear HC6
   by_cases c12 : a0_9 = 0
   ·rw [if_pos c12] at H
    have c12b0 : (a0_9 == 0) = true := beq_iff_eq.mpr c12
    have c12b1 : (a0_9 != 0) = false := bne_eq_false_iff_eq.mpr c12
    clear c12
    (first | rw [c12b0] | (simp only [i64_w, i32_w]; rw [c12b0]) | skip)
    have H' := ka H
    clear H
    have hnb13 := NB370_371.out
    have hnc13 := NB371_370.out
    have hcz14 := blkAll15 BK370.out
    go_wp2
    go_meet
    case rel => exact ⟨_, (true), (by first | rfl | (simp; done) | (simp [*]; done)), H', ⟨by first | omega | exact Nat.le_refl _⟩, ⟨by (with_reducible repeat (first | apply kb1 | apply kb2 | apply kb3)); exact BK370.out⟩, ⟨by (with_reducible repeat (first | apply kb1 | apply kb2 | apply kb3)); exact BK371.out⟩, ⟨by repeat (first | (with_reducible first | exact HB.out | apply kc1 | apply kc2 | apply kc3 | refine kc4 ?_ GE370.out | refine kc4 ?_ GE371.out) | exact HB.out)⟩⟩
   ·rw [if_neg c12] at H
    have c12b0 : (a0_9 == 0) = false := beq_eq_false_iff_ne.mpr c12
    have c12b1 : (a0_9 != 0) = true := bne_iff_ne.mpr c12
    (first | rw [c12b0] | (simp only [i64_w, i32_w]; rw [c12b0]) | skip)
    have H' := ka H
    clear H
    have hnb15 := NB370_371.out
    have hnc15 := NB371_370.out
    have hcz16 := blkAll15 BK370.out
    go_wp2
    go_meet
    case rel => exact ⟨_, (decide (a0_11 ≤ a1)), (by first | rfl | (simp; done) | (simp [*]; done)), H', ⟨by first | omega | exact Nat.le_refl _⟩, ⟨by (with_reducible repeat (first | apply kb1 | apply kb2 | apply kb3)); exact BK370.out⟩, ⟨by (with_reducible repeat (first | apply kb1 | apply kb2 | apply kb3)); exact BK371.out⟩, ⟨by repeat (first | (with_reducible first | exact HB.out | apply kc1 | apply kc2 | apply kc3 | refine kc4 ?_ GE370.out | refine kc4 ?_ GE371.out) | exact HB.out)⟩⟩
  case rest =>
   clear HC6
   try clear c1
   try clear c2
   try clear p2
   try clear c5
   try clear c9
   try clear c12
   try clear c12b0
   try clear c12b1
   try clear c13
   try clear c15
   try clear hcz10
   try clear hcz14
   try clear hcz16
   obtain ⟨kq, x16_5, rfl, HA, HJ5, BK370, BK371, HB⟩ := hcut
   cases kq with
   | zero => exact absurd HA.out (by simp [water_Curtail.j0])
   | succ kj5 =>
    have H := HA.out
    clear HA
    simp only [water_Curtail.j0] at H
    by_cases c17 : x16_5 = true
    ·subst c17
     have H1 : (some (0, 0, 0, 0, 0, 0, 0, 0, 0, 0, 0, 0, 0, 0, 0, some 7)) = some (r1, r2, r3, r4, r5, r6, r7, r8, r9, r10, r11, r12, r13, r14, r15, r16) := by rw [if_pos rfl] at H; exact H
     clear H
     have H := H1
     clear H1
     simp only [Option.some.injEq, Prod.mk.injEq] at H
     obtain ⟨rfl, rfl, rfl, rfl, rfl, rfl, rfl, rfl, rfl, rfl, rfl, rfl, rfl, rfl, rfl, rfl⟩ := H
     have hnb18 := NB371_370.out
     have hnc18 := NB370_371.out
     have hcz19 := blkAll15 BK371.out
     go_wp2
     refine bodyPost_ret (results_ct rfl _ _ gb371 25 #[.int .i64 0, .int .i64 0, .int .i64 0, .int .i64 0, .int .i64 0, .int .i64 0, .int .i64 0, .int .i64 0, .int .i64 0, .int .i64 0, .int .i64 0, .int .i64 0, .int .i64 0, .int .i64 0, .int .i64 0] (0, 0) _ rfl (by (with_reducible repeat (first | apply kb1 | apply kb2 | apply kb3 | apply blkPut15_14 | apply blkPut15_13 | apply blkPut15_12 | apply blkPut15_11 | apply blkPut15_10 | apply blkPut15_9 | apply blkPut15_8 | apply blkPut15_7 | apply blkPut15_6 | apply blkPut15_5 | apply blkPut15_4 | apply blkPut15_3 | apply blkPut15_2 | apply blkPut15_1 | apply blkPut15_0)); exact BK371.out) Try.underlying25 rfl (by kernel_rfl)) rfl ?_
     exact ⟨by first | rfl | (simp [errW_none, errW_some] <;> rfl) | (simp [*, errW_none, errW_some] <;> rfl), by repeat (first | (with_reducible first | exact HB.out | apply kc1 | apply kc2 | apply kc3 | refine kc4 ?_ GE370.out | refine kc4 ?_ GE371.out) | exact HB.out)⟩
    ·replace c17 := Bool.eq_false_iff.mpr c17
     subst c17
     have H1 : (if a2 > a0_9 then (some (0, 0, 0, 0, 0, 0, 0, 0, 0, 0, 0, 0, 0, 0, 0, some 3)) else (some (a0_0, a0_1, a0_2, a0_3, a0_4, a0_5, a0_6, a0_7, a0_8, wrap64 (a0_9 - a2), a0_10, a0_11, a0_12, a0_13, a0_14, none))) = some (r1, r2, r3, r4, r5, r6, r7, r8, r9, r10, r11, r12, r13, r14, r15, r16) := by rw [if_neg (show ¬ (false = true) by decide)] at H; exact H
     clear H
     have H := H1
     clear H1
     by_cases c20 : a2 > a0_9
     ·rw [if_pos c20] at H
      have c20b0 : decide (a0_9 < a2) = true := decide_eq_true c20
      clear c20
      simp only [Option.some.injEq, Prod.mk.injEq] at H
      obtain ⟨rfl, rfl, rfl, rfl, rfl, rfl, rfl, rfl, rfl, rfl, rfl, rfl, rfl, rfl, rfl, rfl⟩ := H
      have hnb21 := NB370_371.out
      have hnc21 := NB371_370.out
      have hcz22 := blkAll15 BK370.out
      have hcz23 := blkAll15 BK371.out
      go_wp2
      refine bodyPost_ret (results_ct rfl _ _ gb371 25 #[.int .i64 0, .int .i64 0, .int .i64 0, .int .i64 0, .int .i64 0, .int .i64 0, .int .i64 0, .int .i64 0, .int .i64 0, .int .i64 0, .int .i64 0, .int .i64 0, .int .i64 0, .int .i64 0, .int .i64 0] (0, 0) _ rfl (by (with_reducible repeat (first | apply kb1 | apply kb2 | apply kb3 | apply blkPut15_14 | apply blkPut15_13 | apply blkPut15_12 | apply blkPut15_11 | apply blkPut15_10 | apply blkPut15_9 | apply blkPut15_8 | apply blkPut15_7 | apply blkPut15_6 | apply blkPut15_5 | apply blkPut15_4 | apply blkPut15_3 | apply blkPut15_2 | apply blkPut15_1 | apply blkPut15_0)); exact BK371.out) Try.underlying25 rfl (by kernel_rfl)) rfl ?_
      exact ⟨by first | rfl | (simp [errW_none, errW_some] <;> rfl) | (simp [*, errW_none, errW_some] <;> rfl), by repeat (first | (with_reducible first | exact HB.out | apply kc1 | apply kc2 | apply kc3 | refine kc4 ?_ GE370.out | refine kc4 ?_ GE371.out) | exact HB.out)⟩
     ·rw [if_neg c20] at H
      have c20b0 : decide (a0_9 < a2) = false := decide_eq_false c20
      clear c20
      simp only [Option.some.injEq, Prod.mk.injEq] at H
      obtain ⟨rfl, rfl, rfl, rfl, rfl, rfl, rfl, rfl, rfl, rfl, rfl, rfl, rfl, rfl, rfl, rfl⟩ := H
      have hnb24 := NB370_371.out
      have hnc24 := NB371_370.out
      have hcz25 := blkAll15 BK370.out
      have hcz26 := blkAll15 BK371.out
      go_wp2
      refine bodyPost_ret (results_ct rfl _ _ gb371 25 #[.int .i64 a0_0, .int .i64 a0_1, .int .i64 a0_2, .int .i64 a0_3, .int .i64 a0_4, .int .i64 a0_5, .int .i64 a0_6, .int .i64 a0_7, .int .i64 a0_8, .int .i64 (wrap64 (a0_9 - a2)), .int .i64 a0_10, .int .i64 a0_11, .int .i64 a0_12, .int .i64 a0_13, .int .i64 a0_14] (0, 0) _ rfl (by (with_reducible repeat (first | apply kb1 | apply kb2 | apply kb3 | apply blkPut15_14 | apply blkPut15_13 | apply blkPut15_12 | apply blkPut15_11 | apply blkPut15_10 | apply blkPut15_9 | apply blkPut15_8 | apply blkPut15_7 | apply blkPut15_6 | apply blkPut15_5 | apply blkPut15_4 | apply blkPut15_3 | apply blkPut15_2 | apply blkPut15_1 | apply blkPut15_0 | refine kb4 ?_ NB371_370.out _)); exact BK371.out) Try.underlying25 rfl (by kernel_rfl)) rfl ?_
      exact ⟨by first | rfl | (simp [errW_none, errW_some] <;> rfl) | (simp [*, errW_none, errW_some] <;> rfl), by repeat (first | (with_reducible first | exact HB.out | apply kc1 | apply kc2 | apply kc3 | refine kc4 ?_ GE370.out | refine kc4 ?_ GE371.out) | exact HB.out)⟩
 ·replace c5 := Bool.eq_false_iff.mpr c5
  subst c5
  have H1 : (some (0, 0, 0, 0, 0, 0, 0, 0, 0, 0, 0, 0, 0, 0, 0, some 1)) = some (r1, r2, r3, r4, r5, r6, r7, r8, r9, r10, r11, r12, r13, r14, r15, r16) := by rw [if_neg (show ¬ (false = true) by decide)] at H; exact H
  clear H
  have H := H1
  clear H1
  simp only [Option.some.injEq, Prod.mk.injEq] at H
  obtain ⟨rfl, rfl, rfl, rfl, rfl, rfl, rfl, rfl, rfl, rfl, rfl, rfl, rfl, rfl, rfl, rfl⟩ := H
  go_enter Try.func18, Try.ntmps18
  go_wp2_with (first | ((with_reducible refine gate_dst (N := 3) rfl ?_); refine kx (N := 3) (cs := #[.int .i64 a0_0, .int .i64 a0_1, .int .i64 a0_2, .int .i64 a0_3, .int .i64 a0_4, .int .i64 a0_5, .int .i64 a0_6, .int .i64 a0_7, .int .i64 a0_8, .int .i64 a0_9, .int .i64 a0_10, .int .i64 a0_11, .int .i64 a0_12, .int .i64 a0_13, .int .i64 a0_14]) (t := 25) ?_; intro gb370 hg w27 hbox hb; have n0_ := ka (below_step (kw HB.out) hb); have n1_ := ka (hbox); have n2_ := ka ((by rw [hg]; exact (below_size (kw HB.out)) : w.heap.size ≤ gb370)); have n3_ := n2_; clear HB; have HB := n0_; have BK370 := n1_; have GW370 := n2_; have GE370 := n3_; clear n0_ n1_ n2_ n3_; clear hb hbox hg) | ((with_reducible refine gate_dst (N := 6) rfl ?_); refine kx (N := 6) (cs := #[.int .i64 0, .int .i64 0, .int .i64 0, .int .i64 0, .int .i64 0, .int .i64 0, .int .i64 0, .int .i64 0, .int .i64 0, .int .i64 0, .int .i64 0, .int .i64 0, .int .i64 0, .int .i64 0, .int .i64 0]) (t := 25) ?_; intro gb371 hg w28 hbox hb; have n0_ := ka (blk_below (g := gb370) (kz BK370.out) hb); have n1_ := ka (below_step (kw HB.out) hb); have n2_ := ka (hbox); have n3_ := ka ((by rw [hg]; exact (below_size (kw HB.out)) : w.heap.size ≤ gb371)); have n4_ := n3_; have n5_ := ka ((by rw [hg]; exact Nat.ne_of_lt (blk_lt (g := gb370) (kz BK370.out)) : gb370 ≠ gb371)); have n6_ := ka n5_.out.symm; clear BK370; clear HB; have BK370 := n0_; have HB := n1_; have BK371 := n2_; have GW371 := n3_; have GE371 := n4_; have NB370_371 := n5_; have NB371_370 := n6_; clear n0_ n1_ n2_ n3_ n4_ n5_ n6_; clear hb hbox hg; have hnb29 := NB370_371.out; have hnc29 := NB371_370.out; have hcz30 := blkAll15 BK370.out) | ((with_reducible refine gate_callee (f := 22) rfl ?_); refine kg (some 12) rfl rfl Try.func22 (by kernel_rfl) rfl #[.agg #[.int .i64 a0_0, .int .i64 a0_1, .int .i64 a0_2, .int .i64 a0_3, .int .i64 a0_4, .int .i64 a0_5, .int .i64 a0_6, .int .i64 a0_7, .int .i64 a0_8, .int .i64 a0_9, .int .i64 a0_10, .int .i64 a0_11, .int .i64 a0_12, .int .i64 a0_13, .int .i64 a0_14], .int .i64 a1, .int .i64 a2] rfl ?_; (with_reducible refine (water_may_s.calls a0_0 a0_1 a0_2 a0_3 a0_4 a0_5 a0_6 a0_7 a0_8 a0_9 a0_10 a0_11 a0_12 a0_13 a0_14 a1 a2 false _ A4.out).mono ?_); rintro e w31 ⟨rfl, hb⟩; refine ⟨_, rfl, ?_⟩; have n0_ := ka (blk_below (g := gb370) (kz BK370.out) hb); have n1_ := ka (blk_below (g := gb371) (kz BK371.out) hb); have n2_ := ka (below_step (kw HB.out) hb); clear BK370; clear BK371; clear HB; have BK370 := n0_; have BK371 := n1_; have HB := n2_; clear n0_ n1_ n2_; (try clear hb); (try clear hb2); (try clear hk); (try clear hi); have hcz32 := blkAll15 BK371.out) | ((with_reducible refine gate_load (T := 25) rfl ?_); first | refine load_event (g := gb370) rfl rfl rfl Try.underlying25 rfl (by (with_reducible repeat (first | apply kb1 | apply kb2 | apply kb3)); with_reducible exact BK370.out) (by kernel_rfl) ?_ | refine load_event (g := gb371) rfl rfl rfl Try.underlying25 rfl (by (with_reducible repeat (first | apply kb1 | apply kb2 | apply kb3)); with_reducible exact BK371.out) (by kernel_rfl) ?_) | ((with_reducible refine gate_store (T := 25) rfl ?_); first | (refine store_event (g := gb370) rfl rfl rfl rfl rfl (by (with_reducible repeat (first | apply kb1 | apply kb2 | apply kb3)); with_reducible exact BK370.out) (by kernel_rfl) (by rfl) (by rfl) ?_; intro w_370 eX eO eB; (try (replace BK371 := ka ((eO _ NB371_370.out).trans (by (with_reducible repeat (first | apply kb1 | apply kb2 | apply kb3)); with_reducible exact BK371.out)))); replace BK370 := ka eX; replace HB := ka (eB _ _ (kw HB.out) GE370.out); clear eX eO eB; (try have hz370 := blkAll15 BK370.out); (try have hz371 := blkAll15 BK371.out); (try have hy371 := NB371_370.out); (try have hx371 := NB370_371.out)) | (refine store_event (g := gb371) rfl rfl rfl rfl rfl (by (with_reducible repeat (first | apply kb1 | apply kb2 | apply kb3)); with_reducible exact BK371.out) (by kernel_rfl) (by rfl) (by rfl) ?_; intro w_371 eX eO eB; (try (replace BK370 := ka ((eO _ NB370_371.out).trans (by (with_reducible repeat (first | apply kb1 | apply kb2 | apply kb3)); with_reducible exact BK370.out)))); replace BK371 := ka eX; replace HB := ka (eB _ _ (kw HB.out) GE371.out); clear eX eO eB; (try have hz370 := blkAll15 BK370.out); (try have hz371 := blkAll15 BK371.out); (try have hy370 := NB370_371.out); (try have hx370 := NB371_370.out))))
  refine bodyPost_ret (results_ct rfl _ _ gb371 25 #[.int .i64 0, .int .i64 0, .int .i64 0, .int .i64 0, .int .i64 0, .int .i64 0, .int .i64 0, .int .i64 0, .int .i64 0, .int .i64 0, .int .i64 0, .int .i64 0, .int .i64 0, .int .i64 0, .int .i64 0] (0, 0) _ rfl (by (with_reducible repeat (first | apply kb1 | apply kb2 | apply kb3 | apply blkPut15_14 | apply blkPut15_13 | apply blkPut15_12 | apply blkPut15_11 | apply blkPut15_10 | apply blkPut15_9 | apply blkPut15_8 | apply blkPut15_7 | apply blkPut15_6 | apply blkPut15_5 | apply blkPut15_4 | apply blkPut15_3 | apply blkPut15_2 | apply blkPut15_1 | apply blkPut15_0)); exact BK371.out) Try.underlying25 rfl (by kernel_rfl)) rfl ?_
  exact ⟨by first | rfl | (simp [errW_none, errW_some] <;> rfl) | (simp [*, errW_none, errW_some] <;> rfl), by repeat (first | (with_reducible first | exact HB.out | apply kc1 | apply kc2 | apply kc3 | refine kc4 ?_ GE370.out | refine kc4 ?_ GE371.out) | exact HB.out)⟩

/-! ### water_Curtail_s: function 18, told plainly -/
theorem water_Curtail.tells (b r m f e i w fe g bal lvl du cnt sus late day a : Int) (h : (M.In r ∧ M.In f ∧ M.In fe ∧ M.In du) ∧ M.In day) (k : Nat) (hk : 1 ≤ k) : water_Curtail.f k b r m f e i w fe g bal lvl du cnt sus late day a = some (if M.askOk b r m f e i w fe g bal lvl du cnt sus late day a then (if bal = 0 ∨ du ≤ day then (0, 0, 0, 0, 0, 0, 0, 0, 0, 0, 0, 0, 0, 0, 0, some 7) else if a > bal then (0, 0, 0, 0, 0, 0, 0, 0, 0, 0, 0, 0, 0, 0, 0, some 3) else (b, r, m, f, e, i, w, fe, g, bal - a, lvl, du, cnt, sus, late, none)) else (0, 0, 0, 0, 0, 0, 0, 0, 0, 0, 0, 0, 0, 0, 0, some 1)) := by
 obtain ⟨k, rfl⟩ : ∃ z, k = z + 1 := ⟨k - 1, by omega⟩
 unfold water_Curtail.f
 rw [water_may_s.at_ ⟨h.1.1, h.1.2.1, h.1.2.2.1, h.1.2.2.2, h.2⟩, Option.bind_some]
 by_cases ha : M.askOk b r m f e i w fe g bal lvl du cnt sus late day a
 ·have hb := ha.1.2.2.1
  have h1 := hb.1
  have h2 := hb.2
  have h3 := ha.2.2.1
  rw [if_pos (decide_eq_true ha), if_pos ha]
  by_cases c : bal = 0
  ·rw [if_pos c, if_pos (.inl c)]
   simp only [water_Curtail.j0, if_true]
  ·rw [if_neg c]
   by_cases c2 : du ≤ day
   ·rw [decide_eq_true c2, if_pos (.inr c2)]
    simp only [water_Curtail.j0, if_true]
   ·rw [decide_eq_false c2, if_neg (fun hh => hh.elim c c2)]
    simp only [water_Curtail.j0, Bool.false_eq_true, if_false]
    by_cases c3 : a > bal
    ·rw [if_pos c3, if_pos c3]
    ·rw [if_neg c3, if_neg c3, M.w64_id (n := bal - a) (by omega) (by omega)]
 ·rw [if_neg (by simpa using ha), if_neg ha]
def water_Curtail_s.f (b r m f e i w fe g bal lvl du cnt sus late day a : Int) : Option (Int × Int × Int × Int × Int × Int × Int × Int × Int × Int × Int × Int × Int × Int × Int × Option Int) := if (M.In r ∧ M.In f ∧ M.In fe ∧ M.In du) ∧ M.In day then some (if M.askOk b r m f e i w fe g bal lvl du cnt sus late day a then (if bal = 0 ∨ du ≤ day then (0, 0, 0, 0, 0, 0, 0, 0, 0, 0, 0, 0, 0, 0, 0, some 7) else if a > bal then (0, 0, 0, 0, 0, 0, 0, 0, 0, 0, 0, 0, 0, 0, 0, some 3) else (b, r, m, f, e, i, w, fe, g, bal - a, lvl, du, cnt, sus, late, none)) else (0, 0, 0, 0, 0, 0, 0, 0, 0, 0, 0, 0, 0, 0, 0, some 1)) else none
theorem water_Curtail_s.calls (a0_0 : Int) (a0_1 : Int) (a0_2 : Int) (a0_3 : Int) (a0_4 : Int) (a0_5 : Int) (a0_6 : Int) (a0_7 : Int) (a0_8 : Int) (a0_9 : Int) (a0_10 : Int) (a0_11 : Int) (a0_12 : Int) (a0_13 : Int) (a0_14 : Int) (a1 : Int) (a2 : Int) (r1 : Int) (r2 : Int) (r3 : Int) (r4 : Int) (r5 : Int) (r6 : Int) (r7 : Int) (r8 : Int) (r9 : Int) (r10 : Int) (r11 : Int) (r12 : Int) (r13 : Int) (r14 : Int) (r15 : Int) (r16 : Option Int) (w : World) (h : water_Curtail_s.f a0_0 a0_1 a0_2 a0_3 a0_4 a0_5 a0_6 a0_7 a0_8 a0_9 a0_10 a0_11 a0_12 a0_13 a0_14 a1 a2 = some (r1, r2, r3, r4, r5, r6, r7, r8, r9, r10, r11, r12, r13, r14, r15, r16)) :
  Calls Try.prog 18 #[.agg #[.int .i64 a0_0, .int .i64 a0_1, .int .i64 a0_2, .int .i64 a0_3, .int .i64 a0_4, .int .i64 a0_5, .int .i64 a0_6, .int .i64 a0_7, .int .i64 a0_8, .int .i64 a0_9, .int .i64 a0_10, .int .i64 a0_11, .int .i64 a0_12, .int .i64 a0_13, .int .i64 a0_14], .int .i64 a1, .int .i64 a2] w fun e w' => e = .returned (.tuple #[.agg #[.int .i64 r1, .int .i64 r2, .int .i64 r3, .int .i64 r4, .int .i64 r5, .int .i64 r6, .int .i64 r7, .int .i64 r8, .int .i64 r9, .int .i64 r10, .int .i64 r11, .int .i64 r12, .int .i64 r13, .int .i64 r14, .int .i64 r15], errW r16]) ∧ Below w.heap.size w w' := by
 unfold water_Curtail_s.f at h
 split at h
 ·rename_i hr
  exact water_Curtail.calls (1) a0_0 a0_1 a0_2 a0_3 a0_4 a0_5 a0_6 a0_7 a0_8 a0_9 a0_10 a0_11 a0_12 a0_13 a0_14 a1 a2 r1 r2 r3 r4 r5 r6 r7 r8 r9 r10 r11 r12 r13 r14 r15 r16 w ((water_Curtail.tells a0_0 a0_1 a0_2 a0_3 a0_4 a0_5 a0_6 a0_7 a0_8 a0_9 a0_10 a0_11 a0_12 a0_13 a0_14 a1 a2 hr (1) (Nat.le_refl _)).trans h)
 ·cases h
theorem water_Curtail_s.at_ {b r m f e i w fe g bal lvl du cnt sus late day a : Int} (h : (M.In r ∧ M.In f ∧ M.In fe ∧ M.In du) ∧ M.In day) : water_Curtail_s.f b r m f e i w fe g bal lvl du cnt sus late day a = some (if M.askOk b r m f e i w fe g bal lvl du cnt sus late day a then (if bal = 0 ∨ du ≤ day then (0, 0, 0, 0, 0, 0, 0, 0, 0, 0, 0, 0, 0, 0, 0, some 7) else if a > bal then (0, 0, 0, 0, 0, 0, 0, 0, 0, 0, 0, 0, 0, 0, 0, some 3) else (b, r, m, f, e, i, w, fe, g, bal - a, lvl, du, cnt, sus, late, none)) else (0, 0, 0, 0, 0, 0, 0, 0, 0, 0, 0, 0, 0, 0, 0, some 1)) := by unfold water_Curtail_s.f; rw [if_pos h]

/-! ### trivetref13_later: function 26 -/
def trivetref13_later.f (a0 : Int) : Option (Int × Bool) := (trivetref04_Of_s.f a0).bind fun bt373 => ((trivetref04_Months_s.f bt373.1 bt373.2.1 bt373.2.2.1 1).bind fun bt378 => (if bt378.2.2.2 = true then ((trivetref04_Number_s.f bt378.1 bt378.2.1 bt378.2.2.1).bind fun t383 => (some (t383, true))) else (some (0, false))))
set_option maxHeartbeats 8000000 in
set_option maxRecDepth 100000 in
theorem trivetref13_later.calls (a0 : Int) (r1 : Int) (r2 : Bool) (w : World) (h : trivetref13_later.f a0 = some (r1, r2)) :
  Calls Try.prog 26 #[.int .i64 a0] w fun e w' => e = .returned (.tuple #[.int .i64 r1, .bool r2]) ∧ Below w.heap.size w w' := by
 have hu53 := Try.underlying53
 have HB := ka (Below.refl w.heap.size w)
 have H : ((trivetref04_Of_s.f a0).bind fun bt373 => ((trivetref04_Months_s.f bt373.1 bt373.2.1 bt373.2.2.1 1).bind fun bt378 => (if bt378.2.2.2 = true then ((trivetref04_Number_s.f bt378.1 bt378.2.1 bt378.2.2.1).bind fun t383 => (some (t383, true))) else (some (0, false))))) = some (r1, r2) := h
 clear h
 replace H := Option.bind_eq_some_iff.mp H
 obtain ⟨⟨t373, t374, t375, t376⟩, A20, H⟩ := H
 replace H : ((trivetref04_Months_s.f t373 t374 t375 1).bind fun bt378 => (if bt378.2.2.2 = true then ((trivetref04_Number_s.f bt378.1 bt378.2.1 bt378.2.2.1).bind fun t383 => (some (t383, true))) else (some (0, false)))) = some (r1, r2) := H
 have A2 := ka A20
 clear A20
 replace H := Option.bind_eq_some_iff.mp H
 obtain ⟨⟨t378, t379, t380, t381⟩, A30, H⟩ := H
 replace H : (if t381 = true then ((trivetref04_Number_s.f t378 t379 t380).bind fun t383 => (some (t383, true))) else (some (0, false))) = some (r1, r2) := H
 have A3 := ka A30
 clear A30
 by_cases c4 : t381 = true
 ·subst c4
  have H1 : ((trivetref04_Number_s.f t378 t379 t380).bind fun t383 => (some (t383, true))) = some (r1, r2) := by rw [if_pos rfl] at H; exact H
  clear H
  have H := H1
  clear H1
  replace H := Option.bind_eq_some_iff.mp H
  obtain ⟨t383, A50, H⟩ := H
  replace H : (some (t383, true)) = some (r1, r2) := H
  have A5 := ka A50
  clear A50
  simp only [Option.some.injEq, Prod.mk.injEq] at H
  obtain ⟨rfl, rfl⟩ := H
  go_enter Try.func26, Try.ntmps26
  go_wp2_with (first | ((with_reducible refine gate_callee (f := 24) rfl ?_); refine kg (some 10) rfl rfl Try.func24 (by kernel_rfl) rfl #[.int .i64 a0] rfl ?_; (with_reducible refine (trivetref04_Of_s.calls a0 t373 t374 t375 t376 _ A2.out).mono ?_); rintro e w6 ⟨rfl, hb⟩; refine ⟨_, rfl, ?_⟩; have n0_ := ka (below_step (kw HB.out) hb); clear HB; have HB := n0_; clear n0_; (try clear hb); (try clear hb2); (try clear hk); (try clear hi)) | ((with_reducible refine gate_dst (N := 4) rfl ?_); refine kx (N := 4) (cs := #[.int .i64 0, .int .i64 0, .int .i64 0]) (t := 53) ?_; intro gb377 hg w7 hbox hb; have n0_ := ka (below_step (kw HB.out) hb); have n1_ := ka (hbox); have n2_ := ka ((by rw [hg]; exact (below_size (kw HB.out)) : w.heap.size ≤ gb377)); have n3_ := n2_; clear HB; have HB := n0_; have BK377 := n1_; have GW377 := n2_; have GE377 := n3_; clear n0_ n1_ n2_ n3_; clear hb hbox hg; have hcz8 := blkAll3 BK377.out) | ((with_reducible refine gate_callee (f := 40) rfl ?_); refine kg (some 15) rfl rfl Try.func40 (by kernel_rfl) rfl #[.agg #[.int .i64 t373, .int .i64 t374, .int .i64 t375], .int .i64 1] rfl ?_; (with_reducible refine (trivetref04_Months_s.calls t373 t374 t375 1 t378 t379 t380 true _ A3.out).mono ?_); rintro e w9 ⟨rfl, hb⟩; refine ⟨_, rfl, ?_⟩; have n0_ := ka (blk_below (g := gb377) (o := .cells #[.int .i64 t373, .int .i64 t374, .int .i64 t375] 53 (0, 0)) (by (with_reducible repeat (first | apply kb1 | apply kb2 | apply kb3 | apply blkPut3_2 | apply blkPut3_1 | apply blkPut3_0)); exact BK377.out) hb); have n1_ := ka (below_step (kw HB.out) hb); clear BK377; clear HB; have BK377 := n0_; have HB := n1_; clear n0_ n1_; (try clear hb); (try clear hb2); (try clear hk); (try clear hi)) | ((with_reducible refine gate_dst (N := 6) rfl ?_); refine kx (N := 6) (cs := #[.int .i64 0, .int .i64 0, .int .i64 0]) (t := 53) ?_; intro gb382 hg w10 hbox hb; have n0_ := ka (blk_below (g := gb377) (kz BK377.out) hb); have n1_ := ka (below_step (kw HB.out) hb); have n2_ := ka (hbox); have n3_ := ka ((by rw [hg]; exact (below_size (kw HB.out)) : w.heap.size ≤ gb382)); have n4_ := n3_; have n5_ := ka ((by rw [hg]; exact Nat.ne_of_lt (blk_lt (g := gb377) (kz BK377.out)) : gb377 ≠ gb382)); have n6_ := ka n5_.out.symm; clear BK377; clear HB; have BK377 := n0_; have HB := n1_; have BK382 := n2_; have GW382 := n3_; have GE382 := n4_; have NB377_382 := n5_; have NB382_377 := n6_; clear n0_ n1_ n2_ n3_ n4_ n5_ n6_; clear hb hbox hg; have hnb11 := NB382_377.out; have hnc11 := NB377_382.out; have hcz12 := blkAll3 BK382.out) | ((with_reducible refine gate_callee (f := 37) rfl ?_); refine kg (some 21) rfl rfl Try.func37 (by kernel_rfl) rfl #[.agg #[.int .i64 t378, .int .i64 t379, .int .i64 t380]] rfl ?_; (with_reducible refine (trivetref04_Number_s.calls t378 t379 t380 t383 _ A5.out).mono ?_); rintro e w13 ⟨rfl, hb⟩; refine ⟨_, rfl, ?_⟩; have n0_ := ka (blk_below (g := gb377) (o := .cells #[.int .i64 t373, .int .i64 t374, .int .i64 t375] 53 (0, 0)) (by (with_reducible repeat (first | apply kb1 | apply kb2 | apply kb3 | refine kb4 ?_ NB377_382.out _)); exact BK377.out) hb); have n1_ := ka (blk_below (g := gb382) (o := .cells #[.int .i64 t378, .int .i64 t379, .int .i64 t380] 53 (0, 0)) (by (with_reducible repeat (first | apply kb1 | apply kb2 | apply kb3 | apply blkPut3_2 | apply blkPut3_1 | apply blkPut3_0)); exact BK382.out) hb); have n2_ := ka (below_step (kw HB.out) hb); clear BK377; clear BK382; clear HB; have BK377 := n0_; have BK382 := n1_; have HB := n2_; clear n0_ n1_ n2_; (try clear hb); (try clear hb2); (try clear hk); (try clear hi)))
  go_ret2
  exact ⟨by first | rfl | (simp [errW_none, errW_some] <;> rfl) | (simp [*, errW_none, errW_some] <;> rfl), by repeat (first | (with_reducible first | exact HB.out | apply kc1 | apply kc2 | apply kc3 | refine kc4 ?_ GE377.out | refine kc4 ?_ GE382.out) | exact HB.out)⟩
 ·replace c4 := Bool.eq_false_iff.mpr c4
  subst c4
  have H1 : (some (0, false)) = some (r1, r2) := by rw [if_neg (show ¬ (false = true) by decide)] at H; exact H
  clear H
  have H := H1
  clear H1
  simp only [Option.some.injEq, Prod.mk.injEq] at H
  obtain ⟨rfl, rfl⟩ := H
  go_enter Try.func26, Try.ntmps26
  go_wp2_with (first | ((with_reducible refine gate_callee (f := 24) rfl ?_); refine kg (some 10) rfl rfl Try.func24 (by kernel_rfl) rfl #[.int .i64 a0] rfl ?_; (with_reducible refine (trivetref04_Of_s.calls a0 t373 t374 t375 t376 _ A2.out).mono ?_); rintro e w14 ⟨rfl, hb⟩; refine ⟨_, rfl, ?_⟩; have n0_ := ka (below_step (kw HB.out) hb); clear HB; have HB := n0_; clear n0_; (try clear hb); (try clear hb2); (try clear hk); (try clear hi)) | ((with_reducible refine gate_dst (N := 4) rfl ?_); refine kx (N := 4) (cs := #[.int .i64 0, .int .i64 0, .int .i64 0]) (t := 53) ?_; intro gb377 hg w15 hbox hb; have n0_ := ka (below_step (kw HB.out) hb); have n1_ := ka (hbox); have n2_ := ka ((by rw [hg]; exact (below_size (kw HB.out)) : w.heap.size ≤ gb377)); have n3_ := n2_; clear HB; have HB := n0_; have BK377 := n1_; have GW377 := n2_; have GE377 := n3_; clear n0_ n1_ n2_ n3_; clear hb hbox hg; have hcz16 := blkAll3 BK377.out) | ((with_reducible refine gate_callee (f := 40) rfl ?_); refine kg (some 15) rfl rfl Try.func40 (by kernel_rfl) rfl #[.agg #[.int .i64 t373, .int .i64 t374, .int .i64 t375], .int .i64 1] rfl ?_; (with_reducible refine (trivetref04_Months_s.calls t373 t374 t375 1 t378 t379 t380 false _ A3.out).mono ?_); rintro e w17 ⟨rfl, hb⟩; refine ⟨_, rfl, ?_⟩; have n0_ := ka (blk_below (g := gb377) (o := .cells #[.int .i64 t373, .int .i64 t374, .int .i64 t375] 53 (0, 0)) (by (with_reducible repeat (first | apply kb1 | apply kb2 | apply kb3 | apply blkPut3_2 | apply blkPut3_1 | apply blkPut3_0)); exact BK377.out) hb); have n1_ := ka (below_step (kw HB.out) hb); clear BK377; clear HB; have BK377 := n0_; have HB := n1_; clear n0_ n1_; (try clear hb); (try clear hb2); (try clear hk); (try clear hi)) | ((with_reducible refine gate_dst (N := 6) rfl ?_); refine kx (N := 6) (cs := #[.int .i64 0, .int .i64 0, .int .i64 0]) (t := 53) ?_; intro gb382 hg w18 hbox hb; have n0_ := ka (blk_below (g := gb377) (kz BK377.out) hb); have n1_ := ka (below_step (kw HB.out) hb); have n2_ := ka (hbox); have n3_ := ka ((by rw [hg]; exact (below_size (kw HB.out)) : w.heap.size ≤ gb382)); have n4_ := n3_; have n5_ := ka ((by rw [hg]; exact Nat.ne_of_lt (blk_lt (g := gb377) (kz BK377.out)) : gb377 ≠ gb382)); have n6_ := ka n5_.out.symm; clear BK377; clear HB; have BK377 := n0_; have HB := n1_; have BK382 := n2_; have GW382 := n3_; have GE382 := n4_; have NB377_382 := n5_; have NB382_377 := n6_; clear n0_ n1_ n2_ n3_ n4_ n5_ n6_; clear hb hbox hg; have hnb19 := NB382_377.out; have hnc19 := NB377_382.out; have hcz20 := blkAll3 BK382.out))
  go_ret2
  exact ⟨by first | rfl | (simp [errW_none, errW_some] <;> rfl) | (simp [*, errW_none, errW_some] <;> rfl), by repeat (first | (with_reducible first | exact HB.out | apply kc1 | apply kc2 | apply kc3 | refine kc4 ?_ GE377.out | refine kc4 ?_ GE382.out) | exact HB.out)⟩

/-! ### trivetref13_later_s: function 26, told plainly -/
theorem trivetref13_later.tells (d : Int) (h : M.firstOk d) : trivetref13_later.f d = some (if M.more d then (M.due d 1, true) else (0, false)) := by
 have fd := M.first_date h
 unfold trivetref13_later.f
 rw [trivetref04_Of_s.yes ⟨h.1, h.2.1⟩, Option.bind_some]
 simp only []
 rw [h.2.2]
 have e1 : M.mt (M.yr d) (M.mo d) = M.m0 d := rfl
 by_cases hm : M.more d
 ·have md := M.month_date (f := d) (n := 1) hm
  rw [trivetref04_Months_s.yes fd.1 ⟨by omega, by omega, hm⟩, Option.bind_some, if_pos (show (true = true) from rfl)]
  simp only []
  rw [e1, md.2.2, trivetref04_Number_s.yes md.1, Option.bind_some, md.2.1, if_pos hm]
  rfl
 ·rw [trivetref04_Months_s.no fd.1 (fun hh => hm hh.2.2), Option.bind_some, if_neg hm]
  rfl
def trivetref13_later_s.f (d : Int) : Option (Int × Bool) := if M.firstOk d then some (if M.more d then (M.due d 1, true) else (0, false)) else none
theorem trivetref13_later_s.calls (a0 : Int) (r1 : Int) (r2 : Bool) (w : World) (h : trivetref13_later_s.f a0 = some (r1, r2)) :
  Calls Try.prog 26 #[.int .i64 a0] w fun e w' => e = .returned (.tuple #[.int .i64 r1, .bool r2]) ∧ Below w.heap.size w w' := by
 unfold trivetref13_later_s.f at h
 split at h
 ·rename_i hr
  exact trivetref13_later.calls a0 r1 r2 w ((trivetref13_later.tells a0 hr).trans h)
 ·cases h
theorem trivetref13_later_s.at_ {d : Int} (h : M.firstOk d) : trivetref13_later_s.f d = some (if M.more d then (M.due d 1, true) else (0, false)) := by unfold trivetref13_later_s.f; rw [if_pos h]

/-! ### trivetref02_Month: function 31 -/
def trivetref02_Month.f (a0 : Int) (a1 : Int) : Option (Int) := if (Int.tmod (wrap64 (a0 * a1)) 12000000) > 6000000 then (some (wrap64 ((wrap64 (Int.tdiv (wrap64 (a0 * a1)) 12000000)) + 1))) else (if (Int.tmod (wrap64 (a0 * a1)) 12000000) = 6000000 then (if (Int.tmod (wrap64 (Int.tdiv (wrap64 (a0 * a1)) 12000000)) 2) = 1 then (some (wrap64 ((wrap64 (Int.tdiv (wrap64 (a0 * a1)) 12000000)) + 1))) else (some (wrap64 (Int.tdiv (wrap64 (a0 * a1)) 12000000)))) else (some (wrap64 (Int.tdiv (wrap64 (a0 * a1)) 12000000))))
set_option maxHeartbeats 8000000 in
set_option maxRecDepth 100000 in
theorem trivetref02_Month.calls (a0 : Int) (a1 : Int) (r : Int) (w : World) (h : trivetref02_Month.f a0 a1 = some r) :
  Calls Try.prog 31 #[.int .i64 a0, .int .i64 a1] w fun e w' => e = .returned (.int .i64 r) ∧ Drawn0 w w' := by
 have H : (if (Int.tmod (wrap64 (a0 * a1)) 12000000) > 6000000 then (some (wrap64 ((wrap64 (Int.tdiv (wrap64 (a0 * a1)) 12000000)) + 1))) else (if (Int.tmod (wrap64 (a0 * a1)) 12000000) = 6000000 then (if (Int.tmod (wrap64 (Int.tdiv (wrap64 (a0 * a1)) 12000000)) 2) = 1 then (some (wrap64 ((wrap64 (Int.tdiv (wrap64 (a0 * a1)) 12000000)) + 1))) else (some (wrap64 (Int.tdiv (wrap64 (a0 * a1)) 12000000)))) else (some (wrap64 (Int.tdiv (wrap64 (a0 * a1)) 12000000))))) = some r := h
 clear h
 by_cases c3 : (Int.tmod (wrap64 (a0 * a1)) 12000000) > 6000000
 ·rw [if_pos c3] at H
  have c3b0 : decide (6000000 < (Int.tmod (wrap64 (a0 * a1)) 12000000)) = true := decide_eq_true c3
  clear c3
  obtain rfl := Option.some.inj H
  go_enter Try.func31, Try.ntmps31
  go_wp2
  go_ret
  exact ⟨by first | rfl | (simp; done) | (simp [*]; done), by repeat (first | exact Drawn0.refl _ | apply Drawn0.step)⟩
 ·rw [if_neg c3] at H
  have c3b0 : decide (6000000 < (Int.tmod (wrap64 (a0 * a1)) 12000000)) = false := decide_eq_false c3
  clear c3
  by_cases c4 : (Int.tmod (wrap64 (a0 * a1)) 12000000) = 6000000
  ·rw [if_pos c4] at H
   have c4b0 : ((Int.tmod (wrap64 (a0 * a1)) 12000000) == 6000000) = true := beq_iff_eq.mpr c4
   have c4b1 : ((Int.tmod (wrap64 (a0 * a1)) 12000000) != 6000000) = false := bne_eq_false_iff_eq.mpr c4
   clear c4
   by_cases c5 : (Int.tmod (wrap64 (Int.tdiv (wrap64 (a0 * a1)) 12000000)) 2) = 1
   ·rw [if_pos c5] at H
    have c5b0 : ((Int.tmod (wrap64 (Int.tdiv (wrap64 (a0 * a1)) 12000000)) 2) == 1) = true := beq_iff_eq.mpr c5
    have c5b1 : ((Int.tmod (wrap64 (Int.tdiv (wrap64 (a0 * a1)) 12000000)) 2) != 1) = false := bne_eq_false_iff_eq.mpr c5
    clear c5
    obtain rfl := Option.some.inj H
    go_enter Try.func31, Try.ntmps31
    go_wp2
    go_ret
    exact ⟨by first | rfl | (simp; done) | (simp [*]; done), by repeat (first | exact Drawn0.refl _ | apply Drawn0.step)⟩
   ·rw [if_neg c5] at H
    have c5b0 : ((Int.tmod (wrap64 (Int.tdiv (wrap64 (a0 * a1)) 12000000)) 2) == 1) = false := beq_eq_false_iff_ne.mpr c5
    have c5b1 : ((Int.tmod (wrap64 (Int.tdiv (wrap64 (a0 * a1)) 12000000)) 2) != 1) = true := bne_iff_ne.mpr c5
    obtain rfl := Option.some.inj H
    go_enter Try.func31, Try.ntmps31
    go_wp2
    go_ret
    exact ⟨by first | rfl | (simp; done) | (simp [*]; done), by repeat (first | exact Drawn0.refl _ | apply Drawn0.step)⟩
  ·rw [if_neg c4] at H
   have c4b0 : ((Int.tmod (wrap64 (a0 * a1)) 12000000) == 6000000) = false := beq_eq_false_iff_ne.mpr c4
   have c4b1 : ((Int.tmod (wrap64 (a0 * a1)) 12000000) != 6000000) = true := bne_iff_ne.mpr c4
   obtain rfl := Option.some.inj H
   go_enter Try.func31, Try.ntmps31
   go_wp2
   go_ret
   exact ⟨by first | rfl | (simp; done) | (simp [*]; done), by repeat (first | exact Drawn0.refl _ | apply Drawn0.step)⟩

/-! ### trivetref02_Month_s: function 31, told plainly -/
theorem trivetref02_Month.tells (b r : Int) (h : M.may b r) : trivetref02_Month.f b r = some (M.month b r) := by
 have hp := M.prod_bd h
 unfold trivetref02_Month.f M.month
 rw [M.quo4 _ _ (by decide), M.w64_id (n := b * r) (by omega) (by omega), M.tdivu hp.1, M.tmodu hp.1, M.w64_id (n := b * r / 12000000) (by omega) (by omega), M.tmodu (a := b * r / 12000000) (by omega), M.w64_id (n := b * r / 12000000 + 1) (by omega) (by omega)]
 generalize b * r = n at *
 by_cases h1 : n % 12000000 > 6000000
 ·rw [if_pos h1, if_pos (.inl (by omega))]
 ·rw [if_neg h1]
  by_cases h2 : n % 12000000 = 6000000
  ·rw [if_pos h2]
   by_cases h3 : n / 12000000 % 2 = 1
   ·rw [if_pos h3, if_pos (.inr ⟨by omega, h3⟩)]
   ·rw [if_neg h3, if_neg (by omega), Int.add_zero]
  ·rw [if_neg h2, if_neg (by omega), Int.add_zero]
def trivetref02_Month_s.f (b r : Int) : Option Int := if M.may b r then some (M.month b r) else none
theorem trivetref02_Month_s.calls (a0 : Int) (a1 : Int) (r : Int) (w : World) (h : trivetref02_Month_s.f a0 a1 = some r) :
  Calls Try.prog 31 #[.int .i64 a0, .int .i64 a1] w fun e w' => e = .returned (.int .i64 r) ∧ Drawn0 w w' := by
 unfold trivetref02_Month_s.f at h
 split at h
 ·rename_i hr
  exact trivetref02_Month.calls a0 a1 r w ((trivetref02_Month.tells a0 a1 hr).trans h)
 ·cases h
theorem trivetref02_Month_s.yes {b r : Int} (h : M.may b r) : trivetref02_Month_s.f b r = some (M.month b r) := by unfold trivetref02_Month_s.f; rw [if_pos h]

/-! ### trivetref13_Payoff: function 19 -/
def trivetref13_Payoff.l0 : Nat → Int → Int → Int → Int → Bool → Option (Int)
 | 0, _, _, _, _, _ => none
 | k + 1, x1, x5, x6, x7, x8 => if x8 = true then (if x7 ≤ x1 then ((trivetref13_later_s.f x7).bind fun bt386 => (trivetref13_Payoff.l0 k x1 (wrap64 (x5 + x6)) x6 bt386.1 bt386.2)) else (some (wrap64 (x5 + x6)))) else (some (wrap64 (x5 + x6)))
def trivetref13_Payoff.f (k : Nat) (a0_0 : Int) (a0_1 : Int) (a0_2 : Int) (a0_3 : Int) (a0_4 : Int) (a0_5 : Int) (a0_6 : Int) (a0_7 : Int) (a0_8 : Int) (a0_9 : Int) (a0_10 : Int) (a0_11 : Int) (a0_12 : Int) (a0_13 : Int) (a0_14 : Int) (a1 : Int) : Option (Int) := (trivetref02_Month_s.f a0_9 a0_1).bind fun t385 => (trivetref13_Payoff.l0 k a1 (wrap64 (a0_9 + a0_14)) t385 a0_11 true)
theorem trivetref13_Payoff.mono_l : ∀ k, (∀ y0 y1 y2 y3 y4, LeO (trivetref13_Payoff.l0 k y0 y1 y2 y3 y4) (trivetref13_Payoff.l0 (k + 1) y0 y1 y2 y3 y4))
 | 0 => fun _ _ _ _ _ r h => by simp [trivetref13_Payoff.l0] at h
 | k + 1 => by
  have ih0 := trivetref13_Payoff.mono_l k
  ·intro y0 y1 y2 y3 y4
   unfold trivetref13_Payoff.l0
   repeat' first
   | (with_reducible exact ih0 _ _ _ _ _)
   | (with_reducible exact LeO.refl _)
   | (with_reducible exact LeO.none _)
   | (with_reducible refine LeO.ite ?_ ?_)
   | (with_reducible refine LeO.bind ?_ (fun _ => ?_))
   | exact ih0 _ _ _ _ _
   | exact LeO.none _
   | refine LeO.ite ?_ ?_
   | refine LeO.bind ?_ (fun _ => ?_)
theorem trivetref13_Payoff.mono : ∀ a0 a1 a2 a3 a4 a5 a6 a7 a8 a9 a10 a11 a12 a13 a14 a15 k, LeO (trivetref13_Payoff.f k a0 a1 a2 a3 a4 a5 a6 a7 a8 a9 a10 a11 a12 a13 a14 a15) (trivetref13_Payoff.f (k + 1) a0 a1 a2 a3 a4 a5 a6 a7 a8 a9 a10 a11 a12 a13 a14 a15) := by
 intro a0 a1 a2 a3 a4 a5 a6 a7 a8 a9 a10 a11 a12 a13 a14 a15 k
 have ih0 := trivetref13_Payoff.mono_l k
 unfold trivetref13_Payoff.f
 repeat' first
   | (with_reducible exact ih0 _ _ _ _ _)
   | (with_reducible exact LeO.refl _)
   | (with_reducible exact LeO.none _)
   | (with_reducible refine LeO.ite ?_ ?_)
   | (with_reducible refine LeO.bind ?_ (fun _ => ?_))
   | exact ih0 _ _ _ _ _
   | exact LeO.none _
   | refine LeO.ite ?_ ?_
   | refine LeO.bind ?_ (fun _ => ?_)
set_option maxHeartbeats 8000000 in
set_option maxRecDepth 100000 in
theorem trivetref13_Payoff.calls (k : Nat) (a0_0 : Int) (a0_1 : Int) (a0_2 : Int) (a0_3 : Int) (a0_4 : Int) (a0_5 : Int) (a0_6 : Int) (a0_7 : Int) (a0_8 : Int) (a0_9 : Int) (a0_10 : Int) (a0_11 : Int) (a0_12 : Int) (a0_13 : Int) (a0_14 : Int) (a1 : Int) (r : Int) (w : World) (h : trivetref13_Payoff.f k a0_0 a0_1 a0_2 a0_3 a0_4 a0_5 a0_6 a0_7 a0_8 a0_9 a0_10 a0_11 a0_12 a0_13 a0_14 a1 = some r) :
  Calls Try.prog 19 #[.agg #[.int .i64 a0_0, .int .i64 a0_1, .int .i64 a0_2, .int .i64 a0_3, .int .i64 a0_4, .int .i64 a0_5, .int .i64 a0_6, .int .i64 a0_7, .int .i64 a0_8, .int .i64 a0_9, .int .i64 a0_10, .int .i64 a0_11, .int .i64 a0_12, .int .i64 a0_13, .int .i64 a0_14], .int .i64 a1] w fun e w' => e = .returned (.int .i64 r) ∧ Below w.heap.size w w' := by
 have hu25 := Try.underlying25
 have HB := ka (Below.refl w.heap.size w)
 have H : ((trivetref02_Month_s.f a0_9 a0_1).bind fun t385 => (trivetref13_Payoff.l0 k a1 (wrap64 (a0_9 + a0_14)) t385 a0_11 true)) = some r := h
 clear h
 replace H := Option.bind_eq_some_iff.mp H
 obtain ⟨t385, A30, H⟩ := H
 replace H : (trivetref13_Payoff.l0 k a1 (wrap64 (a0_9 + a0_14)) t385 a0_11 true) = some r := H
 have A3 := ka A30
 clear A30
 have H' := ka H
 clear H
 go_enter Try.func19, Try.ntmps19
 go_wp2_with (first | ((with_reducible refine gate_dst (N := 2) rfl ?_); refine kx (N := 2) (cs := #[.int .i64 a0_0, .int .i64 a0_1, .int .i64 a0_2, .int .i64 a0_3, .int .i64 a0_4, .int .i64 a0_5, .int .i64 a0_6, .int .i64 a0_7, .int .i64 a0_8, .int .i64 a0_9, .int .i64 a0_10, .int .i64 a0_11, .int .i64 a0_12, .int .i64 a0_13, .int .i64 a0_14]) (t := 25) ?_; intro gb384 hg w4 hbox hb; have n0_ := ka (below_step (kw HB.out) hb); have n1_ := ka (hbox); have n2_ := ka ((by rw [hg]; exact (below_size (kw HB.out)) : w.heap.size ≤ gb384)); have n3_ := n2_; clear HB; have HB := n0_; have BK384 := n1_; have GW384 := n2_; have GE384 := n3_; clear n0_ n1_ n2_ n3_; clear hb hbox hg; have hcz5 := blkAll15 BK384.out) | ((with_reducible refine gate_callee (f := 31) rfl ?_); refine kg (some 19) rfl rfl Try.func31 (by kernel_rfl) rfl #[.int .i64 a0_9, .int .i64 a0_1] rfl ?_; (with_reducible refine (trivetref02_Month_s.calls a0_9 a0_1 t385 _ A3.out).mono ?_); rintro e w' ⟨rfl, ⟨nd, rfl⟩⟩; refine ⟨_, rfl, ?_⟩))
 (try simp only [Act.put, List.setIfInBounds_toArray, List.set_cons_zero, List.set_cons_succ])
 go_loopg [5, 7, 8] k (fun kq v5 v7 v8 w' => ∃ (x5_1 : Int) (x7_1 : Int) (x8_1 : Bool), v5 = .int .i64 x5_1 ∧ v7 = .int .i64 x7_1 ∧ v8 = .bool x8_1 ∧ Aside0 (trivetref13_Payoff.l0 kq a1 x5_1 t385 x7_1 x8_1 = some r) ∧ Aside0 (kq ≤ k) ∧ Aside0 (w'.heap[gb384]? = some (.cells #[.int .i64 a0_0, .int .i64 a0_1, .int .i64 a0_2, .int .i64 a0_3, .int .i64 a0_4, .int .i64 a0_5, .int .i64 a0_6, .int .i64 a0_7, .int .i64 a0_8, .int .i64 a0_9, .int .i64 a0_10, .int .i64 a0_11, .int .i64 a0_12, .int .i64 a0_13, .int .i64 a0_14] 25 (0, 0))) ∧ Aside0 (Below w.heap.size w w'))
 case atStart => exact ⟨(wrap64 (a0_9 + a0_14)), (a0_11), (true), (by first | rfl | (simp; done) | (simp [*]; done)), (by first | rfl | (simp; done) | (simp [*]; done)), (by first | rfl | (simp; done) | (simp [*]; done)), H', ⟨Nat.le_refl _⟩, ⟨by (with_reducible repeat (first | apply kb1 | apply kb2 | apply kb3)); exact BK384.out⟩, ⟨by repeat (first | (with_reducible first | exact HB.out | apply kc1 | apply kc2 | apply kc3 | refine kc4 ?_ GE384.out) | exact HB.out)⟩⟩
 case round =>
  clear H'
  try clear c1
  try clear p2
  try clear c3
  try clear hcz5
  obtain ⟨x5_1, x7_1, x8_1, rfl, rfl, rfl, HA, HK1, BK384, HB⟩ := hrel
  cases gk with
  | zero => exact absurd HA.out (by simp [trivetref13_Payoff.l0])
  | succ k1 =>
   have H := HA.out
   clear HA
   simp only [trivetref13_Payoff.l0] at H
   by_cases c6 : x8_1 = true
   ·subst c6
    have H1 : (if x7_1 ≤ a1 then ((trivetref13_later_s.f x7_1).bind fun bt386 => (trivetref13_Payoff.l0 k1 a1 (wrap64 (x5_1 + t385)) t385 bt386.1 bt386.2)) else (some (wrap64 (x5_1 + t385)))) = some r := by rw [if_pos rfl] at H; exact H
    clear H
    have H := H1
    clear H1
    by_cases c7 : x7_1 ≤ a1
    ·rw [if_pos c7] at H
     have c7b0 : decide (x7_1 ≤ a1) = true := decide_eq_true c7
     clear c7
     replace H := Option.bind_eq_some_iff.mp H
     obtain ⟨⟨t386, t387⟩, A80, H⟩ := H
     replace H : (trivetref13_Payoff.l0 k1 a1 (wrap64 (x5_1 + t385)) t385 t386 t387) = some r := H
     have A8 := ka A80
     clear A80
     have H' := ka H
     clear H
     go_wp2_with (first | ((with_reducible refine gate_callee (f := 26) rfl ?_); refine kg (some 33) rfl rfl Try.func26 (by kernel_rfl) rfl #[.int .i64 x7_1] rfl ?_; (with_reducible refine (trivetref13_later_s.calls x7_1 t386 t387 _ A8.out).mono ?_); rintro e w9 ⟨rfl, hb⟩; refine ⟨_, rfl, ?_⟩; have n0_ := ka (blk_below (g := gb384) (kz BK384.out) hb); have n1_ := ka (below_step (kw HB.out) hb); clear BK384; clear HB; have BK384 := n0_; have HB := n1_; clear n0_ n1_; (try clear hb); (try clear hb2); (try clear hk); (try clear hi)))
     go_roundg k1
     case measure => have := HK1.out; omega
     case rel => exact ⟨(wrap64 (x5_1 + t385)), (t386), (t387), (by first | rfl | (simp; done) | (simp [*]; done)), (by first | rfl | (simp; done) | (simp [*]; done)), (by first | rfl | (simp; done) | (simp [*]; done)), H', ⟨by have := HK1.out; omega⟩, ⟨by (with_reducible repeat (first | apply kb1 | apply kb2 | apply kb3)); exact BK384.out⟩, ⟨by repeat (first | (with_reducible first | exact HB.out | apply kc1 | apply kc2 | apply kc3 | refine kc4 ?_ GE384.out) | exact HB.out)⟩⟩
    ·rw [if_neg c7] at H
     have c7b0 : decide (x7_1 ≤ a1) = false := decide_eq_false c7
     clear c7
     obtain rfl := Option.some.inj H
     go_wp2
     go_ret
     exact ⟨by first | rfl | (simp [errW_none, errW_some] <;> rfl) | (simp [*, errW_none, errW_some] <;> rfl), by repeat (first | (with_reducible first | exact HB.out | apply kc1 | apply kc2 | apply kc3 | refine kc4 ?_ GE384.out) | exact HB.out)⟩
   ·replace c6 := Bool.eq_false_iff.mpr c6
    subst c6
    have H1 : (some (wrap64 (x5_1 + t385))) = some r := by rw [if_neg (show ¬ (false = true) by decide)] at H; exact H
    clear H
    have H := H1
    clear H1
    obtain rfl := Option.some.inj H
    go_wp2
    go_ret
    exact ⟨by first | rfl | (simp [errW_none, errW_some] <;> rfl) | (simp [*, errW_none, errW_some] <;> rfl), by repeat (first | (with_reducible first | exact HB.out | apply kc1 | apply kc2 | apply kc3 | refine kc4 ?_ GE384.out) | exact HB.out)⟩

/-! ### trivetref13_Payoff_s: function 19, told plainly -/
theorem trivetref13_Payoff.loop (day x : Int) (hx : 0 ≤ x ∧ x ≤ 10000000000000) : ∀ (j : Nat) (d all : Int) (k : Nat), M.firstOk d → (26400 - M.m0 d).toNat ≤ j → 0 ≤ all → all + j * 10000000000000 ≤ 1000000000000000000 → trivetref13_Payoff.l0 (k + j + 1) day all x d true = some (all + M.months day j d * x)
 | 0, d, all, k, hd, hj, h1, h2 => by
  have a := (M.first_date hd).2.2.1
  unfold M.inYears at a
  omega
 | j + 1, d, all, k, hd, hj, h1, h2 => by
  have x0 := hx.1
  have x1 := hx.2
  rw [show k + (j + 1) + 1 = (k + j + 1) + 1 by omega]
  have ih := fun c2 => trivetref13_Payoff.loop day x hx j (M.due d 1) (all + x) k (M.due_first hd c2)
  obtain ⟨K, hK⟩ : ∃ K, K = k + j := ⟨_, rfl⟩
  rw [← hK] at ih ⊢
  have l0 : ∀ z y : Int, trivetref13_Payoff.l0 (K + 1) day z x y false = some (wrap64 (z + x)) := fun z y => by simp [trivetref13_Payoff.l0]
  obtain ⟨K', hK'⟩ : ∃ K', K' = K + 1 := ⟨_, rfl⟩
  rw [← hK'] at ih l0 ⊢
  simp only [trivetref13_Payoff.l0, M.months, if_true]
  by_cases c : d ≤ day
  ·rw [if_pos c, if_pos c, trivetref13_later_s.at_ hd, Option.bind_some, M.w64_id (n := all + x) (by omega) (by omega)]
   by_cases c2 : M.more d
   ·rw [if_pos c2, if_pos c2]
    simp only []
    have a := (M.first_date hd).2.2.1
    unfold M.inYears at a
    rw [ih c2 (by rw [M.due_m0 c2]; omega) (by omega) (by omega), Int.add_mul, Int.one_mul, Int.add_assoc]
   ·rw [if_neg c2, if_neg c2]
    simp only []
    rw [l0, M.w64_id (n := all + x + x) (by omega) (by omega)]
    exact congrArg some (by omega)
  ·rw [if_neg c, if_neg c, M.w64_id (n := all + x) (by omega) (by omega), Int.one_mul]
theorem trivetref13_Payoff.tells (b r m f e i w fe g bal lvl du cnt sus late day : Int) (h : M.loanOk b r m f e i w fe g bal lvl du cnt sus late) (k : Nat) (hk : 3601 ≤ k) : trivetref13_Payoff.f k b r m f e i w fe g bal lvl du cnt sus late day = some (bal + late + M.months day 3600 du * M.month bal r) := by
 have hm := (M.terms_may h.1).1
 have hb : M.may bal r := ⟨h.2.2.1.1, h.2.2.1.2, hm.2.2⟩
 have b0 := hb.1
 have b1 := hb.2.1
 have l := h.2.2.2.2.2.2.2.2
 have l0 := l.1
 have l1 := l.2
 have m0 := M.month_nonneg hb
 have m1 := M.month_le hb
 have a := (M.first_date h.2.1).2.2.1
 unfold M.inYears at a
 unfold trivetref13_Payoff.f
 rw [trivetref02_Month_s.yes hb, Option.bind_some, M.w64_id (n := bal + late) (by omega) (by omega)]
 obtain ⟨z, rfl⟩ : ∃ z, k = z + 3600 + 1 := ⟨k - 3601, by omega⟩
 exact trivetref13_Payoff.loop day (M.month bal r) ⟨m0, by omega⟩ 3600 du (bal + late) z h.2.1 (by omega) (by omega) (by omega)
def trivetref13_Payoff_s.f (b r m f e i w fe g bal lvl du cnt sus late day : Int) : Option Int := if M.loanOk b r m f e i w fe g bal lvl du cnt sus late then some (bal + late + M.months day 3600 du * M.month bal r) else none
theorem trivetref13_Payoff_s.calls (a0_0 : Int) (a0_1 : Int) (a0_2 : Int) (a0_3 : Int) (a0_4 : Int) (a0_5 : Int) (a0_6 : Int) (a0_7 : Int) (a0_8 : Int) (a0_9 : Int) (a0_10 : Int) (a0_11 : Int) (a0_12 : Int) (a0_13 : Int) (a0_14 : Int) (a1 : Int) (r : Int) (w : World) (h : trivetref13_Payoff_s.f a0_0 a0_1 a0_2 a0_3 a0_4 a0_5 a0_6 a0_7 a0_8 a0_9 a0_10 a0_11 a0_12 a0_13 a0_14 a1 = some r) :
  Calls Try.prog 19 #[.agg #[.int .i64 a0_0, .int .i64 a0_1, .int .i64 a0_2, .int .i64 a0_3, .int .i64 a0_4, .int .i64 a0_5, .int .i64 a0_6, .int .i64 a0_7, .int .i64 a0_8, .int .i64 a0_9, .int .i64 a0_10, .int .i64 a0_11, .int .i64 a0_12, .int .i64 a0_13, .int .i64 a0_14], .int .i64 a1] w fun e w' => e = .returned (.int .i64 r) ∧ Below w.heap.size w w' := by
 unfold trivetref13_Payoff_s.f at h
 split at h
 ·rename_i hr
  exact trivetref13_Payoff.calls (3601) a0_0 a0_1 a0_2 a0_3 a0_4 a0_5 a0_6 a0_7 a0_8 a0_9 a0_10 a0_11 a0_12 a0_13 a0_14 a1 r w ((trivetref13_Payoff.tells a0_0 a0_1 a0_2 a0_3 a0_4 a0_5 a0_6 a0_7 a0_8 a0_9 a0_10 a0_11 a0_12 a0_13 a0_14 a1 hr (3601) (Nat.le_refl _)).trans h)
 ·cases h
theorem trivetref13_Payoff_s.yes {b r m f e i w fe g bal lvl du cnt sus late day : Int} (h : M.loanOk b r m f e i w fe g bal lvl du cnt sus late) : trivetref13_Payoff_s.f b r m f e i w fe g bal lvl du cnt sus late day = some (bal + late + M.months day 3600 du * M.month bal r) := by unfold trivetref13_Payoff_s.f; rw [if_pos h]

end Go.Proofs.Ytimobafoidplaaa.P
