-- Written by a program of this session out of the translation of the seat: Lean functions and the proofs that the Go functions come to them.
import Derived.Test.YtimobafoidplaaaPx0
import Derived.Test.YtimobafoidplaaaPx2
namespace Go.Proofs.Ytimobafoidplaaa.P
open Go.RowKit Go.Proofs.YtimobafoidplaaaW.PrintWords Go.Proofs.YtimobafoidplaaaW.PrintLast Go.Proofs.YtimobafoidplaaaW.PrintMore
attribute [local go_sem] max2_int min2_int max_two min_two max_three min_three max_four min_four   -- for this text's walks alone
set_option linter.unusedVariables false
set_option linter.unusedSimpArgs false

/-! ### terms_first: function 48 -/
def terms_first.f (a0_0 : Int) (a0_1 : Int) (a0_2 : Int) (a0_3 : Int) (a0_4 : Int) (a0_5 : Int) (a0_6 : Int) (a0_7 : Int) (a0_8 : Int) : Option (Int × Int × Int × Bool) := (date_Of_s.f a0_3).bind fun bt110 => (if bt110.2.2.2.isNone = true then (some (bt110.1, bt110.2.1, bt110.2.2.1, (bt110.2.2.1 == 1))) else (some (bt110.1, bt110.2.1, bt110.2.2.1, false)))
def terms_first.T2 : Bool × List (List Nat × List Nat) := (true, [([], []), ([], []), ([1], [1]), ([2], [2]), ([3], [3]), ([4, 3], [3, 4]), ([5, 3], [3, 5]), ([3, 6], [3, 6]), ([0, 3, 0], [0]), ([7, 8, 0, 1, 2, 3, 4, 5, 6, 7, 8], [7])])
def terms_first.B2 : List Nat := [0, 0, 2, 6, 14, 30, 62, 126, 15, 511]
theorem terms_first.tab2 : rtab .any (opsOf Try.f48 2) = terms_first.T2 := by kernel_rfl
theorem terms_first.bits2 : waitsOk terms_first.T2.2 terms_first.B2 = true := by kernel_rfl
set_option maxHeartbeats 8000000 in
set_option maxRecDepth 100000 in
theorem terms_first.calls (a0_0 : Int) (a0_1 : Int) (a0_2 : Int) (a0_3 : Int) (a0_4 : Int) (a0_5 : Int) (a0_6 : Int) (a0_7 : Int) (a0_8 : Int) (r1 : Int) (r2 : Int) (r3 : Int) (r4 : Bool) (w : World) (h : terms_first.f a0_0 a0_1 a0_2 a0_3 a0_4 a0_5 a0_6 a0_7 a0_8 = some (r1, r2, r3, r4)) :
  Calls Try.prog 48 #[.agg #[.int .i64 a0_0, .int .i64 a0_1, .int .i64 a0_2, .int .i64 a0_3, .int .i64 a0_4, .int .i64 a0_5, .int .i64 a0_6, .int .i64 a0_7, .int .i64 a0_8]] w fun e w' => e = .returned (.tuple #[.agg #[.int .i64 r1, .int .i64 r2, .int .i64 r3], .bool r4]) ∧ Below w.heap.size w w' := by
 have hu23 := Try.underlying23
 have hu53 := Try.underlying53
 have hu30 := Try.underlying30
 have hu34 := Try.underlying34
 have HB := ka (Below.refl w.heap.size w)
 have H : ((date_Of_s.f a0_3).bind fun bt110 => (if bt110.2.2.2.isNone = true then (some (bt110.1, bt110.2.1, bt110.2.2.1, (bt110.2.2.1 == 1))) else (some (bt110.1, bt110.2.1, bt110.2.2.1, false)))) = some (r1, r2, r3, r4) := h
 clear h
 replace H := Option.bind_eq_some_iff.mp H
 obtain ⟨⟨t110, t111, t112, t113⟩, A20, H⟩ := H
 replace H : (if t113.isNone = true then (some (t110, t111, t112, (t112 == 1))) else (some (t110, t111, t112, false))) = some (r1, r2, r3, r4) := H
 have A2 := ka A20
 clear A20
 rcases t113 with _ | q115
 ·have H1 : (some (t110, t111, t112, (t112 == 1))) = some (r1, r2, r3, r4) := by rw [if_pos (show (none : Option Int).isNone = true by rfl)] at H; exact H
  clear H
  have H := H1
  clear H1
  try simp only [errW_none, errW_some]
  simp only [Option.some.injEq, Prod.mk.injEq] at H
  obtain ⟨rfl, rfl, rfl, rfl⟩ := H
  go_enter Try.func48, Try.ntmps48
  try go_wp2_with (first | ((with_reducible refine gate_dst (N := 1) rfl ?_); refine kx (N := 1) (cs := #[.int .i64 a0_0, .int .i64 a0_1, .int .i64 a0_2, .int .i64 a0_3, .int .i64 a0_4, .int .i64 a0_5, .int .i64 a0_6, .int .i64 a0_7, .int .i64 a0_8]) (t := 23) ?_; intro gb108 hg w3 hbox hb; have n0_ := ka (below_step (kw HB.out) hb); have n1_ := ka (hbox); have n2_ := ka ((by rw [hg]; exact (below_size (kw HB.out)) : w.heap.size ≤ gb108)); have n3_ := n2_; clear HB; have HB := n0_; have BK108 := n1_; have GW108 := n2_; have GE108 := n3_; clear n0_ n1_ n2_ n3_; clear hb hbox hg) | ((with_reducible refine gate_dst (N := 2) rfl ?_); refine kx (N := 2) (cs := #[.int .i64 0, .int .i64 0, .int .i64 0]) (t := 53) ?_; intro gb109 hg w4 hbox hb; have n0_ := ka (blk_below (g := gb108) (kz BK108.out) hb); have n1_ := ka (below_step (kw HB.out) hb); have n2_ := ka (hbox); have n3_ := ka ((by rw [hg]; exact (below_size (kw HB.out)) : w.heap.size ≤ gb109)); have n4_ := n3_; have n5_ := ka ((by rw [hg]; exact Nat.ne_of_lt (blk_lt (g := gb108) (kz BK108.out)) : gb108 ≠ gb109)); have n6_ := ka n5_.out.symm; clear BK108; clear HB; have BK108 := n0_; have HB := n1_; have BK109 := n2_; have GW109 := n3_; have GE109 := n4_; have NB108_109 := n5_; have NB109_108 := n6_; clear n0_ n1_ n2_ n3_ n4_ n5_ n6_; clear hb hbox hg; have hnb5 := NB108_109.out; have hnc5 := NB109_108.out; have hcz6 := blkAll9 BK108.out) | ((with_reducible refine gate_callee (f := 35) rfl ?_); refine kg (some 9) rfl rfl Try.func35 (by kernel_rfl) rfl #[.int .i64 a0_3] rfl ?_; (with_reducible refine (date_Of_s.calls a0_3 t110 t111 t112 none _ A2.out).mono ?_); rintro e w7 ⟨rfl, hb⟩; refine ⟨_, rfl, ?_⟩; have n0_ := ka (blk_below (g := gb108) (kz BK108.out) hb); have n1_ := ka (blk_below (g := gb109) (kz BK109.out) hb); have n2_ := ka (below_step (kw HB.out) hb); clear BK108; clear BK109; clear HB; have BK108 := n0_; have BK109 := n1_; have HB := n2_; clear n0_ n1_ n2_; (try clear hb); (try clear hb2); (try clear hk); (try clear hi); (try simp only [errW_none, errW_some])) | ((with_reducible refine gate_dst (N := 4) rfl ?_); refine kx (N := 4) (cs := #[.int .i64 0, .int .i64 0, .int .i64 0]) (t := 53) ?_; intro gb114 hg w8 hbox hb; have n0_ := ka (blk_below (g := gb108) (kz BK108.out) hb); have n1_ := ka (blk_below (g := gb109) (kz BK109.out) hb); have n2_ := ka (below_step (kw HB.out) hb); have n3_ := ka (hbox); have n4_ := ka ((by rw [hg]; exact (below_size (kw HB.out)) : w.heap.size ≤ gb114)); have n5_ := n4_; have n6_ := ka ((by rw [hg]; exact Nat.ne_of_lt (blk_lt (g := gb108) (kz BK108.out)) : gb108 ≠ gb114)); have n7_ := ka n6_.out.symm; have n8_ := ka ((by rw [hg]; exact Nat.ne_of_lt (blk_lt (g := gb109) (kz BK109.out)) : gb109 ≠ gb114)); have n9_ := ka n8_.out.symm; clear BK108; clear BK109; clear HB; have BK108 := n0_; have BK109 := n1_; have HB := n2_; have BK114 := n3_; have GW114 := n4_; have GE114 := n5_; have NB108_114 := n6_; have NB114_108 := n7_; have NB109_114 := n8_; have NB114_109 := n9_; clear n0_ n1_ n2_ n3_ n4_ n5_ n6_ n7_ n8_ n9_; clear hb hbox hg; have hnb9 := NB114_108.out; have hnc9 := NB108_114.out; have hnb10 := NB114_109.out; have hnc10 := NB109_114.out; have hcz11 := blkAll3 BK114.out))
  have n0_ : Aside0 ((((w8.setCell ⟨gb114, 0, none⟩ (.int .i64 t110)).setCell ⟨gb114, 1, none⟩ (.int .i64 t111)).setCell ⟨gb114, 2, none⟩ (.int .i64 t112)).heap[gb108]? = some (.cells #[.int .i64 a0_0, .int .i64 a0_1, .int .i64 a0_2, .int .i64 a0_3, .int .i64 a0_4, .int .i64 a0_5, .int .i64 a0_6, .int .i64 a0_7, .int .i64 a0_8] 23 (0, 0))) := ⟨by (with_reducible repeat (first | apply kb1 | apply kb2 | apply kb3 | refine kb4 ?_ NB108_114.out _)); exact BK108.out⟩
  have n1_ : Aside0 ((((w8.setCell ⟨gb114, 0, none⟩ (.int .i64 t110)).setCell ⟨gb114, 1, none⟩ (.int .i64 t111)).setCell ⟨gb114, 2, none⟩ (.int .i64 t112)).heap[gb109]? = some (.cells #[.int .i64 0, .int .i64 0, .int .i64 0] 53 (0, 0))) := ⟨by (with_reducible repeat (first | apply kb1 | apply kb2 | apply kb3 | refine kb4 ?_ NB109_114.out _)); exact BK109.out⟩
  have n2_ : Aside0 ((((w8.setCell ⟨gb114, 0, none⟩ (.int .i64 t110)).setCell ⟨gb114, 1, none⟩ (.int .i64 t111)).setCell ⟨gb114, 2, none⟩ (.int .i64 t112)).heap[gb114]? = some (.cells #[.int .i64 t110, .int .i64 t111, .int .i64 t112] 53 (0, 0))) := ⟨by (with_reducible repeat (first | apply kb1 | apply kb2 | apply kb3 | apply blkPut3_2 | apply blkPut3_1 | apply blkPut3_0)); exact BK114.out⟩
  have n3_ : Aside0 (Below w.heap.size w (((w8.setCell ⟨gb114, 0, none⟩ (.int .i64 t110)).setCell ⟨gb114, 1, none⟩ (.int .i64 t111)).setCell ⟨gb114, 2, none⟩ (.int .i64 t112))) := ⟨by repeat (first | (with_reducible first | exact HB.out | apply kc1 | apply kc2 | apply kc3 | refine kc4 ?_ GE108.out | refine kc4 ?_ GE109.out | refine kc4 ?_ GE114.out) | exact HB.out)⟩
  (try clear BK108)
  (try clear BK109)
  (try clear BK114)
  (try clear HB)
  generalize (((w8.setCell ⟨gb114, 0, none⟩ (.int .i64 t110)).setCell ⟨gb114, 1, none⟩ (.int .i64 t111)).setCell ⟨gb114, 2, none⟩ (.int .i64 t112)) = w12 at n0_ n1_ n2_ n3_ ⊢
  have BK108 := n0_
  have BK109 := n1_
  have BK114 := n2_
  have HB := n3_
  clear n0_ n1_ n2_ n3_
  have n0_ := ka (blk_drew BK108.out)
  have n1_ := ka (blk_drew BK109.out)
  have n2_ := ka (blk_drew BK114.out)
  have n3_ := ka (below_drew1 HB.out)
  clear BK108
  clear BK109
  clear BK114
  clear HB
  have BK108 := n0_
  have BK109 := n1_
  have BK114 := n2_
  have HB := n3_
  clear n0_ n1_ n2_ n3_
  refine start_ (n := 10) (S := fun w' => w'.cell? ⟨gb114, 0, none⟩ = some (.int .i64 t110) ∧ w'.cell? ⟨gb114, 1, none⟩ = some (.int .i64 t111) ∧ w'.cell? ⟨gb114, 2, none⟩ = some (.int .i64 t112)) (ds := []) #[false, false, false, false, false, false, false, false, false, false] (by kernel_rfl) rfl rfl ⟨(blk_cell BK114.out 0).trans rfl, (blk_cell BK114.out 1).trans rfl, (blk_cell BK114.out 2).trans rfl⟩ (fun hHeld => ?_); refine with_tabW terms_first.tab2 terms_first.bits2 (fun HT_ HW_ => ?_)
  generalize w12.drew = w13 at BK108 BK109 BK114 HB hHeld ⊢
  refine pure_ (i := 1) (N := some 13) (v := ?_) (a' := ?_) #[false, true, false, false, false, false, false, false, false, false] rfl rfl (any_of HT_.out (by kernel_rfl)) (fun _ _ _ h => h) (Or.inl ⟨by rfl, ?_⟩) ?_ ?_
  rotate_left
  ·intro w'
   go_simp
   with_reducible rfl
  rotate_left
  ·simp only [Act.put, List.setIfInBounds_toArray, List.set_cons_zero, List.set_cons_succ, i64_w, i32_w]
   rfl
  refine pure_ (i := 2) (N := some 14) (v := ?_) (a' := ?_) #[false, true, true, false, false, false, false, false, false, false] rfl rfl (any_of HT_.out (by kernel_rfl)) (fun _ _ _ h => h) (Or.inl ⟨by rfl, ?_⟩) ?_ ?_
  rotate_left
  ·intro w'
   go_simp
   with_reducible rfl
  rotate_left
  ·simp only [Act.put, List.setIfInBounds_toArray, List.set_cons_zero, List.set_cons_succ, i64_w, i32_w]
   rfl
  refine pure_ (i := 3) (N := some 15) (v := ?_) (a' := ?_) #[false, true, true, true, false, false, false, false, false, false] rfl rfl (any_of HT_.out (by kernel_rfl)) (fun _ _ _ h => h) (Or.inl ⟨by rfl, ?_⟩) ?_ ?_
  rotate_left
  ·intro w'
   go_simp
   with_reducible rfl
  rotate_left
  ·simp only [Act.put, List.setIfInBounds_toArray, List.set_cons_zero, List.set_cons_succ, i64_w, i32_w]
   rfl
  refine pure_ (i := 4) (N := some 16) (v := ?_) (a' := ?_) #[false, true, true, true, true, false, false, false, false, false] rfl rfl (any_of HT_.out (by kernel_rfl)) (fun _ _ _ h => h) (Or.inl ⟨by rfl, ?_⟩) ?_ ?_
  rotate_left
  ·intro w'
   go_simp
   with_reducible rfl
  rotate_left
  ·simp only [Act.put, List.setIfInBounds_toArray, List.set_cons_zero, List.set_cons_succ, i64_w, i32_w]
   rfl
  refine take_ (i := 0) (N := some 12) (v := ?_) (a' := ?_) #[true, true, true, true, true, false, false, false, false, false] rfl rfl (take_ofW HT_.out HW_.out (by kernel_rfl)) (fun _ _ _ h => h) (Or.inl ⟨by rfl, ?_⟩) hHeld ?_ ?_
  rotate_left
  ·rintro w' ⟨s0, s1, s2⟩
   go_simp
   with_reducible rfl
  rotate_left
  ·simp only [Act.put, List.setIfInBounds_toArray, List.set_cons_zero, List.set_cons_succ, i64_w, i32_w]
   rfl
  refine take_ (i := 5) (N := some 17) (v := ?_) (a' := ?_) #[true, true, true, true, true, true, false, false, false, false] rfl rfl (take_ofW HT_.out HW_.out (by kernel_rfl)) (fun _ _ _ h => h) (Or.inl ⟨by rfl, ?_⟩) hHeld ?_ ?_
  rotate_left
  ·rintro w' ⟨s0, s1, s2⟩
   go_simp
   with_reducible rfl
  rotate_left
  ·simp only [Act.put, List.setIfInBounds_toArray, List.set_cons_zero, List.set_cons_succ, i64_w, i32_w]
   rfl
  refine pure_ (i := 6) (N := some 18) (v := ?_) (a' := ?_) #[true, true, true, true, true, true, true, false, false, false] rfl rfl (any_of HT_.out (by kernel_rfl)) (fun _ _ _ h => h) (Or.inl ⟨by rfl, ?_⟩) ?_ ?_
  rotate_left
  ·intro w'
   go_simp
   with_reducible rfl
  rotate_left
  ·simp only [Act.put, List.setIfInBounds_toArray, List.set_cons_zero, List.set_cons_succ, i64_w, i32_w]
   rfl
  refine pure_ (i := 7) (N := some 19) (v := ?_) (a' := ?_) #[true, true, true, true, true, true, true, true, false, false] rfl rfl (any_of HT_.out (by kernel_rfl)) (fun _ _ _ h => h) (Or.inl ⟨by rfl, ?_⟩) ?_ ?_
  rotate_left
  ·intro w'
   go_simp
   with_reducible rfl
  rotate_left
  ·simp only [Act.put, List.setIfInBounds_toArray, List.set_cons_zero, List.set_cons_succ, i64_w, i32_w]
   rfl
  refine one_ (i := 8) (N := none) #[true, true, true, true, true, true, true, true, true, false] rfl rfl (one_of HT_.out (by kernel_rfl)) (by decide) (fun K hK => ?_)
  have hs14 : w13.cell? ⟨gb109, 0, none⟩ = some (.int .i64 0) := (blk_cell BK109.out 0).trans rfl
  have hfs14 := blk_frozen BK109.out 0
  have hns14_0 := NB108_109.out
  have hns14_2 := NB114_109.out
  have hms14_0 := NB109_108.out
  have hms14_2 := NB109_114.out
  have hs15 : w13.cell? ⟨gb109, 1, none⟩ = some (.int .i64 0) := (blk_cell BK109.out 1).trans rfl
  have hfs15 := blk_frozen BK109.out 1
  have hns15_0 := NB108_109.out
  have hns15_2 := NB114_109.out
  have hms15_0 := NB109_108.out
  have hms15_2 := NB109_114.out
  have hs16 : w13.cell? ⟨gb109, 2, none⟩ = some (.int .i64 0) := (blk_cell BK109.out 2).trans rfl
  have hfs16 := blk_frozen BK109.out 2
  have hns16_0 := NB108_109.out
  have hns16_2 := NB114_109.out
  have hms16_0 := NB109_108.out
  have hms16_2 := NB109_114.out
  refine skip_ (w1 := ?_) (by rfl) rfl ?_ ?_
  rotate_left
  ·go_simp
   rfl
  refine hK.out _ _ ⟨(by (repeat refine (cell_far (p := ⟨gb109, _, none⟩) NB114_109.out _).trans ?_); exact hHeld.1), (by (repeat refine (cell_far (p := ⟨gb109, _, none⟩) NB114_109.out _).trans ?_); exact hHeld.2.1), (by (repeat refine (cell_far (p := ⟨gb109, _, none⟩) NB114_109.out _).trans ?_); exact hHeld.2.2)⟩ (fun hHeld => ?_)
  clear hK K
  refine pure_ (i := 9) (N := some 3) (v := ?_) (a' := ?_) #[true, true, true, true, true, true, true, true, true, true] rfl rfl (any_of HT_.out (by kernel_rfl)) (fun _ _ _ h => h) (Or.inl ⟨by rfl, ?_⟩) ?_ ?_
  rotate_left
  ·intro w'
   go_simp
   with_reducible rfl
  rotate_left
  ·simp only [Act.put, List.setIfInBounds_toArray, List.set_cons_zero, List.set_cons_succ, i64_w, i32_w]
   rfl
  refine done_ (done_of HT_.out (by kernel_rfl)) ?_
  try go_wp2
  refine bodyPost_ret (results_ct rfl _ _ gb109 53 #[.int .i64 t110, .int .i64 t111, .int .i64 t112] (0, 0) _ rfl (by (with_reducible repeat (first | apply kb1 | apply kb2 | apply kb3 | apply blkPut3_2 | apply blkPut3_1 | apply blkPut3_0)); exact BK109.out) Try.underlying53 rfl (by kernel_rfl)) rfl ?_
  exact ⟨by first | rfl | (simp [errW_none, errW_some] <;> rfl) | (simp [*, errW_none, errW_some] <;> rfl), by repeat (first | (with_reducible first | exact HB.out | apply kc1 | apply kc2 | apply kc3 | refine kc4 ?_ GE108.out | refine kc4 ?_ GE109.out | refine kc4 ?_ GE114.out) | exact HB.out)⟩
 ·have H1 : (some (t110, t111, t112, false)) = some (r1, r2, r3, r4) := by rw [if_neg (show ¬ (some q115).isNone = true by simp)] at H; exact H
  clear H
  have H := H1
  clear H1
  try simp only [errW_none, errW_some]
  simp only [Option.some.injEq, Prod.mk.injEq] at H
  obtain ⟨rfl, rfl, rfl, rfl⟩ := H
  go_enter Try.func48, Try.ntmps48
  try go_wp2_with (first | ((with_reducible refine gate_dst (N := 1) rfl ?_); refine kx (N := 1) (cs := #[.int .i64 a0_0, .int .i64 a0_1, .int .i64 a0_2, .int .i64 a0_3, .int .i64 a0_4, .int .i64 a0_5, .int .i64 a0_6, .int .i64 a0_7, .int .i64 a0_8]) (t := 23) ?_; intro gb108 hg w17 hbox hb; have n0_ := ka (below_step (kw HB.out) hb); have n1_ := ka (hbox); have n2_ := ka ((by rw [hg]; exact (below_size (kw HB.out)) : w.heap.size ≤ gb108)); have n3_ := n2_; clear HB; have HB := n0_; have BK108 := n1_; have GW108 := n2_; have GE108 := n3_; clear n0_ n1_ n2_ n3_; clear hb hbox hg) | ((with_reducible refine gate_dst (N := 2) rfl ?_); refine kx (N := 2) (cs := #[.int .i64 0, .int .i64 0, .int .i64 0]) (t := 53) ?_; intro gb109 hg w18 hbox hb; have n0_ := ka (blk_below (g := gb108) (kz BK108.out) hb); have n1_ := ka (below_step (kw HB.out) hb); have n2_ := ka (hbox); have n3_ := ka ((by rw [hg]; exact (below_size (kw HB.out)) : w.heap.size ≤ gb109)); have n4_ := n3_; have n5_ := ka ((by rw [hg]; exact Nat.ne_of_lt (blk_lt (g := gb108) (kz BK108.out)) : gb108 ≠ gb109)); have n6_ := ka n5_.out.symm; clear BK108; clear HB; have BK108 := n0_; have HB := n1_; have BK109 := n2_; have GW109 := n3_; have GE109 := n4_; have NB108_109 := n5_; have NB109_108 := n6_; clear n0_ n1_ n2_ n3_ n4_ n5_ n6_; clear hb hbox hg; have hnb19 := NB108_109.out; have hnc19 := NB109_108.out; have hcz20 := blkAll9 BK108.out) | ((with_reducible refine gate_callee (f := 35) rfl ?_); refine kg (some 9) rfl rfl Try.func35 (by kernel_rfl) rfl #[.int .i64 a0_3] rfl ?_; (with_reducible refine (date_Of_s.calls a0_3 t110 t111 t112 (some q115) _ A2.out).mono ?_); rintro e w21 ⟨rfl, hb⟩; refine ⟨_, rfl, ?_⟩; have n0_ := ka (blk_below (g := gb108) (kz BK108.out) hb); have n1_ := ka (blk_below (g := gb109) (kz BK109.out) hb); have n2_ := ka (below_step (kw HB.out) hb); clear BK108; clear BK109; clear HB; have BK108 := n0_; have BK109 := n1_; have HB := n2_; clear n0_ n1_ n2_; (try clear hb); (try clear hb2); (try clear hk); (try clear hi); (try simp only [errW_none, errW_some])) | ((with_reducible refine gate_dst (N := 4) rfl ?_); refine kx (N := 4) (cs := #[.int .i64 0, .int .i64 0, .int .i64 0]) (t := 53) ?_; intro gb114 hg w22 hbox hb; have n0_ := ka (blk_below (g := gb108) (kz BK108.out) hb); have n1_ := ka (blk_below (g := gb109) (kz BK109.out) hb); have n2_ := ka (below_step (kw HB.out) hb); have n3_ := ka (hbox); have n4_ := ka ((by rw [hg]; exact (below_size (kw HB.out)) : w.heap.size ≤ gb114)); have n5_ := n4_; have n6_ := ka ((by rw [hg]; exact Nat.ne_of_lt (blk_lt (g := gb108) (kz BK108.out)) : gb108 ≠ gb114)); have n7_ := ka n6_.out.symm; have n8_ := ka ((by rw [hg]; exact Nat.ne_of_lt (blk_lt (g := gb109) (kz BK109.out)) : gb109 ≠ gb114)); have n9_ := ka n8_.out.symm; clear BK108; clear BK109; clear HB; have BK108 := n0_; have BK109 := n1_; have HB := n2_; have BK114 := n3_; have GW114 := n4_; have GE114 := n5_; have NB108_114 := n6_; have NB114_108 := n7_; have NB109_114 := n8_; have NB114_109 := n9_; clear n0_ n1_ n2_ n3_ n4_ n5_ n6_ n7_ n8_ n9_; clear hb hbox hg; have hnb23 := NB114_108.out; have hnc23 := NB108_114.out; have hnb24 := NB114_109.out; have hnc24 := NB109_114.out; have hcz25 := blkAll3 BK114.out))
  have n0_ : Aside0 ((((w22.setCell ⟨gb114, 0, none⟩ (.int .i64 t110)).setCell ⟨gb114, 1, none⟩ (.int .i64 t111)).setCell ⟨gb114, 2, none⟩ (.int .i64 t112)).heap[gb108]? = some (.cells #[.int .i64 a0_0, .int .i64 a0_1, .int .i64 a0_2, .int .i64 a0_3, .int .i64 a0_4, .int .i64 a0_5, .int .i64 a0_6, .int .i64 a0_7, .int .i64 a0_8] 23 (0, 0))) := ⟨by (with_reducible repeat (first | apply kb1 | apply kb2 | apply kb3 | refine kb4 ?_ NB108_114.out _)); exact BK108.out⟩
  have n1_ : Aside0 ((((w22.setCell ⟨gb114, 0, none⟩ (.int .i64 t110)).setCell ⟨gb114, 1, none⟩ (.int .i64 t111)).setCell ⟨gb114, 2, none⟩ (.int .i64 t112)).heap[gb109]? = some (.cells #[.int .i64 0, .int .i64 0, .int .i64 0] 53 (0, 0))) := ⟨by (with_reducible repeat (first | apply kb1 | apply kb2 | apply kb3 | refine kb4 ?_ NB109_114.out _)); exact BK109.out⟩
  have n2_ : Aside0 ((((w22.setCell ⟨gb114, 0, none⟩ (.int .i64 t110)).setCell ⟨gb114, 1, none⟩ (.int .i64 t111)).setCell ⟨gb114, 2, none⟩ (.int .i64 t112)).heap[gb114]? = some (.cells #[.int .i64 t110, .int .i64 t111, .int .i64 t112] 53 (0, 0))) := ⟨by (with_reducible repeat (first | apply kb1 | apply kb2 | apply kb3 | apply blkPut3_2 | apply blkPut3_1 | apply blkPut3_0)); exact BK114.out⟩
  have n3_ : Aside0 (Below w.heap.size w (((w22.setCell ⟨gb114, 0, none⟩ (.int .i64 t110)).setCell ⟨gb114, 1, none⟩ (.int .i64 t111)).setCell ⟨gb114, 2, none⟩ (.int .i64 t112))) := ⟨by repeat (first | (with_reducible first | exact HB.out | apply kc1 | apply kc2 | apply kc3 | refine kc4 ?_ GE108.out | refine kc4 ?_ GE109.out | refine kc4 ?_ GE114.out) | exact HB.out)⟩
  (try clear BK108)
  (try clear BK109)
  (try clear BK114)
  (try clear HB)
  generalize (((w22.setCell ⟨gb114, 0, none⟩ (.int .i64 t110)).setCell ⟨gb114, 1, none⟩ (.int .i64 t111)).setCell ⟨gb114, 2, none⟩ (.int .i64 t112)) = w26 at n0_ n1_ n2_ n3_ ⊢
  have BK108 := n0_
  have BK109 := n1_
  have BK114 := n2_
  have HB := n3_
  clear n0_ n1_ n2_ n3_
  have n0_ := ka (blk_drew BK108.out)
  have n1_ := ka (blk_drew BK109.out)
  have n2_ := ka (blk_drew BK114.out)
  have n3_ := ka (below_drew1 HB.out)
  clear BK108
  clear BK109
  clear BK114
  clear HB
  have BK108 := n0_
  have BK109 := n1_
  have BK114 := n2_
  have HB := n3_
  clear n0_ n1_ n2_ n3_
  refine start_ (n := 10) (S := fun w' => w'.cell? ⟨gb114, 0, none⟩ = some (.int .i64 t110) ∧ w'.cell? ⟨gb114, 1, none⟩ = some (.int .i64 t111) ∧ w'.cell? ⟨gb114, 2, none⟩ = some (.int .i64 t112)) (ds := []) #[false, false, false, false, false, false, false, false, false, false] (by kernel_rfl) rfl rfl ⟨(blk_cell BK114.out 0).trans rfl, (blk_cell BK114.out 1).trans rfl, (blk_cell BK114.out 2).trans rfl⟩ (fun hHeld => ?_); refine with_tabW terms_first.tab2 terms_first.bits2 (fun HT_ HW_ => ?_)
  generalize w26.drew = w27 at BK108 BK109 BK114 HB hHeld ⊢
  refine pure_ (i := 1) (N := some 13) (v := ?_) (a' := ?_) #[false, true, false, false, false, false, false, false, false, false] rfl rfl (any_of HT_.out (by kernel_rfl)) (fun _ _ _ h => h) (Or.inl ⟨by rfl, ?_⟩) ?_ ?_
  rotate_left
  ·intro w'
   go_simp
   with_reducible rfl
  rotate_left
  ·simp only [Act.put, List.setIfInBounds_toArray, List.set_cons_zero, List.set_cons_succ, i64_w, i32_w]
   rfl
  refine pure_ (i := 2) (N := some 14) (v := ?_) (a' := ?_) #[false, true, true, false, false, false, false, false, false, false] rfl rfl (any_of HT_.out (by kernel_rfl)) (fun _ _ _ h => h) (Or.inl ⟨by rfl, ?_⟩) ?_ ?_
  rotate_left
  ·intro w'
   go_simp
   with_reducible rfl
  rotate_left
  ·simp only [Act.put, List.setIfInBounds_toArray, List.set_cons_zero, List.set_cons_succ, i64_w, i32_w]
   rfl
  refine pure_ (i := 3) (N := some 15) (v := ?_) (a' := ?_) #[false, true, true, true, false, false, false, false, false, false] rfl rfl (any_of HT_.out (by kernel_rfl)) (fun _ _ _ h => h) (Or.inl ⟨by rfl, ?_⟩) ?_ ?_
  rotate_left
  ·intro w'
   go_simp
   with_reducible rfl
  rotate_left
  ·simp only [Act.put, List.setIfInBounds_toArray, List.set_cons_zero, List.set_cons_succ, i64_w, i32_w]
   rfl
  refine pure_ (i := 4) (N := some 16) (v := undef) (a' := ?_) #[false, true, true, true, true, false, false, false, false, false] rfl rfl (any_of HT_.out (by kernel_rfl)) (fun _ _ _ h => h) (Or.inr ⟨by rfl, rfl⟩) ?_ ?_
  rotate_left
  ·simp only [Act.put, List.setIfInBounds_toArray, List.set_cons_zero, List.set_cons_succ, i64_w, i32_w]
   rfl
  refine pure_ (i := 5) (N := some 17) (v := undef) (a' := ?_) #[false, true, true, true, true, true, false, false, false, false] rfl rfl (any_of HT_.out (by kernel_rfl)) (fun _ _ _ h => h) (Or.inr ⟨by rfl, rfl⟩) ?_ ?_
  rotate_left
  ·simp only [Act.put, List.setIfInBounds_toArray, List.set_cons_zero, List.set_cons_succ, i64_w, i32_w]
   rfl
  refine pure_ (i := 6) (N := some 18) (v := undef) (a' := ?_) #[false, true, true, true, true, true, true, false, false, false] rfl rfl (any_of HT_.out (by kernel_rfl)) (fun _ _ _ h => h) (Or.inr ⟨by rfl, rfl⟩) ?_ ?_
  rotate_left
  ·simp only [Act.put, List.setIfInBounds_toArray, List.set_cons_zero, List.set_cons_succ, i64_w, i32_w]
   rfl
  refine pure_ (i := 7) (N := some 19) (v := ?_) (a' := ?_) #[false, true, true, true, true, true, true, true, false, false] rfl rfl (any_of HT_.out (by kernel_rfl)) (fun _ _ _ h => h) (Or.inl ⟨by rfl, ?_⟩) ?_ ?_
  rotate_left
  ·intro w'
   go_simp
   with_reducible rfl
  rotate_left
  ·simp only [Act.put, List.setIfInBounds_toArray, List.set_cons_zero, List.set_cons_succ, i64_w, i32_w]
   rfl
  refine take_ (i := 0) (N := some 12) (v := ?_) (a' := ?_) #[true, true, true, true, true, true, true, true, false, false] rfl rfl (take_ofW HT_.out HW_.out (by kernel_rfl)) (fun _ _ _ h => h) (Or.inl ⟨by rfl, ?_⟩) hHeld ?_ ?_
  rotate_left
  ·rintro w' ⟨s0, s1, s2⟩
   go_simp
   with_reducible rfl
  rotate_left
  ·simp only [Act.put, List.setIfInBounds_toArray, List.set_cons_zero, List.set_cons_succ, i64_w, i32_w]
   rfl
  refine one_ (i := 8) (N := none) #[true, true, true, true, true, true, true, true, true, false] rfl rfl (one_of HT_.out (by kernel_rfl)) (by decide) (fun K hK => ?_)
  have hs28 : w27.cell? ⟨gb109, 0, none⟩ = some (.int .i64 0) := (blk_cell BK109.out 0).trans rfl
  have hfs28 := blk_frozen BK109.out 0
  have hns28_0 := NB108_109.out
  have hns28_2 := NB114_109.out
  have hms28_0 := NB109_108.out
  have hms28_2 := NB109_114.out
  have hs29 : w27.cell? ⟨gb109, 1, none⟩ = some (.int .i64 0) := (blk_cell BK109.out 1).trans rfl
  have hfs29 := blk_frozen BK109.out 1
  have hns29_0 := NB108_109.out
  have hns29_2 := NB114_109.out
  have hms29_0 := NB109_108.out
  have hms29_2 := NB109_114.out
  have hs30 : w27.cell? ⟨gb109, 2, none⟩ = some (.int .i64 0) := (blk_cell BK109.out 2).trans rfl
  have hfs30 := blk_frozen BK109.out 2
  have hns30_0 := NB108_109.out
  have hns30_2 := NB114_109.out
  have hms30_0 := NB109_108.out
  have hms30_2 := NB109_114.out
  refine skip_ (w1 := ?_) (by rfl) rfl ?_ ?_
  rotate_left
  ·go_simp
   rfl
  refine hK.out _ _ ⟨(by (repeat refine (cell_far (p := ⟨gb109, _, none⟩) NB114_109.out _).trans ?_); exact hHeld.1), (by (repeat refine (cell_far (p := ⟨gb109, _, none⟩) NB114_109.out _).trans ?_); exact hHeld.2.1), (by (repeat refine (cell_far (p := ⟨gb109, _, none⟩) NB114_109.out _).trans ?_); exact hHeld.2.2)⟩ (fun hHeld => ?_)
  clear hK K
  refine pure_ (i := 9) (N := some 3) (v := ?_) (a' := ?_) #[true, true, true, true, true, true, true, true, true, true] rfl rfl (any_of HT_.out (by kernel_rfl)) (fun _ _ _ h => h) (Or.inl ⟨by rfl, ?_⟩) ?_ ?_
  rotate_left
  ·intro w'
   go_simp
   with_reducible rfl
  rotate_left
  ·simp only [Act.put, List.setIfInBounds_toArray, List.set_cons_zero, List.set_cons_succ, i64_w, i32_w]
   rfl
  refine done_ (done_of HT_.out (by kernel_rfl)) ?_
  try go_wp2
  refine bodyPost_ret (results_ct rfl _ _ gb109 53 #[.int .i64 t110, .int .i64 t111, .int .i64 t112] (0, 0) _ rfl (by (with_reducible repeat (first | apply kb1 | apply kb2 | apply kb3 | apply blkPut3_2 | apply blkPut3_1 | apply blkPut3_0)); exact BK109.out) Try.underlying53 rfl (by kernel_rfl)) rfl ?_
  exact ⟨by first | rfl | (simp [errW_none, errW_some] <;> rfl) | (simp [*, errW_none, errW_some] <;> rfl), by repeat (first | (with_reducible first | exact HB.out | apply kc1 | apply kc2 | apply kc3 | refine kc4 ?_ GE108.out | refine kc4 ?_ GE109.out | refine kc4 ?_ GE114.out) | exact HB.out)⟩

/-! ### terms_first_s: function 48, told plainly -/
theorem terms_first.tells (b r m f e i w fe g : Int) (h : M.In f) : terms_first.f b r m f e i w fe g = some (if -25567 ≤ f ∧ f ≤ 84005 then (M.yr f, M.mo f, M.dy f, decide (M.dy f = 1)) else (0, 0, 0, false)) := by
 unfold terms_first.f
 by_cases h1 : -25567 ≤ f ∧ f ≤ 84005
 ·rw [date_Of_s.yes h1, Option.bind_some, if_pos h1]
  simp only [Option.isNone_none, if_true]
  by_cases h2 : M.dy f = 1 <;> simp [h2]
 ·rw [date_Of_s.no h h1, Option.bind_some, if_neg h1]
  rfl
def terms_first_s.f (b r m f e i w fe g : Int) : Option (Int × Int × Int × Bool) := if M.In f then some (if -25567 ≤ f ∧ f ≤ 84005 then (M.yr f, M.mo f, M.dy f, decide (M.dy f = 1)) else (0, 0, 0, false)) else none
theorem terms_first_s.calls (a0_0 : Int) (a0_1 : Int) (a0_2 : Int) (a0_3 : Int) (a0_4 : Int) (a0_5 : Int) (a0_6 : Int) (a0_7 : Int) (a0_8 : Int) (r1 : Int) (r2 : Int) (r3 : Int) (r4 : Bool) (w : World) (h : terms_first_s.f a0_0 a0_1 a0_2 a0_3 a0_4 a0_5 a0_6 a0_7 a0_8 = some (r1, r2, r3, r4)) :
  Calls Try.prog 48 #[.agg #[.int .i64 a0_0, .int .i64 a0_1, .int .i64 a0_2, .int .i64 a0_3, .int .i64 a0_4, .int .i64 a0_5, .int .i64 a0_6, .int .i64 a0_7, .int .i64 a0_8]] w fun e w' => e = .returned (.tuple #[.agg #[.int .i64 r1, .int .i64 r2, .int .i64 r3], .bool r4]) ∧ Below w.heap.size w w' := by
 unfold terms_first_s.f at h
 split at h
 ·rename_i hr
  exact terms_first.calls a0_0 a0_1 a0_2 a0_3 a0_4 a0_5 a0_6 a0_7 a0_8 r1 r2 r3 r4 w ((terms_first.tells a0_0 a0_1 a0_2 a0_3 a0_4 a0_5 a0_6 a0_7 a0_8 hr).trans h)
 ·cases h
theorem terms_first_s.at_ {b r m f e i w fe g : Int} (h : M.In f) : terms_first_s.f b r m f e i w fe g = some (if -25567 ≤ f ∧ f ≤ 84005 then (M.yr f, M.mo f, M.dy f, decide (M.dy f = 1)) else (0, 0, 0, false)) := by unfold terms_first_s.f; rw [if_pos h]

/-! ### terms_money: function 49 -/
def terms_money.f (a0_0 : Int) (a0_1 : Int) (a0_2 : Int) (a0_3 : Int) (a0_4 : Int) (a0_5 : Int) (a0_6 : Int) (a0_7 : Int) (a0_8 : Int) : Option (Bool) := if a0_0 ≥ 1 then (if a0_0 ≤ 10000000000000 then (if a0_4 ≥ 0 then (if a0_4 ≤ 10000000000000 then (if a0_1 ≥ 0 then (if a0_1 ≤ 300000 then (if a0_7 ≥ 0 then (if a0_8 ≥ 0 then (if a0_7 ≤ a0_1 then (some (decide (a0_8 ≤ (wrap64 (a0_1 - a0_7))))) else (some false)) else (some false)) else (some false)) else (some false)) else (some false)) else (some false)) else (some false)) else (some false)) else (some false)
set_option maxHeartbeats 8000000 in
set_option maxRecDepth 100000 in
theorem terms_money.calls (a0_0 : Int) (a0_1 : Int) (a0_2 : Int) (a0_3 : Int) (a0_4 : Int) (a0_5 : Int) (a0_6 : Int) (a0_7 : Int) (a0_8 : Int) (r : Bool) (w : World) (h : terms_money.f a0_0 a0_1 a0_2 a0_3 a0_4 a0_5 a0_6 a0_7 a0_8 = some r) :
  Calls Try.prog 49 #[.agg #[.int .i64 a0_0, .int .i64 a0_1, .int .i64 a0_2, .int .i64 a0_3, .int .i64 a0_4, .int .i64 a0_5, .int .i64 a0_6, .int .i64 a0_7, .int .i64 a0_8]] w fun e w' => e = .returned (.bool r) ∧ Below w.heap.size w w' := by
 have hu23 := Try.underlying23
 have HB := ka (Below.refl w.heap.size w)
 have H : (if a0_0 ≥ 1 then (if a0_0 ≤ 10000000000000 then (if a0_4 ≥ 0 then (if a0_4 ≤ 10000000000000 then (if a0_1 ≥ 0 then (if a0_1 ≤ 300000 then (if a0_7 ≥ 0 then (if a0_8 ≥ 0 then (if a0_7 ≤ a0_1 then (some (decide (a0_8 ≤ (wrap64 (a0_1 - a0_7))))) else (some false)) else (some false)) else (some false)) else (some false)) else (some false)) else (some false)) else (some false)) else (some false)) else (some false)) = some r := h
 clear h
 by_cases c2 : a0_0 ≥ 1
 ·rw [if_pos c2] at H
  have c2b0 : decide (1 ≤ a0_0) = true := decide_eq_true c2
  clear c2
  by_cases c3 : a0_0 ≤ 10000000000000
  ·rw [if_pos c3] at H
   have c3b0 : decide (a0_0 ≤ 10000000000000) = true := decide_eq_true c3
   clear c3
   by_cases c4 : a0_4 ≥ 0
   ·rw [if_pos c4] at H
    have c4b0 : decide (0 ≤ a0_4) = true := decide_eq_true c4
    clear c4
    by_cases c5 : a0_4 ≤ 10000000000000
    ·rw [if_pos c5] at H
     have c5b0 : decide (a0_4 ≤ 10000000000000) = true := decide_eq_true c5
     clear c5
     by_cases c6 : a0_1 ≥ 0
     ·rw [if_pos c6] at H
      have c6b0 : decide (0 ≤ a0_1) = true := decide_eq_true c6
      clear c6
      by_cases c7 : a0_1 ≤ 300000
      ·rw [if_pos c7] at H
       have c7b0 : decide (a0_1 ≤ 300000) = true := decide_eq_true c7
       clear c7
       by_cases c8 : a0_7 ≥ 0
       ·rw [if_pos c8] at H
        have c8b0 : decide (0 ≤ a0_7) = true := decide_eq_true c8
        clear c8
        by_cases c9 : a0_8 ≥ 0
        ·rw [if_pos c9] at H
         have c9b0 : decide (0 ≤ a0_8) = true := decide_eq_true c9
         clear c9
         by_cases c10 : a0_7 ≤ a0_1
         ·rw [if_pos c10] at H
          have c10b0 : decide (a0_7 ≤ a0_1) = true := decide_eq_true c10
          clear c10
          obtain rfl := Option.some.inj H
          go_enter Try.func49, Try.ntmps49
          go_wp2_with (first | ((with_reducible refine gate_dst (N := 1) rfl ?_); refine kx (N := 1) (cs := #[.int .i64 a0_0, .int .i64 a0_1, .int .i64 a0_2, .int .i64 a0_3, .int .i64 a0_4, .int .i64 a0_5, .int .i64 a0_6, .int .i64 a0_7, .int .i64 a0_8]) (t := 23) ?_; intro gb116 hg w11 hbox hb; have n0_ := ka (below_step (kw HB.out) hb); have n1_ := ka (hbox); have n2_ := ka ((by rw [hg]; exact (below_size (kw HB.out)) : w.heap.size ≤ gb116)); have n3_ := n2_; clear HB; have HB := n0_; have BK116 := n1_; have GW116 := n2_; have GE116 := n3_; clear n0_ n1_ n2_ n3_; clear hb hbox hg; have hcz12 := blkAll9 BK116.out))
          go_ret
          exact ⟨by first | rfl | (simp [errW_none, errW_some] <;> rfl) | (simp [*, errW_none, errW_some] <;> rfl), by repeat (first | (with_reducible first | exact HB.out | apply kc1 | apply kc2 | apply kc3 | refine kc4 ?_ GE116.out) | exact HB.out)⟩
         ·rw [if_neg c10] at H
          have c10b0 : decide (a0_7 ≤ a0_1) = false := decide_eq_false c10
          clear c10
          obtain rfl := Option.some.inj H
          go_enter Try.func49, Try.ntmps49
          go_wp2_with (first | ((with_reducible refine gate_dst (N := 1) rfl ?_); refine kx (N := 1) (cs := #[.int .i64 a0_0, .int .i64 a0_1, .int .i64 a0_2, .int .i64 a0_3, .int .i64 a0_4, .int .i64 a0_5, .int .i64 a0_6, .int .i64 a0_7, .int .i64 a0_8]) (t := 23) ?_; intro gb116 hg w13 hbox hb; have n0_ := ka (below_step (kw HB.out) hb); have n1_ := ka (hbox); have n2_ := ka ((by rw [hg]; exact (below_size (kw HB.out)) : w.heap.size ≤ gb116)); have n3_ := n2_; clear HB; have HB := n0_; have BK116 := n1_; have GW116 := n2_; have GE116 := n3_; clear n0_ n1_ n2_ n3_; clear hb hbox hg; have hcz14 := blkAll9 BK116.out))
          go_ret
          exact ⟨by first | rfl | (simp [errW_none, errW_some] <;> rfl) | (simp [*, errW_none, errW_some] <;> rfl), by repeat (first | (with_reducible first | exact HB.out | apply kc1 | apply kc2 | apply kc3 | refine kc4 ?_ GE116.out) | exact HB.out)⟩
        ·rw [if_neg c9] at H
         have c9b0 : decide (0 ≤ a0_8) = false := decide_eq_false c9
         clear c9
         obtain rfl := Option.some.inj H
         go_enter Try.func49, Try.ntmps49
         go_wp2_with (first | ((with_reducible refine gate_dst (N := 1) rfl ?_); refine kx (N := 1) (cs := #[.int .i64 a0_0, .int .i64 a0_1, .int .i64 a0_2, .int .i64 a0_3, .int .i64 a0_4, .int .i64 a0_5, .int .i64 a0_6, .int .i64 a0_7, .int .i64 a0_8]) (t := 23) ?_; intro gb116 hg w15 hbox hb; have n0_ := ka (below_step (kw HB.out) hb); have n1_ := ka (hbox); have n2_ := ka ((by rw [hg]; exact (below_size (kw HB.out)) : w.heap.size ≤ gb116)); have n3_ := n2_; clear HB; have HB := n0_; have BK116 := n1_; have GW116 := n2_; have GE116 := n3_; clear n0_ n1_ n2_ n3_; clear hb hbox hg; have hcz16 := blkAll9 BK116.out))
         go_ret
         exact ⟨by first | rfl | (simp [errW_none, errW_some] <;> rfl) | (simp [*, errW_none, errW_some] <;> rfl), by repeat (first | (with_reducible first | exact HB.out | apply kc1 | apply kc2 | apply kc3 | refine kc4 ?_ GE116.out) | exact HB.out)⟩
       ·rw [if_neg c8] at H
        have c8b0 : decide (0 ≤ a0_7) = false := decide_eq_false c8
        clear c8
        obtain rfl := Option.some.inj H
        go_enter Try.func49, Try.ntmps49
        go_wp2_with (first | ((with_reducible refine gate_dst (N := 1) rfl ?_); refine kx (N := 1) (cs := #[.int .i64 a0_0, .int .i64 a0_1, .int .i64 a0_2, .int .i64 a0_3, .int .i64 a0_4, .int .i64 a0_5, .int .i64 a0_6, .int .i64 a0_7, .int .i64 a0_8]) (t := 23) ?_; intro gb116 hg w17 hbox hb; have n0_ := ka (below_step (kw HB.out) hb); have n1_ := ka (hbox); have n2_ := ka ((by rw [hg]; exact (below_size (kw HB.out)) : w.heap.size ≤ gb116)); have n3_ := n2_; clear HB; have HB := n0_; have BK116 := n1_; have GW116 := n2_; have GE116 := n3_; clear n0_ n1_ n2_ n3_; clear hb hbox hg; have hcz18 := blkAll9 BK116.out))
        go_ret
        exact ⟨by first | rfl | (simp [errW_none, errW_some] <;> rfl) | (simp [*, errW_none, errW_some] <;> rfl), by repeat (first | (with_reducible first | exact HB.out | apply kc1 | apply kc2 | apply kc3 | refine kc4 ?_ GE116.out) | exact HB.out)⟩
      ·rw [if_neg c7] at H
       have c7b0 : decide (a0_1 ≤ 300000) = false := decide_eq_false c7
       clear c7
       obtain rfl := Option.some.inj H
       go_enter Try.func49, Try.ntmps49
       go_wp2_with (first | ((with_reducible refine gate_dst (N := 1) rfl ?_); refine kx (N := 1) (cs := #[.int .i64 a0_0, .int .i64 a0_1, .int .i64 a0_2, .int .i64 a0_3, .int .i64 a0_4, .int .i64 a0_5, .int .i64 a0_6, .int .i64 a0_7, .int .i64 a0_8]) (t := 23) ?_; intro gb116 hg w19 hbox hb; have n0_ := ka (below_step (kw HB.out) hb); have n1_ := ka (hbox); have n2_ := ka ((by rw [hg]; exact (below_size (kw HB.out)) : w.heap.size ≤ gb116)); have n3_ := n2_; clear HB; have HB := n0_; have BK116 := n1_; have GW116 := n2_; have GE116 := n3_; clear n0_ n1_ n2_ n3_; clear hb hbox hg; have hcz20 := blkAll9 BK116.out))
       go_ret
       exact ⟨by first | rfl | (simp [errW_none, errW_some] <;> rfl) | (simp [*, errW_none, errW_some] <;> rfl), by repeat (first | (with_reducible first | exact HB.out | apply kc1 | apply kc2 | apply kc3 | refine kc4 ?_ GE116.out) | exact HB.out)⟩
     ·rw [if_neg c6] at H
      have c6b0 : decide (0 ≤ a0_1) = false := decide_eq_false c6
      clear c6
      obtain rfl := Option.some.inj H
      go_enter Try.func49, Try.ntmps49
      go_wp2_with (first | ((with_reducible refine gate_dst (N := 1) rfl ?_); refine kx (N := 1) (cs := #[.int .i64 a0_0, .int .i64 a0_1, .int .i64 a0_2, .int .i64 a0_3, .int .i64 a0_4, .int .i64 a0_5, .int .i64 a0_6, .int .i64 a0_7, .int .i64 a0_8]) (t := 23) ?_; intro gb116 hg w21 hbox hb; have n0_ := ka (below_step (kw HB.out) hb); have n1_ := ka (hbox); have n2_ := ka ((by rw [hg]; exact (below_size (kw HB.out)) : w.heap.size ≤ gb116)); have n3_ := n2_; clear HB; have HB := n0_; have BK116 := n1_; have GW116 := n2_; have GE116 := n3_; clear n0_ n1_ n2_ n3_; clear hb hbox hg; have hcz22 := blkAll9 BK116.out))
      go_ret
      exact ⟨by first | rfl | (simp [errW_none, errW_some] <;> rfl) | (simp [*, errW_none, errW_some] <;> rfl), by repeat (first | (with_reducible first | exact HB.out | apply kc1 | apply kc2 | apply kc3 | refine kc4 ?_ GE116.out) | exact HB.out)⟩
    ·rw [if_neg c5] at H
     have c5b0 : decide (a0_4 ≤ 10000000000000) = false := decide_eq_false c5
     clear c5
     obtain rfl := Option.some.inj H
     go_enter Try.func49, Try.ntmps49
     go_wp2_with (first | ((with_reducible refine gate_dst (N := 1) rfl ?_); refine kx (N := 1) (cs := #[.int .i64 a0_0, .int .i64 a0_1, .int .i64 a0_2, .int .i64 a0_3, .int .i64 a0_4, .int .i64 a0_5, .int .i64 a0_6, .int .i64 a0_7, .int .i64 a0_8]) (t := 23) ?_; intro gb116 hg w23 hbox hb; have n0_ := ka (below_step (kw HB.out) hb); have n1_ := ka (hbox); have n2_ := ka ((by rw [hg]; exact (below_size (kw HB.out)) : w.heap.size ≤ gb116)); have n3_ := n2_; clear HB; have HB := n0_; have BK116 := n1_; have GW116 := n2_; have GE116 := n3_; clear n0_ n1_ n2_ n3_; clear hb hbox hg; have hcz24 := blkAll9 BK116.out))
     go_ret
     exact ⟨by first | rfl | (simp [errW_none, errW_some] <;> rfl) | (simp [*, errW_none, errW_some] <;> rfl), by repeat (first | (with_reducible first | exact HB.out | apply kc1 | apply kc2 | apply kc3 | refine kc4 ?_ GE116.out) | exact HB.out)⟩
   ·rw [if_neg c4] at H
    have c4b0 : decide (0 ≤ a0_4) = false := decide_eq_false c4
    clear c4
    obtain rfl := Option.some.inj H
    go_enter Try.func49, Try.ntmps49
    go_wp2_with (first | ((with_reducible refine gate_dst (N := 1) rfl ?_); refine kx (N := 1) (cs := #[.int .i64 a0_0, .int .i64 a0_1, .int .i64 a0_2, .int .i64 a0_3, .int .i64 a0_4, .int .i64 a0_5, .int .i64 a0_6, .int .i64 a0_7, .int .i64 a0_8]) (t := 23) ?_; intro gb116 hg w25 hbox hb; have n0_ := ka (below_step (kw HB.out) hb); have n1_ := ka (hbox); have n2_ := ka ((by rw [hg]; exact (below_size (kw HB.out)) : w.heap.size ≤ gb116)); have n3_ := n2_; clear HB; have HB := n0_; have BK116 := n1_; have GW116 := n2_; have GE116 := n3_; clear n0_ n1_ n2_ n3_; clear hb hbox hg; have hcz26 := blkAll9 BK116.out))
    go_ret
    exact ⟨by first | rfl | (simp [errW_none, errW_some] <;> rfl) | (simp [*, errW_none, errW_some] <;> rfl), by repeat (first | (with_reducible first | exact HB.out | apply kc1 | apply kc2 | apply kc3 | refine kc4 ?_ GE116.out) | exact HB.out)⟩
  ·rw [if_neg c3] at H
   have c3b0 : decide (a0_0 ≤ 10000000000000) = false := decide_eq_false c3
   clear c3
   obtain rfl := Option.some.inj H
   go_enter Try.func49, Try.ntmps49
   go_wp2_with (first | ((with_reducible refine gate_dst (N := 1) rfl ?_); refine kx (N := 1) (cs := #[.int .i64 a0_0, .int .i64 a0_1, .int .i64 a0_2, .int .i64 a0_3, .int .i64 a0_4, .int .i64 a0_5, .int .i64 a0_6, .int .i64 a0_7, .int .i64 a0_8]) (t := 23) ?_; intro gb116 hg w27 hbox hb; have n0_ := ka (below_step (kw HB.out) hb); have n1_ := ka (hbox); have n2_ := ka ((by rw [hg]; exact (below_size (kw HB.out)) : w.heap.size ≤ gb116)); have n3_ := n2_; clear HB; have HB := n0_; have BK116 := n1_; have GW116 := n2_; have GE116 := n3_; clear n0_ n1_ n2_ n3_; clear hb hbox hg; have hcz28 := blkAll9 BK116.out))
   go_ret
   exact ⟨by first | rfl | (simp [errW_none, errW_some] <;> rfl) | (simp [*, errW_none, errW_some] <;> rfl), by repeat (first | (with_reducible first | exact HB.out | apply kc1 | apply kc2 | apply kc3 | refine kc4 ?_ GE116.out) | exact HB.out)⟩
 ·rw [if_neg c2] at H
  have c2b0 : decide (1 ≤ a0_0) = false := decide_eq_false c2
  clear c2
  obtain rfl := Option.some.inj H
  go_enter Try.func49, Try.ntmps49
  go_wp2_with (first | ((with_reducible refine gate_dst (N := 1) rfl ?_); refine kx (N := 1) (cs := #[.int .i64 a0_0, .int .i64 a0_1, .int .i64 a0_2, .int .i64 a0_3, .int .i64 a0_4, .int .i64 a0_5, .int .i64 a0_6, .int .i64 a0_7, .int .i64 a0_8]) (t := 23) ?_; intro gb116 hg w29 hbox hb; have n0_ := ka (below_step (kw HB.out) hb); have n1_ := ka (hbox); have n2_ := ka ((by rw [hg]; exact (below_size (kw HB.out)) : w.heap.size ≤ gb116)); have n3_ := n2_; clear HB; have HB := n0_; have BK116 := n1_; have GW116 := n2_; have GE116 := n3_; clear n0_ n1_ n2_ n3_; clear hb hbox hg; have hcz30 := blkAll9 BK116.out))
  go_ret
  exact ⟨by first | rfl | (simp [errW_none, errW_some] <;> rfl) | (simp [*, errW_none, errW_some] <;> rfl), by repeat (first | (with_reducible first | exact HB.out | apply kc1 | apply kc2 | apply kc3 | refine kc4 ?_ GE116.out) | exact HB.out)⟩

/-! ### terms_money_s: function 49, told plainly -/
theorem terms_money.tells (b r m f e i w fe g : Int) (h : M.In r ∧ M.In fe) : terms_money.f b r m f e i w fe g = some (decide (M.moneyOk b r e fe g)) := by
 obtain ⟨h1, h2⟩ := h
 unfold M.In at h1 h2
 unfold terms_money.f
 simp only [M.and_if]
 refine congrArg some (decide_eq_decide.mpr ?_)
 unfold M.moneyOk
 constructor
 ·rintro ⟨a1, a2, a3, a4, a5, a6, a7, a8, a9, a10⟩
  rw [M.w64_id (by omega) (by omega)] at a10
  omega
 ·rintro ⟨a1, a2, a3, a4, a5, a6, a7, a8, a9⟩
  rw [M.w64_id (by omega) (by omega)]
  omega
def terms_money_s.f (b r m f e i w fe g : Int) : Option Bool := if M.In r ∧ M.In fe then some (decide (M.moneyOk b r e fe g)) else none
theorem terms_money_s.calls (a0_0 : Int) (a0_1 : Int) (a0_2 : Int) (a0_3 : Int) (a0_4 : Int) (a0_5 : Int) (a0_6 : Int) (a0_7 : Int) (a0_8 : Int) (r : Bool) (w : World) (h : terms_money_s.f a0_0 a0_1 a0_2 a0_3 a0_4 a0_5 a0_6 a0_7 a0_8 = some r) :
  Calls Try.prog 49 #[.agg #[.int .i64 a0_0, .int .i64 a0_1, .int .i64 a0_2, .int .i64 a0_3, .int .i64 a0_4, .int .i64 a0_5, .int .i64 a0_6, .int .i64 a0_7, .int .i64 a0_8]] w fun e w' => e = .returned (.bool r) ∧ Below w.heap.size w w' := by
 unfold terms_money_s.f at h
 split at h
 ·rename_i hr
  exact terms_money.calls a0_0 a0_1 a0_2 a0_3 a0_4 a0_5 a0_6 a0_7 a0_8 r w ((terms_money.tells a0_0 a0_1 a0_2 a0_3 a0_4 a0_5 a0_6 a0_7 a0_8 hr).trans h)
 ·cases h
theorem terms_money_s.at_ {b r m f e i w fe g : Int} (h : M.In r ∧ M.In fe) : terms_money_s.f b r m f e i w fe g = some (decide (M.moneyOk b r e fe g)) := by unfold terms_money_s.f; rw [if_pos h]

end Go.Proofs.Ytimobafoidplaaa.P
