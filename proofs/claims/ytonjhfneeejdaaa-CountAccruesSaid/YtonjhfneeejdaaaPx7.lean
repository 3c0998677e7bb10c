-- Written by a program of this session out of the translation of the seat: Lean functions and the proofs that the Go functions come to them.
import Derived.Test.YtonjhfneeejdaaaPx0
import Derived.Test.YtonjhfneeejdaaaPx4
import Derived.Test.YtonjhfneeejdaaaPx6
namespace Go.Proofs.Ytonjhfneeejdaaa.P
open Go.RowKit Go.Proofs.YtonjhfneeejdaaaW.PrintWords Go.Proofs.YtonjhfneeejdaaaW.PrintLast Go.Proofs.YtonjhfneeejdaaaW.PrintMore
attribute [local go_sem] max2_int min2_int max_two min_two max_three min_three max_four min_four   -- for this text's walks alone
set_option linter.unusedVariables false
set_option linter.unusedSimpArgs false

/-! ### trivetref01_Add: function 28 -/
def trivetref01_Add.f (k : Nat) (l0_0 : List Int) (a0_1 : Bool) (l1_0 : List Int) (a1_1 : Bool) : Option (List Int × Bool) := if (a0_1 == a1_1) = true then ((trivetref01_plus.f k l0_0 l1_0).bind fun t510 => ((trivetref01_norm.f k t510 a0_1).bind fun bt513 => (some (bt513.1, bt513.2)))) else ((trivetref01_less.f k l0_0 l1_0).bind fun t517 => (if t517 = true then ((trivetref01_minus.f k l1_0 l0_0).bind fun t518 => ((trivetref01_norm.f k t518 a1_1).bind fun bt521 => (some (bt521.1, bt521.2)))) else ((trivetref01_minus.f k l0_0 l1_0).bind fun t525 => ((trivetref01_norm.f k t525 a0_1).bind fun bt528 => (some (bt528.1, bt528.2))))))
theorem trivetref01_Add.mono : ∀ a0 a1 a2 a3 k, LeO (trivetref01_Add.f k a0 a1 a2 a3) (trivetref01_Add.f (k + 1) a0 a1 a2 a3) := by
 intro a0 a1 a2 a3 k
 unfold trivetref01_Add.f
 repeat' first
   | (with_reducible exact trivetref01_less.mono _ _ _)
   | (with_reducible exact trivetref01_minus.mono _ _ _)
   | (with_reducible exact trivetref01_norm.mono _ _ _)
   | (with_reducible exact trivetref01_plus.mono _ _ _)
   | (with_reducible exact LeO.refl _)
   | (with_reducible exact LeO.none _)
   | (with_reducible refine LeO.ite ?_ ?_)
   | (with_reducible refine LeO.bind ?_ (fun _ => ?_))
   | exact trivetref01_less.mono _ _ _
   | exact trivetref01_minus.mono _ _ _
   | exact trivetref01_norm.mono _ _ _
   | exact trivetref01_plus.mono _ _ _
   | exact LeO.none _
   | refine LeO.ite ?_ ?_
   | refine LeO.bind ?_ (fun _ => ?_)
def trivetref01_Add.T2 : Bool × List (List Nat × List Nat) := (true, [([], []), ([0], [0]), ([], []), ([2], [2]), ([1, 3], [1, 3]), ([], []), ([5], [5]), ([4, 6, 4], [4, 6]), ([7, 7, 0, 1, 2, 3, 4, 5, 6, 7], [7])])
def trivetref01_Add.B2 : List Nat := [0, 1, 0, 4, 15, 0, 32, 127, 255]
theorem trivetref01_Add.tab2 : rtab .any (opsOf Try.f28 2) = trivetref01_Add.T2 := by kernel_rfl
theorem trivetref01_Add.bits2 : waitsOk trivetref01_Add.T2.2 trivetref01_Add.B2 = true := by kernel_rfl
def trivetref01_Add.T5 : Bool × List (List Nat × List Nat) := (true, [([], []), ([0], [0]), ([], []), ([2], [2]), ([1, 3], [1, 3]), ([], []), ([5], [5]), ([4, 6, 4], [4, 6]), ([7, 7, 0, 1, 2, 3, 4, 5, 6, 7], [7])])
def trivetref01_Add.B5 : List Nat := [0, 1, 0, 4, 15, 0, 32, 127, 255]
theorem trivetref01_Add.tab5 : rtab .any (opsOf Try.f28 5) = trivetref01_Add.T5 := by kernel_rfl
theorem trivetref01_Add.bits5 : waitsOk trivetref01_Add.T5.2 trivetref01_Add.B5 = true := by kernel_rfl
def trivetref01_Add.T6 : Bool × List (List Nat × List Nat) := (true, [([], []), ([0], [0]), ([], []), ([2], [2]), ([1, 3], [1, 3]), ([], []), ([5], [5]), ([4, 6, 4], [4, 6]), ([7, 7, 0, 1, 2, 3, 4, 5, 6, 7], [7])])
def trivetref01_Add.B6 : List Nat := [0, 1, 0, 4, 15, 0, 32, 127, 255]
theorem trivetref01_Add.tab6 : rtab .any (opsOf Try.f28 6) = trivetref01_Add.T6 := by kernel_rfl
theorem trivetref01_Add.bits6 : waitsOk trivetref01_Add.T6.2 trivetref01_Add.B6 = true := by kernel_rfl
set_option maxHeartbeats 8000000 in
set_option maxRecDepth 100000 in
theorem trivetref01_Add.calls (k : Nat) (A0_0 : Option Addr) (c0_0 : Nat) (l0_0 : List Int) (a0_1 : Bool) (A1_0 : Option Addr) (c1_0 : Nat) (l1_0 : List Int) (a1_1 : Bool) (r1 : List Int) (r2 : Bool) (w : World) (hr0_0 : Kd.C (Kd.int .u64) w A0_0 l0_0.length l0_0) (hc0_0 : l0_0.length ≤ c0_0) (hr1_0 : Kd.C (Kd.int .u64) w A1_0 l1_0.length l1_0) (hc1_0 : l1_0.length ≤ c1_0) (h : trivetref01_Add.f k l0_0 a0_1 l1_0 a1_1 = some (r1, r2)) :
  Calls Try.prog 28 #[.agg #[.slice A0_0 l0_0.length c0_0, .bool a0_1], .agg #[.slice A1_0 l1_0.length c1_0, .bool a1_1]] w fun e w' => ∃ v0_ : Value, e = .returned (.agg #[v0_, .bool r2]) ∧ Kd.V (Kd.int .u64) 53 w' w.heap.size (fun k_ => (w.heap.size ≤ k_)) v0_ r1 ∧ Below w.heap.size w w' := by
 have hu37 := Try.underlying37
 have HR0_0 := ka hr0_0
 have HC0_0 := ka hc0_0
 clear hr0_0 hc0_0
 have HR1_0 := ka hr1_0
 have HC1_0 := ka hc1_0
 clear hr1_0 hc1_0
 have HB := ka (Below.refl w.heap.size w)
 have H : (if (a0_1 == a1_1) = true then ((trivetref01_plus.f k l0_0 l1_0).bind fun t510 => ((trivetref01_norm.f k t510 a0_1).bind fun bt513 => (some (bt513.1, bt513.2)))) else ((trivetref01_less.f k l0_0 l1_0).bind fun t517 => (if t517 = true then ((trivetref01_minus.f k l1_0 l0_0).bind fun t518 => ((trivetref01_norm.f k t518 a1_1).bind fun bt521 => (some (bt521.1, bt521.2)))) else ((trivetref01_minus.f k l0_0 l1_0).bind fun t525 => ((trivetref01_norm.f k t525 a0_1).bind fun bt528 => (some (bt528.1, bt528.2))))))) = some (r1, r2) := h
 clear h
 by_cases c3 : (a0_1 == a1_1) = true
 ·rw [if_pos c3] at H
  have c3b0 : (a0_1 == a1_1) = true := c3
  (try (have c3b1 : decide (a0_1 = a1_1) = true := by simpa using c3))
  (try (have c3b2 : (a0_1 == a1_1) = true := by simpa using c3))
  clear c3
  replace H := Option.bind_eq_some_iff.mp H
  obtain ⟨t510, A40, H⟩ := H
  replace H : ((trivetref01_norm.f k t510 a0_1).bind fun bt513 => (some (bt513.1, bt513.2))) = some (r1, r2) := H
  have A4 := ka A40
  clear A40
  replace H := Option.bind_eq_some_iff.mp H
  obtain ⟨⟨t513, t516⟩, A50, H⟩ := H
  replace H : (some (t513, t516)) = some (r1, r2) := H
  have A5 := ka A50
  clear A50
  simp only [Option.some.injEq, Prod.mk.injEq] at H
  obtain ⟨rfl, rfl⟩ := H
  go_enter Try.func28, Try.ntmps28
  try go_wp2_with (first | ((with_reducible refine gate_dst (N := 2) rfl ?_); refine kx (N := 2) (cs := #[.slice A0_0 l0_0.length c0_0, .bool a0_1]) (t := 37) ?_; intro gb507 hg w6 hbox hb; have n0_ := ka (below_step (kw HB.out) hb); have n1_ := ka (hbox); have n2_ := ka ((by rw [hg]; exact (below_size (kw HB.out)) : w.heap.size ≤ gb507)); have n3_ := n2_; clear HB; have HB := n0_; have BK507 := n1_; have GW507 := n2_; have GE507 := n3_; clear n0_ n1_ n2_ n3_; clear hb hbox hg) | ((with_reducible refine gate_dst (N := 3) rfl ?_); refine kx (N := 3) (cs := #[.slice A1_0 l1_0.length c1_0, .bool a1_1]) (t := 37) ?_; intro gb508 hg w7 hbox hb; have n0_ := ka (blk_below (g := gb507) (kz BK507.out) hb); have n1_ := ka (below_step (kw HB.out) hb); have n2_ := ka (hbox); have n3_ := ka ((by rw [hg]; exact (below_size (kw HB.out)) : w.heap.size ≤ gb508)); have n4_ := n3_; have n5_ := ka ((by rw [hg]; exact Nat.ne_of_lt (blk_lt (g := gb507) (kz BK507.out)) : gb507 ≠ gb508)); have n6_ := ka n5_.out.symm; clear BK507; clear HB; have BK507 := n0_; have HB := n1_; have BK508 := n2_; have GW508 := n3_; have GE508 := n4_; have NB507_508 := n5_; have NB508_507 := n6_; clear n0_ n1_ n2_ n3_ n4_ n5_ n6_; clear hb hbox hg) | ((with_reducible refine gate_dst (N := 4) rfl ?_); refine kx (N := 4) (cs := #[.slice none 0 0, .bool false]) (t := 37) ?_; intro gb509 hg w8 hbox hb; have n0_ := ka (blk_below (g := gb507) (kz BK507.out) hb); have n1_ := ka (blk_below (g := gb508) (kz BK508.out) hb); have n2_ := ka (below_step (kw HB.out) hb); have n3_ := ka (hbox); have n4_ := ka ((by rw [hg]; exact (below_size (kw HB.out)) : w.heap.size ≤ gb509)); have n5_ := n4_; have n6_ := ka ((by rw [hg]; exact Nat.ne_of_lt (blk_lt (g := gb507) (kz BK507.out)) : gb507 ≠ gb509)); have n7_ := ka n6_.out.symm; have n8_ := ka ((by rw [hg]; exact Nat.ne_of_lt (blk_lt (g := gb508) (kz BK508.out)) : gb508 ≠ gb509)); have n9_ := ka n8_.out.symm; clear BK507; clear BK508; clear HB; have BK507 := n0_; have BK508 := n1_; have HB := n2_; have BK509 := n3_; have GW509 := n4_; have GE509 := n5_; have NB507_509 := n6_; have NB509_507 := n7_; have NB508_509 := n8_; have NB509_508 := n9_; clear n0_ n1_ n2_ n3_ n4_ n5_ n6_ n7_ n8_ n9_; clear hb hbox hg; have hnb9 := NB507_508.out; have hnc9 := NB508_507.out; have hnb10 := NB507_509.out; have hnc10 := NB509_507.out; have hcz11 := blkAll2 BK507.out; have hnb12 := NB508_509.out; have hnc12 := NB509_508.out; have hcz13 := blkAll2 BK508.out))
  replace BK507 := ka (blk_drew BK507.out)
  replace BK508 := ka (blk_drew BK508.out)
  replace BK509 := ka (blk_drew BK509.out)
  replace HB := ka (below_drew1 HB.out)
  refine start_ (n := 9) (S := fun w' => w'.cell? ⟨gb507, 0, none⟩ = some (.slice A0_0 l0_0.length c0_0) ∧ w'.cell? ⟨gb507, 1, none⟩ = some (.bool a0_1) ∧ w'.cell? ⟨gb508, 0, none⟩ = some (.slice A1_0 l1_0.length c1_0) ∧ w'.cell? ⟨gb508, 1, none⟩ = some (.bool a1_1)) (ds := []) #[false, false, false, false, false, false, false, false, false] (by kernel_rfl) rfl rfl ⟨(blk_cell BK507.out 0).trans rfl, (blk_cell BK507.out 1).trans rfl, (blk_cell BK508.out 0).trans rfl, (blk_cell BK508.out 1).trans rfl⟩ (fun hHeld => ?_); refine with_tabW trivetref01_Add.tab2 trivetref01_Add.bits2 (fun HT_ HW_ => ?_)
  generalize w8.drew = w14 at BK507 BK508 BK509 HB hHeld ⊢
  refine pure_ (i := 0) (N := some 11) (v := ?_) (a' := ?_) #[true, false, false, false, false, false, false, false, false] rfl rfl (any_of HT_.out (by kernel_rfl)) (fun _ _ _ h => h) (Or.inl ⟨by rfl, ?_⟩) ?_ ?_
  rotate_left
  ·intro w'
   go_simp
   with_reducible rfl
  rotate_left
  ·simp only [Act.put, List.setIfInBounds_toArray, List.set_cons_zero, List.set_cons_succ, i64_w, i32_w]
   rfl
  refine pure_ (i := 2) (N := some 13) (v := ?_) (a' := ?_) #[true, false, true, false, false, false, false, false, false] rfl rfl (any_of HT_.out (by kernel_rfl)) (fun _ _ _ h => h) (Or.inl ⟨by rfl, ?_⟩) ?_ ?_
  rotate_left
  ·intro w'
   go_simp
   with_reducible rfl
  rotate_left
  ·simp only [Act.put, List.setIfInBounds_toArray, List.set_cons_zero, List.set_cons_succ, i64_w, i32_w]
   rfl
  refine pure_ (i := 5) (N := some 16) (v := ?_) (a' := ?_) #[true, false, true, false, false, true, false, false, false] rfl rfl (any_of HT_.out (by kernel_rfl)) (fun _ _ _ h => h) (Or.inl ⟨by rfl, ?_⟩) ?_ ?_
  rotate_left
  ·intro w'
   go_simp
   with_reducible rfl
  rotate_left
  ·simp only [Act.put, List.setIfInBounds_toArray, List.set_cons_zero, List.set_cons_succ, i64_w, i32_w]
   rfl
  refine take_ (i := 1) (N := some 12) (v := ?_) (a' := ?_) #[true, true, true, false, false, true, false, false, false] rfl rfl (take_ofW HT_.out HW_.out (by kernel_rfl)) (fun _ _ _ h => h) (Or.inl ⟨by rfl, ?_⟩) hHeld ?_ ?_
  rotate_left
  ·rintro w' ⟨s0, s1, s2, s3⟩
   go_simp
   with_reducible rfl
  rotate_left
  ·simp only [Act.put, List.setIfInBounds_toArray, List.set_cons_zero, List.set_cons_succ, i64_w, i32_w]
   rfl
  refine take_ (i := 3) (N := some 14) (v := ?_) (a' := ?_) #[true, true, true, true, false, true, false, false, false] rfl rfl (take_ofW HT_.out HW_.out (by kernel_rfl)) (fun _ _ _ h => h) (Or.inl ⟨by rfl, ?_⟩) hHeld ?_ ?_
  rotate_left
  ·rintro w' ⟨s0, s1, s2, s3⟩
   go_simp
   with_reducible rfl
  rotate_left
  ·simp only [Act.put, List.setIfInBounds_toArray, List.set_cons_zero, List.set_cons_succ, i64_w, i32_w]
   rfl
  refine take_ (i := 6) (N := some 17) (v := ?_) (a' := ?_) #[true, true, true, true, false, true, true, false, false] rfl rfl (take_ofW HT_.out HW_.out (by kernel_rfl)) (fun _ _ _ h => h) (Or.inl ⟨by rfl, ?_⟩) hHeld ?_ ?_
  rotate_left
  ·rintro w' ⟨s0, s1, s2, s3⟩
   go_simp
   with_reducible rfl
  rotate_left
  ·simp only [Act.put, List.setIfInBounds_toArray, List.set_cons_zero, List.set_cons_succ, i64_w, i32_w]
   rfl
  refine one_ (i := 4) (N := some 15) #[true, true, true, true, true, true, true, false, false] rfl rfl (one_of HT_.out (by kernel_rfl)) (by decide) (fun K hK => ?_)
  refine goes_ Try.func24 (by kernel_rfl) rfl #[.slice A0_0 l0_0.length c0_0, .slice A1_0 l1_0.length c1_0] (by rfl) rfl rfl (by (try simp only [List.map_toArray, List.map_cons, List.map_nil]); first | done | rfl | (simp only [List.length_drop, List.length_take]; rfl)) ?_
  with_reducible refine (trivetref01_plus.calls k _ _ l0_0 _ _ l1_0 t510 _ ?side1 ?side2 ?side3 ?side4 A4.out).mono ?_
  (case side1 => repeat (first | exact (Kd.C_below HR0_0.out HB.out) | (with_reducible refine Kd.C_alloc ?_ _) | (with_reducible refine Kd.C_drewN ?_ _) | (with_reducible refine Kd.C_drew ?_)))
  (case side2 => exact HC0_0.out)
  (case side3 => repeat (first | exact (Kd.C_below HR1_0.out HB.out) | (with_reducible refine Kd.C_alloc ?_ _) | (with_reducible refine Kd.C_drewN ?_ _) | (with_reducible refine Kd.C_drew ?_)))
  (case side4 => exact HC1_0.out)
  rintro e w15 ⟨v511, rfl, ho0, hb⟩
  refine ⟨_, rfl, ?_⟩
  have HO512 := ka (Kd.R_lower (Kd.R_newM (M := fun k_ => (w.heap.size ≤ k_)) ho0 (below_size (kw HB.out)) (fun k_ h_ => h_)) (below_size (kw HB.out)))
  replace BK507 := kbb BK507 hb
  replace BK508 := kbb BK508 hb
  replace BK509 := kbb BK509 hb
  replace HB := ka (below_step (kw HB.out) hb)
  (try clear hb)
  (try clear hb2)
  (try clear hk)
  (try clear hi)
  (try clear ho0)
  obtain ⟨Ao16, co16, eo16⟩ := Kd.R_slice HO512.out
  (first | subst eo16 | (injection eo16 with f1_ f2_ f3_; have f4_ := f1_.symm; have f5_ := f3_.symm; clear f1_ f2_ f3_; subst f4_; subst f5_))
  refine hK.out _ _ ⟨(blk_cell BK507.out 0).trans rfl, (blk_cell BK507.out 1).trans rfl, (blk_cell BK508.out 0).trans rfl, (blk_cell BK508.out 1).trans rfl⟩ (fun hHeld => ?_)
  clear hK K
  refine norm_ (a' := ?_) ?_ ?_
  rotate_left
  ·show Act.put _ (some 15) _ = _
   simp only [Act.put, List.setIfInBounds_toArray, List.set_cons_zero, List.set_cons_succ, i64_w, i32_w]
   rfl
  refine one_ (i := 7) (N := some 18) #[true, true, true, true, true, true, true, true, false] rfl rfl (one_of HT_.out (by kernel_rfl)) (by decide) (fun K hK => ?_)
  refine goes_ Try.func25 (by kernel_rfl) rfl #[.slice Ao16 t510.length co16, .bool a0_1] (by rfl) rfl rfl (by (try simp only [List.map_toArray, List.map_cons, List.map_nil]); first | done | rfl | (simp only [List.length_drop, List.length_take]; rfl)) ?_
  with_reducible refine (trivetref01_norm.calls k (fun k_ => some k_ = (.slice Ao16 t510.length co16 : Value).ownBlock) _ _ t510 a0_1 t513 t516 _ ?side1 A5.out).mono ?_
  (case side1 => exact Kd.R_V (Kd.R_tight rfl (Kd.R_types (Kd.R_types (Kd.R_types (HO512.out) BK507.out (by decide)) BK508.out (by decide)) BK509.out (by decide))))
  rintro e w17 ⟨v514, rfl, ho0, hb⟩
  refine ⟨_, rfl, ?_⟩
  have HO515 := ka (Kd.V_lower (Kd.V_mono (ok' := fun k_ => (w.heap.size ≤ k_) ∧ k_ ≠ gb507 ∧ k_ ≠ gb508 ∧ k_ ≠ gb509) ho0 (fun k_ hk_ => ⟨Or.elim hk_ (fun hs_ => ((Kd.R_types (Kd.R_types (Kd.R_types (HO512.out) BK507.out (by decide)) BK508.out (by decide)) BK509.out (by decide)).1 k_ hs_.symm).1.1.1.1) (fun hn_ => (Nat.le_trans (below_size (kw HB.out)) hn_)), Or.elim hk_ (fun hs_ => ((Kd.R_types (Kd.R_types (Kd.R_types (HO512.out) BK507.out (by decide)) BK508.out (by decide)) BK509.out (by decide)).1 k_ hs_.symm).1.1.2) (fun hn_ => (kf BK507 hn_)), Or.elim hk_ (fun hs_ => ((Kd.R_types (Kd.R_types (Kd.R_types (HO512.out) BK507.out (by decide)) BK508.out (by decide)) BK509.out (by decide)).1 k_ hs_.symm).1.2) (fun hn_ => (kf BK508 hn_)), Or.elim hk_ (fun hs_ => ((Kd.R_types (Kd.R_types (Kd.R_types (HO512.out) BK507.out (by decide)) BK508.out (by decide)) BK509.out (by decide)).1 k_ hs_.symm).2) (fun hn_ => (kf BK509 hn_))⟩)) (below_size (kw HB.out)))
  replace HO512 := ka (Kd.R_below (kr HO512.out) hb)
  replace BK507 := kbb BK507 hb
  replace BK508 := kbb BK508 hb
  replace BK509 := kbb BK509 hb
  replace HB := ka (below_step (kw HB.out) hb)
  (try clear hb)
  (try clear hb2)
  (try clear hk)
  (try clear hi)
  (try clear ho0)
  obtain ⟨Ao18, co18, eo18⟩ := Kd.V_slice HO515.out
  (first | subst eo18 | (injection eo18 with f1_ f2_ f3_; have f4_ := f1_.symm; have f5_ := f3_.symm; clear f1_ f2_ f3_; subst f4_; subst f5_))
  refine hK.out _ _ ⟨(blk_cell BK507.out 0).trans rfl, (blk_cell BK507.out 1).trans rfl, (blk_cell BK508.out 0).trans rfl, (blk_cell BK508.out 1).trans rfl⟩ (fun hHeld => ?_)
  clear hK K
  refine norm_ (a' := ?_) ?_ ?_
  rotate_left
  ·show Act.put _ (some 18) _ = _
   simp only [Act.put, List.setIfInBounds_toArray, List.set_cons_zero, List.set_cons_succ, i64_w, i32_w]
   rfl
  refine one_ (i := 8) (N := none) #[true, true, true, true, true, true, true, true, true] rfl rfl (one_of HT_.out (by kernel_rfl)) (by decide) (fun K hK => ?_)
  have hs19 : w17.cell? ⟨gb509, 0, none⟩ = some (.slice none 0 0) := (blk_cell BK509.out 0).trans rfl
  have hfs19 := blk_frozen BK509.out 0
  have hns19_0 := NB507_509.out
  have hns19_1 := NB508_509.out
  have hms19_0 := NB509_507.out
  have hms19_1 := NB509_508.out
  have hs20 : w17.cell? ⟨gb509, 1, none⟩ = some (.bool false) := (blk_cell BK509.out 1).trans rfl
  have hfs20 := blk_frozen BK509.out 1
  have hns20_0 := NB507_509.out
  have hns20_1 := NB508_509.out
  have hms20_0 := NB509_507.out
  have hms20_1 := NB509_508.out
  refine skip_ (w1 := ?_) (by rfl) rfl ?_ ?_
  rotate_left
  ·go_simp
   rfl
  refine hK.out _ _ ⟨((cell_far (p := ⟨gb509, _, none⟩) NB507_509.out _).trans (((cell_far (p := ⟨gb509, _, none⟩) NB507_509.out _).trans (hHeld.1)))), ((cell_far (p := ⟨gb509, _, none⟩) NB507_509.out _).trans (((cell_far (p := ⟨gb509, _, none⟩) NB507_509.out _).trans (hHeld.2.1)))), ((cell_far (p := ⟨gb509, _, none⟩) NB508_509.out _).trans (((cell_far (p := ⟨gb509, _, none⟩) NB508_509.out _).trans (hHeld.2.2.1)))), ((cell_far (p := ⟨gb509, _, none⟩) NB508_509.out _).trans (((cell_far (p := ⟨gb509, _, none⟩) NB508_509.out _).trans (hHeld.2.2.2))))⟩ (fun hHeld => ?_)
  clear hK K
  refine done_ (done_of HT_.out (by kernel_rfl)) ?_
  try go_wp2
  refine bodyPost_ret (results_cell_row rfl _ _ gb509 37 #[.slice Ao18 t513.length co18, .bool t516] (0, 0) _ rfl (by (with_reducible repeat (first | apply kb1 | apply kb2 | apply kb3 | apply blkPut2_1 | apply blkPut2_0)); exact BK509.out) Try.underlying37 rfl (by kernel_rfl)) rfl ?_
  exact ⟨_, by first | rfl | (simp [errW_none, errW_some] <;> rfl) | (simp [*, errW_none, errW_some] <;> rfl), by (with_reducible repeat (first | apply Kd.V_alloc | apply Kd.V_drewN | apply Kd.V_drew)); exact Kd.V_mono (Kd.V_far (p := ⟨gb509, 1, none⟩) (Kd.V_far (p := ⟨gb509, 0, none⟩) (Kd.V_mono HO515.out (fun k_ hk => (⟨hk, hk.2.2.2⟩ : _ ∧ k_ ≠ gb509))) (fun _ hk => hk.2) (.slice Ao18 t513.length co18)) (fun _ hk => hk.2) (.bool t516)) (fun _ hk => hk.1.1), by repeat (first | (with_reducible first | exact HB.out | apply kc1 | apply kc2 | apply kc3 | refine kc4 ?_ GE507.out | refine kc4 ?_ GE508.out | refine kc4 ?_ GE509.out) | exact HB.out)⟩
 ·rw [if_neg c3] at H
  have c3b0 : (a0_1 == a1_1) = false := by simpa using c3
  (try (have c3b1 : decide (a0_1 = a1_1) = false := by simpa using c3))
  (try (have c3b2 : (a0_1 == a1_1) = false := by simpa using c3))
  (try (have c3b3 : ¬ (a0_1 = a1_1) := by simpa using c3))
  clear c3
  replace H := Option.bind_eq_some_iff.mp H
  obtain ⟨t517, A210, H⟩ := H
  replace H : (if t517 = true then ((trivetref01_minus.f k l1_0 l0_0).bind fun t518 => ((trivetref01_norm.f k t518 a1_1).bind fun bt521 => (some (bt521.1, bt521.2)))) else ((trivetref01_minus.f k l0_0 l1_0).bind fun t525 => ((trivetref01_norm.f k t525 a0_1).bind fun bt528 => (some (bt528.1, bt528.2))))) = some (r1, r2) := H
  have A21 := ka A210
  clear A210
  by_cases c22 : t517 = true
  ·subst c22
   have H1 : ((trivetref01_minus.f k l1_0 l0_0).bind fun t518 => ((trivetref01_norm.f k t518 a1_1).bind fun bt521 => (some (bt521.1, bt521.2)))) = some (r1, r2) := by rw [if_pos rfl] at H; exact H
   clear H
   have H := H1
   clear H1
   replace H := Option.bind_eq_some_iff.mp H
   obtain ⟨t518, A230, H⟩ := H
   replace H : ((trivetref01_norm.f k t518 a1_1).bind fun bt521 => (some (bt521.1, bt521.2))) = some (r1, r2) := H
   have A23 := ka A230
   clear A230
   replace H := Option.bind_eq_some_iff.mp H
   obtain ⟨⟨t521, t524⟩, A240, H⟩ := H
   replace H : (some (t521, t524)) = some (r1, r2) := H
   have A24 := ka A240
   clear A240
   simp only [Option.some.injEq, Prod.mk.injEq] at H
   obtain ⟨rfl, rfl⟩ := H
   go_enter Try.func28, Try.ntmps28
   try go_wp2_with (first | ((with_reducible refine gate_dst (N := 2) rfl ?_); refine kx (N := 2) (cs := #[.slice A0_0 l0_0.length c0_0, .bool a0_1]) (t := 37) ?_; intro gb507 hg w25 hbox hb; have n0_ := ka (below_step (kw HB.out) hb); have n1_ := ka (hbox); have n2_ := ka ((by rw [hg]; exact (below_size (kw HB.out)) : w.heap.size ≤ gb507)); have n3_ := n2_; clear HB; have HB := n0_; have BK507 := n1_; have GW507 := n2_; have GE507 := n3_; clear n0_ n1_ n2_ n3_; clear hb hbox hg) | ((with_reducible refine gate_dst (N := 3) rfl ?_); refine kx (N := 3) (cs := #[.slice A1_0 l1_0.length c1_0, .bool a1_1]) (t := 37) ?_; intro gb508 hg w26 hbox hb; have n0_ := ka (blk_below (g := gb507) (kz BK507.out) hb); have n1_ := ka (below_step (kw HB.out) hb); have n2_ := ka (hbox); have n3_ := ka ((by rw [hg]; exact (below_size (kw HB.out)) : w.heap.size ≤ gb508)); have n4_ := n3_; have n5_ := ka ((by rw [hg]; exact Nat.ne_of_lt (blk_lt (g := gb507) (kz BK507.out)) : gb507 ≠ gb508)); have n6_ := ka n5_.out.symm; clear BK507; clear HB; have BK507 := n0_; have HB := n1_; have BK508 := n2_; have GW508 := n3_; have GE508 := n4_; have NB507_508 := n5_; have NB508_507 := n6_; clear n0_ n1_ n2_ n3_ n4_ n5_ n6_; clear hb hbox hg) | ((with_reducible refine gate_dst (N := 4) rfl ?_); refine kx (N := 4) (cs := #[.slice none 0 0, .bool false]) (t := 37) ?_; intro gb509 hg w27 hbox hb; have n0_ := ka (blk_below (g := gb507) (kz BK507.out) hb); have n1_ := ka (blk_below (g := gb508) (kz BK508.out) hb); have n2_ := ka (below_step (kw HB.out) hb); have n3_ := ka (hbox); have n4_ := ka ((by rw [hg]; exact (below_size (kw HB.out)) : w.heap.size ≤ gb509)); have n5_ := n4_; have n6_ := ka ((by rw [hg]; exact Nat.ne_of_lt (blk_lt (g := gb507) (kz BK507.out)) : gb507 ≠ gb509)); have n7_ := ka n6_.out.symm; have n8_ := ka ((by rw [hg]; exact Nat.ne_of_lt (blk_lt (g := gb508) (kz BK508.out)) : gb508 ≠ gb509)); have n9_ := ka n8_.out.symm; clear BK507; clear BK508; clear HB; have BK507 := n0_; have BK508 := n1_; have HB := n2_; have BK509 := n3_; have GW509 := n4_; have GE509 := n5_; have NB507_509 := n6_; have NB509_507 := n7_; have NB508_509 := n8_; have NB509_508 := n9_; clear n0_ n1_ n2_ n3_ n4_ n5_ n6_ n7_ n8_ n9_; clear hb hbox hg; have hnb28 := NB507_508.out; have hnc28 := NB508_507.out; have hnb29 := NB507_509.out; have hnc29 := NB509_507.out; have hcz30 := blkAll2 BK507.out; have hnb31 := NB508_509.out; have hnc31 := NB509_508.out; have hcz32 := blkAll2 BK508.out) | ((with_reducible refine gate_callee (f := 40) rfl ?_); refine kg (some 23) rfl rfl Try.func40 (by kernel_rfl) rfl #[.slice A0_0 l0_0.length c0_0, .slice A1_0 l1_0.length c1_0] rfl ?_; (with_reducible refine (trivetref01_less.calls k _ _ l0_0 _ _ l1_0 true _ ?side1 ?side2 ?side3 ?side4 A21.out).mono ?_); (case side1 => repeat (first | exact (Kd.C_below HR0_0.out HB.out) | (with_reducible refine Kd.C_alloc ?_ _) | (with_reducible refine Kd.C_drewN ?_ _) | (with_reducible refine Kd.C_drew ?_))); (case side2 => exact HC0_0.out); (case side3 => repeat (first | exact (Kd.C_below HR1_0.out HB.out) | (with_reducible refine Kd.C_alloc ?_ _) | (with_reducible refine Kd.C_drewN ?_ _) | (with_reducible refine Kd.C_drew ?_))); (case side4 => exact HC1_0.out); rintro e w' ⟨rfl, ⟨nd, rfl⟩⟩; refine ⟨_, rfl, ?_⟩; (try (rw [drewN_self w27]; generalize hq_ : World.drewN w27 _ = w27; replace BK507 : Aside0 (w27.heap[gb507]? = some (.cells #[.slice A0_0 l0_0.length c0_0, .bool a0_1] 37 (0, 0))) := ⟨by rw [← hq_]; exact (kz BK507.out)⟩; replace BK508 : Aside0 (w27.heap[gb508]? = some (.cells #[.slice A1_0 l1_0.length c1_0, .bool a1_1] 37 (0, 0))) := ⟨by rw [← hq_]; exact (kz BK508.out)⟩; replace BK509 : Aside0 (w27.heap[gb509]? = some (.cells #[.slice none 0 0, .bool false] 37 (0, 0))) := ⟨by rw [← hq_]; exact (kz BK509.out)⟩; replace HB : Aside0 (Below w.heap.size w w27) := ⟨by rw [← hq_]; exact (kw HB.out)⟩; clear hq_))))
   replace BK507 := ka (blk_drew BK507.out)
   replace BK508 := ka (blk_drew BK508.out)
   replace BK509 := ka (blk_drew BK509.out)
   replace HB := ka (below_drew1 HB.out)
   refine start_ (n := 9) (S := fun w' => w'.cell? ⟨gb508, 0, none⟩ = some (.slice A1_0 l1_0.length c1_0) ∧ w'.cell? ⟨gb508, 1, none⟩ = some (.bool a1_1) ∧ w'.cell? ⟨gb507, 0, none⟩ = some (.slice A0_0 l0_0.length c0_0) ∧ w'.cell? ⟨gb507, 1, none⟩ = some (.bool a0_1)) (ds := []) #[false, false, false, false, false, false, false, false, false] (by kernel_rfl) rfl rfl ⟨(blk_cell BK508.out 0).trans rfl, (blk_cell BK508.out 1).trans rfl, (blk_cell BK507.out 0).trans rfl, (blk_cell BK507.out 1).trans rfl⟩ (fun hHeld => ?_); refine with_tabW trivetref01_Add.tab5 trivetref01_Add.bits5 (fun HT_ HW_ => ?_)
   generalize w27.drew = w33 at BK507 BK508 BK509 HB hHeld ⊢
   refine pure_ (i := 0) (N := some 25) (v := ?_) (a' := ?_) #[true, false, false, false, false, false, false, false, false] rfl rfl (any_of HT_.out (by kernel_rfl)) (fun _ _ _ h => h) (Or.inl ⟨by rfl, ?_⟩) ?_ ?_
   rotate_left
   ·intro w'
    go_simp
    with_reducible rfl
   rotate_left
   ·simp only [Act.put, List.setIfInBounds_toArray, List.set_cons_zero, List.set_cons_succ, i64_w, i32_w]
    rfl
   refine pure_ (i := 2) (N := some 27) (v := ?_) (a' := ?_) #[true, false, true, false, false, false, false, false, false] rfl rfl (any_of HT_.out (by kernel_rfl)) (fun _ _ _ h => h) (Or.inl ⟨by rfl, ?_⟩) ?_ ?_
   rotate_left
   ·intro w'
    go_simp
    with_reducible rfl
   rotate_left
   ·simp only [Act.put, List.setIfInBounds_toArray, List.set_cons_zero, List.set_cons_succ, i64_w, i32_w]
    rfl
   refine pure_ (i := 5) (N := some 30) (v := ?_) (a' := ?_) #[true, false, true, false, false, true, false, false, false] rfl rfl (any_of HT_.out (by kernel_rfl)) (fun _ _ _ h => h) (Or.inl ⟨by rfl, ?_⟩) ?_ ?_
   rotate_left
   ·intro w'
    go_simp
    with_reducible rfl
   rotate_left
   ·simp only [Act.put, List.setIfInBounds_toArray, List.set_cons_zero, List.set_cons_succ, i64_w, i32_w]
    rfl
   refine take_ (i := 1) (N := some 26) (v := ?_) (a' := ?_) #[true, true, true, false, false, true, false, false, false] rfl rfl (take_ofW HT_.out HW_.out (by kernel_rfl)) (fun _ _ _ h => h) (Or.inl ⟨by rfl, ?_⟩) hHeld ?_ ?_
   rotate_left
   ·rintro w' ⟨s0, s1, s2, s3⟩
    go_simp
    with_reducible rfl
   rotate_left
   ·simp only [Act.put, List.setIfInBounds_toArray, List.set_cons_zero, List.set_cons_succ, i64_w, i32_w]
    rfl
   refine take_ (i := 3) (N := some 28) (v := ?_) (a' := ?_) #[true, true, true, true, false, true, false, false, false] rfl rfl (take_ofW HT_.out HW_.out (by kernel_rfl)) (fun _ _ _ h => h) (Or.inl ⟨by rfl, ?_⟩) hHeld ?_ ?_
   rotate_left
   ·rintro w' ⟨s0, s1, s2, s3⟩
    go_simp
    with_reducible rfl
   rotate_left
   ·simp only [Act.put, List.setIfInBounds_toArray, List.set_cons_zero, List.set_cons_succ, i64_w, i32_w]
    rfl
   refine take_ (i := 6) (N := some 31) (v := ?_) (a' := ?_) #[true, true, true, true, false, true, true, false, false] rfl rfl (take_ofW HT_.out HW_.out (by kernel_rfl)) (fun _ _ _ h => h) (Or.inl ⟨by rfl, ?_⟩) hHeld ?_ ?_
   rotate_left
   ·rintro w' ⟨s0, s1, s2, s3⟩
    go_simp
    with_reducible rfl
   rotate_left
   ·simp only [Act.put, List.setIfInBounds_toArray, List.set_cons_zero, List.set_cons_succ, i64_w, i32_w]
    rfl
   refine one_ (i := 4) (N := some 29) #[true, true, true, true, true, true, true, false, false] rfl rfl (one_of HT_.out (by kernel_rfl)) (by decide) (fun K hK => ?_)
   refine goes_ Try.func41 (by kernel_rfl) rfl #[.slice A1_0 l1_0.length c1_0, .slice A0_0 l0_0.length c0_0] (by rfl) rfl rfl (by (try simp only [List.map_toArray, List.map_cons, List.map_nil]); first | done | rfl | (simp only [List.length_drop, List.length_take]; rfl)) ?_
   with_reducible refine (trivetref01_minus.calls k _ _ l1_0 _ _ l0_0 t518 _ ?side1 ?side2 ?side3 ?side4 A23.out).mono ?_
   (case side1 => repeat (first | exact (Kd.C_below HR1_0.out HB.out) | (with_reducible refine Kd.C_alloc ?_ _) | (with_reducible refine Kd.C_drewN ?_ _) | (with_reducible refine Kd.C_drew ?_)))
   (case side2 => exact HC1_0.out)
   (case side3 => repeat (first | exact (Kd.C_below HR0_0.out HB.out) | (with_reducible refine Kd.C_alloc ?_ _) | (with_reducible refine Kd.C_drewN ?_ _) | (with_reducible refine Kd.C_drew ?_)))
   (case side4 => exact HC0_0.out)
   rintro e w34 ⟨v519, rfl, ho0, hb⟩
   refine ⟨_, rfl, ?_⟩
   have HO520 := ka (Kd.V_lower (Kd.V_mono (ok' := fun k_ => (w.heap.size ≤ k_) ∧ k_ ≠ gb507 ∧ k_ ≠ gb508 ∧ k_ ≠ gb509) ho0 (fun k_ hk_ => ⟨(Nat.le_trans (below_size (kw HB.out)) hk_), (kf BK507 hk_), (kf BK508 hk_), (kf BK509 hk_)⟩)) (below_size (kw HB.out)))
   replace BK507 := kbb BK507 hb
   replace BK508 := kbb BK508 hb
   replace BK509 := kbb BK509 hb
   replace HB := ka (below_step (kw HB.out) hb)
   (try clear hb)
   (try clear hb2)
   (try clear hk)
   (try clear hi)
   (try clear ho0)
   obtain ⟨Ao35, co35, eo35⟩ := Kd.V_slice HO520.out
   (first | subst eo35 | (injection eo35 with f1_ f2_ f3_; have f4_ := f1_.symm; have f5_ := f3_.symm; clear f1_ f2_ f3_; subst f4_; subst f5_))
   refine hK.out _ _ ⟨(blk_cell BK508.out 0).trans rfl, (blk_cell BK508.out 1).trans rfl, (blk_cell BK507.out 0).trans rfl, (blk_cell BK507.out 1).trans rfl⟩ (fun hHeld => ?_)
   clear hK K
   refine norm_ (a' := ?_) ?_ ?_
   rotate_left
   ·show Act.put _ (some 29) _ = _
    simp only [Act.put, List.setIfInBounds_toArray, List.set_cons_zero, List.set_cons_succ, i64_w, i32_w]
    rfl
   refine one_ (i := 7) (N := some 32) #[true, true, true, true, true, true, true, true, false] rfl rfl (one_of HT_.out (by kernel_rfl)) (by decide) (fun K hK => ?_)
   refine goes_ Try.func25 (by kernel_rfl) rfl #[.slice Ao35 t518.length co35, .bool a1_1] (by rfl) rfl rfl (by (try simp only [List.map_toArray, List.map_cons, List.map_nil]); first | done | rfl | (simp only [List.length_drop, List.length_take]; rfl)) ?_
   with_reducible refine (trivetref01_norm.calls k (fun k_ => ((w.heap.size ≤ k_) ∧ (k_ ≠ gb507 ∧ (k_ ≠ gb508 ∧ k_ ≠ gb509)))) _ _ t518 a1_1 t521 t524 _ ?side1 A24.out).mono ?_
   (case side1 => exact HO520.out)
   rintro e w36 ⟨v522, rfl, ho0, hb⟩
   refine ⟨_, rfl, ?_⟩
   replace HO520 := kvb HO520 hb
   have HO523 := ka (Kd.V_lower (Kd.V_mono (ok' := fun k_ => (w.heap.size ≤ k_) ∧ k_ ≠ gb507 ∧ k_ ≠ gb508 ∧ k_ ≠ gb509) ho0 (fun k_ hk_ => ⟨Or.elim hk_ (fun hs_ => hs_.1) (fun hn_ => (Nat.le_trans (below_size (kw HB.out)) hn_)), Or.elim hk_ (fun hs_ => hs_.2.1) (fun hn_ => (kf BK507 hn_)), Or.elim hk_ (fun hs_ => hs_.2.2.1) (fun hn_ => (kf BK508 hn_)), Or.elim hk_ (fun hs_ => hs_.2.2.2) (fun hn_ => (kf BK509 hn_))⟩)) (below_size (kw HB.out)))
   replace BK507 := kbb BK507 hb
   replace BK508 := kbb BK508 hb
   replace BK509 := kbb BK509 hb
   replace HB := ka (below_step (kw HB.out) hb)
   (try clear hb)
   (try clear hb2)
   (try clear hk)
   (try clear hi)
   (try clear ho0)
   obtain ⟨Ao37, co37, eo37⟩ := Kd.V_slice HO523.out
   (first | subst eo37 | (injection eo37 with f1_ f2_ f3_; have f4_ := f1_.symm; have f5_ := f3_.symm; clear f1_ f2_ f3_; subst f4_; subst f5_))
   refine hK.out _ _ ⟨(blk_cell BK508.out 0).trans rfl, (blk_cell BK508.out 1).trans rfl, (blk_cell BK507.out 0).trans rfl, (blk_cell BK507.out 1).trans rfl⟩ (fun hHeld => ?_)
   clear hK K
   refine norm_ (a' := ?_) ?_ ?_
   rotate_left
   ·show Act.put _ (some 32) _ = _
    simp only [Act.put, List.setIfInBounds_toArray, List.set_cons_zero, List.set_cons_succ, i64_w, i32_w]
    rfl
   refine one_ (i := 8) (N := none) #[true, true, true, true, true, true, true, true, true] rfl rfl (one_of HT_.out (by kernel_rfl)) (by decide) (fun K hK => ?_)
   have hs38 : w36.cell? ⟨gb509, 0, none⟩ = some (.slice none 0 0) := (blk_cell BK509.out 0).trans rfl
   have hfs38 := blk_frozen BK509.out 0
   have hns38_0 := NB507_509.out
   have hns38_1 := NB508_509.out
   have hms38_0 := NB509_507.out
   have hms38_1 := NB509_508.out
   have hs39 : w36.cell? ⟨gb509, 1, none⟩ = some (.bool false) := (blk_cell BK509.out 1).trans rfl
   have hfs39 := blk_frozen BK509.out 1
   have hns39_0 := NB507_509.out
   have hns39_1 := NB508_509.out
   have hms39_0 := NB509_507.out
   have hms39_1 := NB509_508.out
   refine skip_ (w1 := ?_) (by rfl) rfl ?_ ?_
   rotate_left
   ·go_simp
    rfl
   refine hK.out _ _ ⟨((cell_far (p := ⟨gb509, _, none⟩) NB508_509.out _).trans (((cell_far (p := ⟨gb509, _, none⟩) NB508_509.out _).trans (hHeld.1)))), ((cell_far (p := ⟨gb509, _, none⟩) NB508_509.out _).trans (((cell_far (p := ⟨gb509, _, none⟩) NB508_509.out _).trans (hHeld.2.1)))), ((cell_far (p := ⟨gb509, _, none⟩) NB507_509.out _).trans (((cell_far (p := ⟨gb509, _, none⟩) NB507_509.out _).trans (hHeld.2.2.1)))), ((cell_far (p := ⟨gb509, _, none⟩) NB507_509.out _).trans (((cell_far (p := ⟨gb509, _, none⟩) NB507_509.out _).trans (hHeld.2.2.2))))⟩ (fun hHeld => ?_)
   clear hK K
   refine done_ (done_of HT_.out (by kernel_rfl)) ?_
   try go_wp2
   refine bodyPost_ret (results_cell_row rfl _ _ gb509 37 #[.slice Ao37 t521.length co37, .bool t524] (0, 0) _ rfl (by (with_reducible repeat (first | apply kb1 | apply kb2 | apply kb3 | apply blkPut2_1 | apply blkPut2_0)); exact BK509.out) Try.underlying37 rfl (by kernel_rfl)) rfl ?_
   exact ⟨_, by first | rfl | (simp [errW_none, errW_some] <;> rfl) | (simp [*, errW_none, errW_some] <;> rfl), by (with_reducible repeat (first | apply Kd.V_alloc | apply Kd.V_drewN | apply Kd.V_drew)); exact Kd.V_mono (Kd.V_far (p := ⟨gb509, 1, none⟩) (Kd.V_far (p := ⟨gb509, 0, none⟩) (Kd.V_mono HO523.out (fun k_ hk => (⟨hk, hk.2.2.2⟩ : _ ∧ k_ ≠ gb509))) (fun _ hk => hk.2) (.slice Ao37 t521.length co37)) (fun _ hk => hk.2) (.bool t524)) (fun _ hk => hk.1.1), by repeat (first | (with_reducible first | exact HB.out | apply kc1 | apply kc2 | apply kc3 | refine kc4 ?_ GE507.out | refine kc4 ?_ GE508.out | refine kc4 ?_ GE509.out) | exact HB.out)⟩
  ·replace c22 := Bool.eq_false_iff.mpr c22
   subst c22
   have H1 : ((trivetref01_minus.f k l0_0 l1_0).bind fun t525 => ((trivetref01_norm.f k t525 a0_1).bind fun bt528 => (some (bt528.1, bt528.2)))) = some (r1, r2) := by rw [if_neg (show ¬ (false = true) by decide)] at H; exact H
   clear H
   have H := H1
   clear H1
   replace H := Option.bind_eq_some_iff.mp H
   obtain ⟨t525, A400, H⟩ := H
   replace H : ((trivetref01_norm.f k t525 a0_1).bind fun bt528 => (some (bt528.1, bt528.2))) = some (r1, r2) := H
   have A40 := ka A400
   clear A400
   replace H := Option.bind_eq_some_iff.mp H
   obtain ⟨⟨t528, t531⟩, A410, H⟩ := H
   replace H : (some (t528, t531)) = some (r1, r2) := H
   have A41 := ka A410
   clear A410
   simp only [Option.some.injEq, Prod.mk.injEq] at H
   obtain ⟨rfl, rfl⟩ := H
   go_enter Try.func28, Try.ntmps28
   try go_wp2_with (first | ((with_reducible refine gate_dst (N := 2) rfl ?_); refine kx (N := 2) (cs := #[.slice A0_0 l0_0.length c0_0, .bool a0_1]) (t := 37) ?_; intro gb507 hg w42 hbox hb; have n0_ := ka (below_step (kw HB.out) hb); have n1_ := ka (hbox); have n2_ := ka ((by rw [hg]; exact (below_size (kw HB.out)) : w.heap.size ≤ gb507)); have n3_ := n2_; clear HB; have HB := n0_; have BK507 := n1_; have GW507 := n2_; have GE507 := n3_; clear n0_ n1_ n2_ n3_; clear hb hbox hg) | ((with_reducible refine gate_dst (N := 3) rfl ?_); refine kx (N := 3) (cs := #[.slice A1_0 l1_0.length c1_0, .bool a1_1]) (t := 37) ?_; intro gb508 hg w43 hbox hb; have n0_ := ka (blk_below (g := gb507) (kz BK507.out) hb); have n1_ := ka (below_step (kw HB.out) hb); have n2_ := ka (hbox); have n3_ := ka ((by rw [hg]; exact (below_size (kw HB.out)) : w.heap.size ≤ gb508)); have n4_ := n3_; have n5_ := ka ((by rw [hg]; exact Nat.ne_of_lt (blk_lt (g := gb507) (kz BK507.out)) : gb507 ≠ gb508)); have n6_ := ka n5_.out.symm; clear BK507; clear HB; have BK507 := n0_; have HB := n1_; have BK508 := n2_; have GW508 := n3_; have GE508 := n4_; have NB507_508 := n5_; have NB508_507 := n6_; clear n0_ n1_ n2_ n3_ n4_ n5_ n6_; clear hb hbox hg) | ((with_reducible refine gate_dst (N := 4) rfl ?_); refine kx (N := 4) (cs := #[.slice none 0 0, .bool false]) (t := 37) ?_; intro gb509 hg w44 hbox hb; have n0_ := ka (blk_below (g := gb507) (kz BK507.out) hb); have n1_ := ka (blk_below (g := gb508) (kz BK508.out) hb); have n2_ := ka (below_step (kw HB.out) hb); have n3_ := ka (hbox); have n4_ := ka ((by rw [hg]; exact (below_size (kw HB.out)) : w.heap.size ≤ gb509)); have n5_ := n4_; have n6_ := ka ((by rw [hg]; exact Nat.ne_of_lt (blk_lt (g := gb507) (kz BK507.out)) : gb507 ≠ gb509)); have n7_ := ka n6_.out.symm; have n8_ := ka ((by rw [hg]; exact Nat.ne_of_lt (blk_lt (g := gb508) (kz BK508.out)) : gb508 ≠ gb509)); have n9_ := ka n8_.out.symm; clear BK507; clear BK508; clear HB; have BK507 := n0_; have BK508 := n1_; have HB := n2_; have BK509 := n3_; have GW509 := n4_; have GE509 := n5_; have NB507_509 := n6_; have NB509_507 := n7_; have NB508_509 := n8_; have NB509_508 := n9_; clear n0_ n1_ n2_ n3_ n4_ n5_ n6_ n7_ n8_ n9_; clear hb hbox hg; have hnb45 := NB507_508.out; have hnc45 := NB508_507.out; have hnb46 := NB507_509.out; have hnc46 := NB509_507.out; have hcz47 := blkAll2 BK507.out; have hnb48 := NB508_509.out; have hnc48 := NB509_508.out; have hcz49 := blkAll2 BK508.out) | ((with_reducible refine gate_callee (f := 40) rfl ?_); refine kg (some 23) rfl rfl Try.func40 (by kernel_rfl) rfl #[.slice A0_0 l0_0.length c0_0, .slice A1_0 l1_0.length c1_0] rfl ?_; (with_reducible refine (trivetref01_less.calls k _ _ l0_0 _ _ l1_0 false _ ?side1 ?side2 ?side3 ?side4 A21.out).mono ?_); (case side1 => repeat (first | exact (Kd.C_below HR0_0.out HB.out) | (with_reducible refine Kd.C_alloc ?_ _) | (with_reducible refine Kd.C_drewN ?_ _) | (with_reducible refine Kd.C_drew ?_))); (case side2 => exact HC0_0.out); (case side3 => repeat (first | exact (Kd.C_below HR1_0.out HB.out) | (with_reducible refine Kd.C_alloc ?_ _) | (with_reducible refine Kd.C_drewN ?_ _) | (with_reducible refine Kd.C_drew ?_))); (case side4 => exact HC1_0.out); rintro e w' ⟨rfl, ⟨nd, rfl⟩⟩; refine ⟨_, rfl, ?_⟩; (try (rw [drewN_self w44]; generalize hq_ : World.drewN w44 _ = w44; replace BK507 : Aside0 (w44.heap[gb507]? = some (.cells #[.slice A0_0 l0_0.length c0_0, .bool a0_1] 37 (0, 0))) := ⟨by rw [← hq_]; exact (kz BK507.out)⟩; replace BK508 : Aside0 (w44.heap[gb508]? = some (.cells #[.slice A1_0 l1_0.length c1_0, .bool a1_1] 37 (0, 0))) := ⟨by rw [← hq_]; exact (kz BK508.out)⟩; replace BK509 : Aside0 (w44.heap[gb509]? = some (.cells #[.slice none 0 0, .bool false] 37 (0, 0))) := ⟨by rw [← hq_]; exact (kz BK509.out)⟩; replace HB : Aside0 (Below w.heap.size w w44) := ⟨by rw [← hq_]; exact (kw HB.out)⟩; clear hq_))))
   replace BK507 := ka (blk_drew BK507.out)
   replace BK508 := ka (blk_drew BK508.out)
   replace BK509 := ka (blk_drew BK509.out)
   replace HB := ka (below_drew1 HB.out)
   refine start_ (n := 9) (S := fun w' => w'.cell? ⟨gb507, 0, none⟩ = some (.slice A0_0 l0_0.length c0_0) ∧ w'.cell? ⟨gb507, 1, none⟩ = some (.bool a0_1) ∧ w'.cell? ⟨gb508, 0, none⟩ = some (.slice A1_0 l1_0.length c1_0) ∧ w'.cell? ⟨gb508, 1, none⟩ = some (.bool a1_1)) (ds := []) #[false, false, false, false, false, false, false, false, false] (by kernel_rfl) rfl rfl ⟨(blk_cell BK507.out 0).trans rfl, (blk_cell BK507.out 1).trans rfl, (blk_cell BK508.out 0).trans rfl, (blk_cell BK508.out 1).trans rfl⟩ (fun hHeld => ?_); refine with_tabW trivetref01_Add.tab6 trivetref01_Add.bits6 (fun HT_ HW_ => ?_)
   generalize w44.drew = w50 at BK507 BK508 BK509 HB hHeld ⊢
   refine pure_ (i := 0) (N := some 33) (v := ?_) (a' := ?_) #[true, false, false, false, false, false, false, false, false] rfl rfl (any_of HT_.out (by kernel_rfl)) (fun _ _ _ h => h) (Or.inl ⟨by rfl, ?_⟩) ?_ ?_
   rotate_left
   ·intro w'
    go_simp
    with_reducible rfl
   rotate_left
   ·simp only [Act.put, List.setIfInBounds_toArray, List.set_cons_zero, List.set_cons_succ, i64_w, i32_w]
    rfl
   refine pure_ (i := 2) (N := some 35) (v := ?_) (a' := ?_) #[true, false, true, false, false, false, false, false, false] rfl rfl (any_of HT_.out (by kernel_rfl)) (fun _ _ _ h => h) (Or.inl ⟨by rfl, ?_⟩) ?_ ?_
   rotate_left
   ·intro w'
    go_simp
    with_reducible rfl
   rotate_left
   ·simp only [Act.put, List.setIfInBounds_toArray, List.set_cons_zero, List.set_cons_succ, i64_w, i32_w]
    rfl
   refine pure_ (i := 5) (N := some 38) (v := ?_) (a' := ?_) #[true, false, true, false, false, true, false, false, false] rfl rfl (any_of HT_.out (by kernel_rfl)) (fun _ _ _ h => h) (Or.inl ⟨by rfl, ?_⟩) ?_ ?_
   rotate_left
   ·intro w'
    go_simp
    with_reducible rfl
   rotate_left
   ·simp only [Act.put, List.setIfInBounds_toArray, List.set_cons_zero, List.set_cons_succ, i64_w, i32_w]
    rfl
   refine take_ (i := 1) (N := some 34) (v := ?_) (a' := ?_) #[true, true, true, false, false, true, false, false, false] rfl rfl (take_ofW HT_.out HW_.out (by kernel_rfl)) (fun _ _ _ h => h) (Or.inl ⟨by rfl, ?_⟩) hHeld ?_ ?_
   rotate_left
   ·rintro w' ⟨s0, s1, s2, s3⟩
    go_simp
    with_reducible rfl
   rotate_left
   ·simp only [Act.put, List.setIfInBounds_toArray, List.set_cons_zero, List.set_cons_succ, i64_w, i32_w]
    rfl
   refine take_ (i := 3) (N := some 36) (v := ?_) (a' := ?_) #[true, true, true, true, false, true, false, false, false] rfl rfl (take_ofW HT_.out HW_.out (by kernel_rfl)) (fun _ _ _ h => h) (Or.inl ⟨by rfl, ?_⟩) hHeld ?_ ?_
   rotate_left
   ·rintro w' ⟨s0, s1, s2, s3⟩
    go_simp
    with_reducible rfl
   rotate_left
   ·simp only [Act.put, List.setIfInBounds_toArray, List.set_cons_zero, List.set_cons_succ, i64_w, i32_w]
    rfl
   refine take_ (i := 6) (N := some 39) (v := ?_) (a' := ?_) #[true, true, true, true, false, true, true, false, false] rfl rfl (take_ofW HT_.out HW_.out (by kernel_rfl)) (fun _ _ _ h => h) (Or.inl ⟨by rfl, ?_⟩) hHeld ?_ ?_
   rotate_left
   ·rintro w' ⟨s0, s1, s2, s3⟩
    go_simp
    with_reducible rfl
   rotate_left
   ·simp only [Act.put, List.setIfInBounds_toArray, List.set_cons_zero, List.set_cons_succ, i64_w, i32_w]
    rfl
   refine one_ (i := 4) (N := some 37) #[true, true, true, true, true, true, true, false, false] rfl rfl (one_of HT_.out (by kernel_rfl)) (by decide) (fun K hK => ?_)
   refine goes_ Try.func41 (by kernel_rfl) rfl #[.slice A0_0 l0_0.length c0_0, .slice A1_0 l1_0.length c1_0] (by rfl) rfl rfl (by (try simp only [List.map_toArray, List.map_cons, List.map_nil]); first | done | rfl | (simp only [List.length_drop, List.length_take]; rfl)) ?_
   with_reducible refine (trivetref01_minus.calls k _ _ l0_0 _ _ l1_0 t525 _ ?side1 ?side2 ?side3 ?side4 A40.out).mono ?_
   (case side1 => repeat (first | exact (Kd.C_below HR0_0.out HB.out) | (with_reducible refine Kd.C_alloc ?_ _) | (with_reducible refine Kd.C_drewN ?_ _) | (with_reducible refine Kd.C_drew ?_)))
   (case side2 => exact HC0_0.out)
   (case side3 => repeat (first | exact (Kd.C_below HR1_0.out HB.out) | (with_reducible refine Kd.C_alloc ?_ _) | (with_reducible refine Kd.C_drewN ?_ _) | (with_reducible refine Kd.C_drew ?_)))
   (case side4 => exact HC1_0.out)
   rintro e w51 ⟨v526, rfl, ho0, hb⟩
   refine ⟨_, rfl, ?_⟩
   have HO527 := ka (Kd.V_lower (Kd.V_mono (ok' := fun k_ => (w.heap.size ≤ k_) ∧ k_ ≠ gb507 ∧ k_ ≠ gb508 ∧ k_ ≠ gb509) ho0 (fun k_ hk_ => ⟨(Nat.le_trans (below_size (kw HB.out)) hk_), (kf BK507 hk_), (kf BK508 hk_), (kf BK509 hk_)⟩)) (below_size (kw HB.out)))
   replace BK507 := kbb BK507 hb
   replace BK508 := kbb BK508 hb
   replace BK509 := kbb BK509 hb
   replace HB := ka (below_step (kw HB.out) hb)
   (try clear hb)
   (try clear hb2)
   (try clear hk)
   (try clear hi)
   (try clear ho0)
   obtain ⟨Ao52, co52, eo52⟩ := Kd.V_slice HO527.out
   (first | subst eo52 | (injection eo52 with f1_ f2_ f3_; have f4_ := f1_.symm; have f5_ := f3_.symm; clear f1_ f2_ f3_; subst f4_; subst f5_))
   refine hK.out _ _ ⟨(blk_cell BK507.out 0).trans rfl, (blk_cell BK507.out 1).trans rfl, (blk_cell BK508.out 0).trans rfl, (blk_cell BK508.out 1).trans rfl⟩ (fun hHeld => ?_)
   clear hK K
   refine norm_ (a' := ?_) ?_ ?_
   rotate_left
   ·show Act.put _ (some 37) _ = _
    simp only [Act.put, List.setIfInBounds_toArray, List.set_cons_zero, List.set_cons_succ, i64_w, i32_w]
    rfl
   refine one_ (i := 7) (N := some 40) #[true, true, true, true, true, true, true, true, false] rfl rfl (one_of HT_.out (by kernel_rfl)) (by decide) (fun K hK => ?_)
   refine goes_ Try.func25 (by kernel_rfl) rfl #[.slice Ao52 t525.length co52, .bool a0_1] (by rfl) rfl rfl (by (try simp only [List.map_toArray, List.map_cons, List.map_nil]); first | done | rfl | (simp only [List.length_drop, List.length_take]; rfl)) ?_
   with_reducible refine (trivetref01_norm.calls k (fun k_ => ((w.heap.size ≤ k_) ∧ (k_ ≠ gb507 ∧ (k_ ≠ gb508 ∧ k_ ≠ gb509)))) _ _ t525 a0_1 t528 t531 _ ?side1 A41.out).mono ?_
   (case side1 => exact HO527.out)
   rintro e w53 ⟨v529, rfl, ho0, hb⟩
   refine ⟨_, rfl, ?_⟩
   replace HO527 := kvb HO527 hb
   have HO530 := ka (Kd.V_lower (Kd.V_mono (ok' := fun k_ => (w.heap.size ≤ k_) ∧ k_ ≠ gb507 ∧ k_ ≠ gb508 ∧ k_ ≠ gb509) ho0 (fun k_ hk_ => ⟨Or.elim hk_ (fun hs_ => hs_.1) (fun hn_ => (Nat.le_trans (below_size (kw HB.out)) hn_)), Or.elim hk_ (fun hs_ => hs_.2.1) (fun hn_ => (kf BK507 hn_)), Or.elim hk_ (fun hs_ => hs_.2.2.1) (fun hn_ => (kf BK508 hn_)), Or.elim hk_ (fun hs_ => hs_.2.2.2) (fun hn_ => (kf BK509 hn_))⟩)) (below_size (kw HB.out)))
   replace BK507 := kbb BK507 hb
   replace BK508 := kbb BK508 hb
   replace BK509 := kbb BK509 hb
   replace HB := ka (below_step (kw HB.out) hb)
   (try clear hb)
   (try clear hb2)
   (try clear hk)
   (try clear hi)
   (try clear ho0)
   obtain ⟨Ao54, co54, eo54⟩ := Kd.V_slice HO530.out
   (first | subst eo54 | (injection eo54 with f1_ f2_ f3_; have f4_ := f1_.symm; have f5_ := f3_.symm; clear f1_ f2_ f3_; subst f4_; subst f5_))
   refine hK.out _ _ ⟨(blk_cell BK507.out 0).trans rfl, (blk_cell BK507.out 1).trans rfl, (blk_cell BK508.out 0).trans rfl, (blk_cell BK508.out 1).trans rfl⟩ (fun hHeld => ?_)
   clear hK K
   refine norm_ (a' := ?_) ?_ ?_
   rotate_left
   ·show Act.put _ (some 40) _ = _
    simp only [Act.put, List.setIfInBounds_toArray, List.set_cons_zero, List.set_cons_succ, i64_w, i32_w]
    rfl
   refine one_ (i := 8) (N := none) #[true, true, true, true, true, true, true, true, true] rfl rfl (one_of HT_.out (by kernel_rfl)) (by decide) (fun K hK => ?_)
   have hs55 : w53.cell? ⟨gb509, 0, none⟩ = some (.slice none 0 0) := (blk_cell BK509.out 0).trans rfl
   have hfs55 := blk_frozen BK509.out 0
   have hns55_0 := NB507_509.out
   have hns55_1 := NB508_509.out
   have hms55_0 := NB509_507.out
   have hms55_1 := NB509_508.out
   have hs56 : w53.cell? ⟨gb509, 1, none⟩ = some (.bool false) := (blk_cell BK509.out 1).trans rfl
   have hfs56 := blk_frozen BK509.out 1
   have hns56_0 := NB507_509.out
   have hns56_1 := NB508_509.out
   have hms56_0 := NB509_507.out
   have hms56_1 := NB509_508.out
   refine skip_ (w1 := ?_) (by rfl) rfl ?_ ?_
   rotate_left
   ·go_simp
    rfl
   refine hK.out _ _ ⟨((cell_far (p := ⟨gb509, _, none⟩) NB507_509.out _).trans (((cell_far (p := ⟨gb509, _, none⟩) NB507_509.out _).trans (hHeld.1)))), ((cell_far (p := ⟨gb509, _, none⟩) NB507_509.out _).trans (((cell_far (p := ⟨gb509, _, none⟩) NB507_509.out _).trans (hHeld.2.1)))), ((cell_far (p := ⟨gb509, _, none⟩) NB508_509.out _).trans (((cell_far (p := ⟨gb509, _, none⟩) NB508_509.out _).trans (hHeld.2.2.1)))), ((cell_far (p := ⟨gb509, _, none⟩) NB508_509.out _).trans (((cell_far (p := ⟨gb509, _, none⟩) NB508_509.out _).trans (hHeld.2.2.2))))⟩ (fun hHeld => ?_)
   clear hK K
   refine done_ (done_of HT_.out (by kernel_rfl)) ?_
   try go_wp2
   refine bodyPost_ret (results_cell_row rfl _ _ gb509 37 #[.slice Ao54 t528.length co54, .bool t531] (0, 0) _ rfl (by (with_reducible repeat (first | apply kb1 | apply kb2 | apply kb3 | apply blkPut2_1 | apply blkPut2_0)); exact BK509.out) Try.underlying37 rfl (by kernel_rfl)) rfl ?_
   exact ⟨_, by first | rfl | (simp [errW_none, errW_some] <;> rfl) | (simp [*, errW_none, errW_some] <;> rfl), by (with_reducible repeat (first | apply Kd.V_alloc | apply Kd.V_drewN | apply Kd.V_drew)); exact Kd.V_mono (Kd.V_far (p := ⟨gb509, 1, none⟩) (Kd.V_far (p := ⟨gb509, 0, none⟩) (Kd.V_mono HO530.out (fun k_ hk => (⟨hk, hk.2.2.2⟩ : _ ∧ k_ ≠ gb509))) (fun _ hk => hk.2) (.slice Ao54 t528.length co54)) (fun _ hk => hk.2) (.bool t531)) (fun _ hk => hk.1.1), by repeat (first | (with_reducible first | exact HB.out | apply kc1 | apply kc2 | apply kc3 | refine kc4 ?_ GE507.out | refine kc4 ?_ GE508.out | refine kc4 ?_ GE509.out) | exact HB.out)⟩

/-! ### trivetref01_Add: function 28, its laws -/
theorem trivetref01_Add.num (k : Nat) (x y : Int) (hx : M.abs x < 65536 ^ 64) (hy : M.abs y < 65536 ^ 64) (hk : 300 ≤ k) : trivetref01_Add.f k (U.num x).1 (U.num x).2 (U.num y).1 (U.num y).2 = some (U.num (x + y)) := by
 have lx := U.len_dig 64 _ hx
 have ly := U.len_dig 64 _ hy
 have x0 := U.abs_nonneg x
 have y0 := U.abs_nonneg y
 have vx := U.val_dig x0
 have vy := U.val_dig y0
 have a1 : M.abs x = if x < 0 then -x else x := rfl
 have a2 : M.abs y = if y < 0 then -y else y := rfl
 show trivetref01_Add.f k (U.dig (M.abs x)) (decide (x < 0)) (U.dig (M.abs y)) (decide (y < 0)) = _
 unfold trivetref01_Add.f
 by_cases h : (decide (x < 0) == decide (y < 0)) = true
 ·rw [if_pos h]
  obtain ⟨out, o1, o2, o3, o4⟩ := trivetref01_plus.num k (U.dig (M.abs x)) (U.dig (M.abs y)) (U.dig_dg _) (U.dig_dg _) (by omega) (by omega) (by omega)
  rw [o1, Option.bind_some, trivetref01_norm.num k out (decide (x < 0)) (x + y) o2 (by omega) (by omega)]
  ·rfl
  ·rw [o3, vx, vy, a1, a2]
   by_cases c : x < 0
   ·have c2 : y < 0 := by simpa [c] using h
    simp only [decide_eq_true c, if_true, if_pos c, if_pos c2]; omega
   ·have c2 : ¬ y < 0 := by simpa [c] using h
    simp only [decide_eq_false c, if_neg c, if_neg c2]; simp
 ·rw [if_neg h, trivetref01_less.num k _ _ x0 y0 (by omega) (by omega) (by omega), Option.bind_some]
  have hs : (x < 0 ∧ ¬ y < 0) ∨ (¬ x < 0 ∧ y < 0) := by
   by_cases c : x < 0 <;> by_cases c2 : y < 0 <;> simp [c, c2] at h ⊢
  by_cases hl : M.abs x < M.abs y
  ·rw [decide_eq_true hl, if_pos rfl, trivetref01_minus.num k _ _ x0 (by omega) (by omega) (by omega), Option.bind_some, trivetref01_norm.num k _ (decide (y < 0)) (x + y) (U.dig_dg _)]
   ·rfl
   ·have := U.len_dig 64 (M.abs y - M.abs x) (by omega); omega
   ·have := U.len_dig 64 (M.abs y - M.abs x) (by omega); omega
   ·rw [U.val_dig (by omega), a1, a2]
    rcases hs with ⟨c, c2⟩ | ⟨c, c2⟩
    ·simp [c, c2]; omega
    ·simp only [decide_eq_true c2, if_neg c, if_pos c2, if_true]; omega
  ·rw [decide_eq_false hl, if_neg (by decide), trivetref01_minus.num k _ _ y0 (by omega) (by omega) (by omega), Option.bind_some, trivetref01_norm.num k _ (decide (x < 0)) (x + y) (U.dig_dg _)]
   ·rfl
   ·have := U.len_dig 64 (M.abs x - M.abs y) (by omega); omega
   ·have := U.len_dig 64 (M.abs x - M.abs y) (by omega); omega
   ·rw [U.val_dig (by omega), a1, a2]
    rcases hs with ⟨c, c2⟩ | ⟨c, c2⟩
    ·simp only [decide_eq_true c, if_pos c, if_neg c2, if_true]; omega
    ·simp only [decide_eq_false c, if_neg c, if_pos c2]; simp <;> omega

end Go.Proofs.Ytonjhfneeejdaaa.P
