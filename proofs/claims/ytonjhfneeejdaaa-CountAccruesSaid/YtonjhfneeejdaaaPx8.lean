-- Written by a program of this session out of the translation of the seat: Lean functions and the proofs that the Go functions come to them.
import Derived.Test.YtonjhfneeejdaaaPx0
import Derived.Test.YtonjhfneeejdaaaPx5
import Derived.Test.YtonjhfneeejdaaaPx7
namespace Go.Proofs.Ytonjhfneeejdaaa.P
open Go.RowKit Go.Proofs.YtonjhfneeejdaaaW.PrintWords Go.Proofs.YtonjhfneeejdaaaW.PrintLast Go.Proofs.YtonjhfneeejdaaaW.PrintMore
attribute [local go_sem] max2_int min2_int max_two min_two max_three min_three max_four min_four   -- for this text's walks alone
set_option linter.unusedVariables false
set_option linter.unusedSimpArgs false

/-! ### trivetref01_Cmp: function 29 -/
def trivetref01_Cmp.f (k : Nat) (l0_0 : List Int) (a0_1 : Bool) (l1_0 : List Int) (a1_1 : Bool) : Option (Int) := (trivetref01_Neg.f k l1_0 a1_1).bind fun bt534 => ((trivetref01_Add.f k l0_0 a0_1 bt534.1 bt534.2).bind fun bt538 => (if (bt538.1.length : Int) = 0 then (some 0) else (if bt538.2 = true then (some (-1)) else (some 1))))
theorem trivetref01_Cmp.mono : ∀ a0 a1 a2 a3 k, LeO (trivetref01_Cmp.f k a0 a1 a2 a3) (trivetref01_Cmp.f (k + 1) a0 a1 a2 a3) := by
 intro a0 a1 a2 a3 k
 unfold trivetref01_Cmp.f
 repeat' first
   | (with_reducible exact trivetref01_Add.mono _ _ _ _ _)
   | (with_reducible exact trivetref01_Neg.mono _ _ _)
   | (with_reducible exact LeO.refl _)
   | (with_reducible exact LeO.none _)
   | (with_reducible refine LeO.ite ?_ ?_)
   | (with_reducible refine LeO.bind ?_ (fun _ => ?_))
   | exact trivetref01_Add.mono _ _ _ _ _
   | exact trivetref01_Neg.mono _ _ _
   | exact LeO.none _
   | refine LeO.ite ?_ ?_
   | refine LeO.bind ?_ (fun _ => ?_)
set_option maxHeartbeats 8000000 in
set_option maxRecDepth 100000 in
theorem trivetref01_Cmp.calls (k : Nat) (A0_0 : Option Addr) (c0_0 : Nat) (l0_0 : List Int) (a0_1 : Bool) (A1_0 : Option Addr) (c1_0 : Nat) (l1_0 : List Int) (a1_1 : Bool) (r : Int) (w : World) (hr0_0 : Kd.C (Kd.int .u64) w A0_0 l0_0.length l0_0) (hc0_0 : l0_0.length ≤ c0_0) (hr1_0 : Kd.C (Kd.int .u64) w A1_0 l1_0.length l1_0) (hc1_0 : l1_0.length ≤ c1_0) (h : trivetref01_Cmp.f k l0_0 a0_1 l1_0 a1_1 = some r) :
  Calls Try.prog 29 #[.agg #[.slice A0_0 l0_0.length c0_0, .bool a0_1], .agg #[.slice A1_0 l1_0.length c1_0, .bool a1_1]] w fun e w' => e = .returned (.int .i64 r) ∧ Below w.heap.size w w' := by
 have hu37 := Try.underlying37
 have HR0_0 := ka hr0_0
 have HC0_0 := ka hc0_0
 clear hr0_0 hc0_0
 have HR1_0 := ka hr1_0
 have HC1_0 := ka hc1_0
 clear hr1_0 hc1_0
 have HB := ka (Below.refl w.heap.size w)
 have H : ((trivetref01_Neg.f k l1_0 a1_1).bind fun bt534 => ((trivetref01_Add.f k l0_0 a0_1 bt534.1 bt534.2).bind fun bt538 => (if (bt538.1.length : Int) = 0 then (some 0) else (if bt538.2 = true then (some (-1)) else (some 1))))) = some r := h
 clear h
 replace H := Option.bind_eq_some_iff.mp H
 obtain ⟨⟨t534, t537⟩, A30, H⟩ := H
 replace H : ((trivetref01_Add.f k l0_0 a0_1 t534 t537).bind fun bt538 => (if (bt538.1.length : Int) = 0 then (some 0) else (if bt538.2 = true then (some (-1)) else (some 1)))) = some r := H
 have A3 := ka A30
 clear A30
 replace H := Option.bind_eq_some_iff.mp H
 obtain ⟨⟨t538, t541⟩, A40, H⟩ := H
 replace H : (if (t538.length : Int) = 0 then (some 0) else (if t541 = true then (some (-1)) else (some 1))) = some r := H
 have A4 := ka A40
 clear A40
 by_cases c5 : (t538.length : Int) = 0
 ·rw [if_pos c5] at H
  have c5b0 : ((t538.length : Int) == 0) = true := beq_iff_eq.mpr c5
  have c5b1 : ((t538.length : Int) != 0) = false := bne_eq_false_iff_eq.mpr c5
  clear c5
  obtain rfl := Option.some.inj H
  go_enter Try.func29, Try.ntmps29
  try go_wp2_with (first | ((with_reducible refine gate_dst (N := 2) rfl ?_); refine kx (N := 2) (cs := #[.slice A0_0 l0_0.length c0_0, .bool a0_1]) (t := 37) ?_; intro gb532 hg w6 hbox hb; have n0_ := ka (below_step (kw HB.out) hb); have n1_ := ka (hbox); have n2_ := ka ((by rw [hg]; exact (below_size (kw HB.out)) : w.heap.size ≤ gb532)); have n3_ := n2_; clear HB; have HB := n0_; have BK532 := n1_; have GW532 := n2_; have GE532 := n3_; clear n0_ n1_ n2_ n3_; clear hb hbox hg) | ((with_reducible refine gate_dst (N := 3) rfl ?_); refine kx (N := 3) (cs := #[.slice A1_0 l1_0.length c1_0, .bool a1_1]) (t := 37) ?_; intro gb533 hg w7 hbox hb; have n0_ := ka (blk_below (g := gb532) (kz BK532.out) hb); have n1_ := ka (below_step (kw HB.out) hb); have n2_ := ka (hbox); have n3_ := ka ((by rw [hg]; exact (below_size (kw HB.out)) : w.heap.size ≤ gb533)); have n4_ := n3_; have n5_ := ka ((by rw [hg]; exact Nat.ne_of_lt (blk_lt (g := gb532) (kz BK532.out)) : gb532 ≠ gb533)); have n6_ := ka n5_.out.symm; clear BK532; clear HB; have BK532 := n0_; have HB := n1_; have BK533 := n2_; have GW533 := n3_; have GE533 := n4_; have NB532_533 := n5_; have NB533_532 := n6_; clear n0_ n1_ n2_ n3_ n4_ n5_ n6_; clear hb hbox hg))
  replace BK532 := ka (blk_drew BK532.out)
  replace BK533 := ka (blk_drew BK533.out)
  replace HB := ka (below_drew1 HB.out)
  refine start_ (n := 6) (S := fun w' => w'.cell? ⟨gb532, 0, none⟩ = some (.slice A0_0 l0_0.length c0_0) ∧ w'.cell? ⟨gb532, 1, none⟩ = some (.bool a0_1) ∧ w'.cell? ⟨gb533, 0, none⟩ = some (.slice A1_0 l1_0.length c1_0) ∧ w'.cell? ⟨gb533, 1, none⟩ = some (.bool a1_1)) (ds := []) #[false, false, false, false, false, false] (by kernel_rfl) rfl rfl ⟨(blk_cell BK532.out 0).trans rfl, (blk_cell BK532.out 1).trans rfl, (blk_cell BK533.out 0).trans rfl, (blk_cell BK533.out 1).trans rfl⟩ (fun hHeld => ?_)
  generalize w7.drew = w8 at BK532 BK533 HB hHeld ⊢
  refine take_ (i := 0) (N := some 6) (v := ?_) (a' := ?_) #[true, false, false, false, false, false] rfl rfl (by kernel_rfl) (fun _ _ _ h => h) (Or.inl ⟨by rfl, ?_⟩) hHeld ?_ ?_
  rotate_left
  ·rintro w' ⟨s0, s1, s2, s3⟩
   go_simp
   with_reducible rfl
  rotate_left
  ·simp only [Act.put, List.setIfInBounds_toArray, List.set_cons_zero, List.set_cons_succ, i64_w, i32_w]
   rfl
  refine take_ (i := 1) (N := some 7) (v := ?_) (a' := ?_) #[true, true, false, false, false, false] rfl rfl (by kernel_rfl) (fun _ _ _ h => h) (Or.inl ⟨by rfl, ?_⟩) hHeld ?_ ?_
  rotate_left
  ·rintro w' ⟨s0, s1, s2, s3⟩
   go_simp
   with_reducible rfl
  rotate_left
  ·simp only [Act.put, List.setIfInBounds_toArray, List.set_cons_zero, List.set_cons_succ, i64_w, i32_w]
   rfl
  refine join_ (σ := Value × Value × Nat) 1 #[true, true, true, true, true, false] (fun s_ => [(8, .agg #[s_.1, .bool t537]), (9, .agg #[s_.2.1, .bool t541]), (5, .pointer (some ⟨s_.2.2, 0, none⟩))]) (fun s_ w' => (w'.cell? ⟨gb532, 0, none⟩ = some (.slice A0_0 l0_0.length c0_0) ∧ w'.cell? ⟨gb532, 1, none⟩ = some (.bool a0_1) ∧ w'.cell? ⟨gb533, 0, none⟩ = some (.slice A1_0 l1_0.length c1_0) ∧ w'.cell? ⟨gb533, 1, none⟩ = some (.bool a1_1)) ∧ (Kd.V (Kd.int .u64) 53 w' w.heap.size (fun k_ => k_ ≠ gb532 ∧ k_ ≠ gb533 ∧ k_ ≠ s_.2.2) s_.1 t534) ∧ (Kd.V (Kd.int .u64) 53 w' w.heap.size (fun k_ => k_ ≠ gb532 ∧ k_ ≠ gb533 ∧ k_ ≠ s_.2.2) s_.2.1 t538) ∧ (w'.heap[gb532]? = some (.cells #[.slice A0_0 l0_0.length c0_0, .bool a0_1] 37 (0, 0))) ∧ (w'.heap[gb533]? = some (.cells #[.slice A1_0 l1_0.length c1_0, .bool a1_1] 37 (0, 0))) ∧ (w'.heap[s_.2.2]? = some (.cells #[.slice none 0 0, .bool false] 37 (0, 0))) ∧ (w.heap.size ≤ s_.2.2) ∧ (w.heap.size ≤ s_.2.2) ∧ (gb532 ≠ s_.2.2) ∧ (s_.2.2 ≠ gb532) ∧ (gb533 ≠ s_.2.2) ∧ (s_.2.2 ≠ gb533) ∧ (Below w.heap.size w w')) ?_ ?_
  rotate_left
  ·intro hCont
   refine two_ (i := 2) (j := 4) (Ni := some 8) (Nj := some 5) #[true, true, true, false, false, false] #[true, true, false, false, true, false] rfl rfl rfl rfl (by kernel_rfl) (by decide) (by decide) (fun K hK => ?_) (fun K hK => ?_)
   ·skip
    refine goes_ Try.func26 (by kernel_rfl) rfl #[.agg #[.slice A1_0 l1_0.length c1_0, .bool a1_1]] (by rfl) rfl rfl (by (try simp only [List.map_toArray, List.map_cons, List.map_nil]); first | done | rfl | (simp only [List.length_drop, List.length_take]; rfl)) ?_
    with_reducible refine (trivetref01_Neg.calls k (fun k_ => k_ < w.heap.size) _ _ l1_0 a1_1 t534 t537 _ ?side1 A3.out).mono ?_
    (case side1 => exact Kd.V_mk HC1_0.out (Kd.F_below (Kd.C_F (Kd.heap_int .u64) HR1_0.out) (kw HB.out)))
    rintro e w9 ⟨v535, rfl, ho0, hb⟩
    refine ⟨_, rfl, ?_⟩
    have HO536 := ka (Kd.V_lower (Kd.V_mono (ok' := fun k_ => k_ ≠ gb532 ∧ k_ ≠ gb533) ho0 (fun k_ hk_ => ⟨Or.elim hk_ (fun hs_ => fun e_ => Nat.not_le.2 hs_ (by rw [e_]; exact GW532.out)) (fun hn_ => (kf BK532 hn_)), Or.elim hk_ (fun hs_ => fun e_ => Nat.not_le.2 hs_ (by rw [e_]; exact GW533.out)) (fun hn_ => (kf BK533 hn_))⟩)) (below_size (kw HB.out)))
    replace BK532 := kbb BK532 hb
    replace BK533 := kbb BK533 hb
    replace HB := ka (below_step (kw HB.out) hb)
    (try clear hb)
    (try clear hb2)
    (try clear hk)
    (try clear hi)
    (try clear ho0)
    obtain ⟨Ao10, co10, eo10⟩ := Kd.V_slice HO536.out
    (first | subst eo10 | (injection eo10 with f1_ f2_ f3_; have f4_ := f1_.symm; have f5_ := f3_.symm; clear f1_ f2_ f3_; subst f4_; subst f5_))
    refine hK.out _ _ ⟨(blk_cell BK532.out 0).trans rfl, (blk_cell BK532.out 1).trans rfl, (blk_cell BK533.out 0).trans rfl, (blk_cell BK533.out 1).trans rfl⟩ (fun hHeld => ?_)
    clear hK K
    refine norm_ (a' := ?_) ?_ ?_
    rotate_left
    ·show Act.put _ (some 8) _ = _
     simp only [Act.put, List.setIfInBounds_toArray, List.set_cons_zero, List.set_cons_succ, i64_w, i32_w]
     rfl
    refine two_ (i := 3) (j := 4) (Ni := some 9) (Nj := some 5) #[true, true, true, true, false, false] #[true, true, true, false, true, false] rfl rfl rfl rfl (by kernel_rfl) (by decide) (by decide) (fun K hK => ?_) (fun K hK => ?_)
    ·skip
     refine goes_ Try.func28 (by kernel_rfl) rfl #[.agg #[.slice A0_0 l0_0.length c0_0, .bool a0_1], .agg #[.slice Ao10 t534.length co10, .bool t537]] (by rfl) rfl rfl (by (try simp only [List.map_toArray, List.map_cons, List.map_nil]); first | done | rfl | (simp only [List.length_drop, List.length_take]; rfl)) ?_
     with_reducible refine (trivetref01_Add.calls k _ _ l0_0 a0_1 _ _ t534 t537 t538 t541 _ ?side1 ?side2 ?side3 ?side4 A4.out).mono ?_
     (case side1 => repeat (first | exact (Kd.C_below HR0_0.out HB.out) | (with_reducible refine Kd.C_alloc ?_ _) | (with_reducible refine Kd.C_drewN ?_ _) | (with_reducible refine Kd.C_drew ?_)))
     (case side2 => exact HC0_0.out)
     (case side3 => repeat (first | exact (Kd.V_reads' HO536.out).2.2 | (with_reducible refine Kd.C_alloc ?_ _) | (with_reducible refine Kd.C_drewN ?_ _) | (with_reducible refine Kd.C_drew ?_)))
     (case side4 => exact (Kd.V_reads' HO536.out).2.1)
     rintro e w11 ⟨v539, rfl, ho0, hb⟩
     refine ⟨_, rfl, ?_⟩
     replace HO536 := kvb HO536 hb
     have HO540 := ka (Kd.V_lower (Kd.V_mono (ok' := fun k_ => k_ ≠ gb532 ∧ k_ ≠ gb533) ho0 (fun k_ hk_ => ⟨(kf BK532 hk_), (kf BK533 hk_)⟩)) (below_size (kw HB.out)))
     replace BK532 := kbb BK532 hb
     replace BK533 := kbb BK533 hb
     replace HB := ka (below_step (kw HB.out) hb)
     (try clear hb)
     (try clear hb2)
     (try clear hk)
     (try clear hi)
     (try clear ho0)
     refine hK.out _ _ ⟨(blk_cell BK532.out 0).trans rfl, (blk_cell BK532.out 1).trans rfl, (blk_cell BK533.out 0).trans rfl, (blk_cell BK533.out 1).trans rfl⟩ (fun hHeld => ?_)
     clear hK K
     refine norm_ (a' := ?_) ?_ ?_
     rotate_left
     ·show Act.put _ (some 9) _ = _
      simp only [Act.put, List.setIfInBounds_toArray, List.set_cons_zero, List.set_cons_succ, i64_w, i32_w]
      rfl
     refine one_ (i := 4) (N := some 5) #[true, true, true, true, true, false] rfl rfl (by kernel_rfl) (by decide) (fun K hK => ?_)
     refine box_step ?hg (N := 5) ?hd (cs := #[.slice none 0 0, .bool false]) (t := 37) ?hr ?_; (case hd => rfl); (case hg => rfl); (case hr => first | (go_simp; done) | (go_simp; rfl))
     intro gb542 hg w12 hbox hb
     replace HO536 := ka (Kd.V_below (Kd.V_elderB (kv HO536.out) gb542 (Nat.le_of_eq hg.symm)) hb)
     replace HO540 := ka (Kd.V_below (Kd.V_elderB (kv HO540.out) gb542 (Nat.le_of_eq hg.symm)) hb)
     have BK542 := ka (hbox)
     have GW542 := ka ((by rw [hg]; exact (below_size (kw HB.out)) : w.heap.size ≤ gb542))
     have GE542 := ka ((by rw [hg]; exact (below_size (kw HB.out)) : w.heap.size ≤ gb542))
     replace HB := ka (below_step (kw HB.out) hb)
     have NB532_542 := knb hg BK532
     have NB542_532 := ka NB532_542.out.symm
     replace BK532 := kbb BK532 hb
     have NB533_542 := knb hg BK533
     have NB542_533 := ka NB533_542.out.symm
     replace BK533 := kbb BK533 hb
     clear hb hbox hg
     refine hK.out _ _ ⟨(blk_cell BK532.out 0).trans rfl, (blk_cell BK532.out 1).trans rfl, (blk_cell BK533.out 0).trans rfl, (blk_cell BK533.out 1).trans rfl⟩ (fun hHeld => ?_)
     clear hK K
     refine norm_ (a' := ?_) ?_ ?_
     rotate_left
     ·show Act.put _ (some 5) _ = _
      simp only [Act.put, List.setIfInBounds_toArray, List.set_cons_zero, List.set_cons_succ, i64_w, i32_w]
      rfl
     exact norm_ (by simp only [putAll, Act.put, List.setIfInBounds_toArray, List.set_cons_zero, List.set_cons_succ]) (hCont (.slice Ao10 t534.length co10, v539, gb542) _ ⟨hHeld, (kv (Kd.V_mono HO536.out (fun _ => ra2))), (kv (Kd.V_mono HO540.out (fun _ => ra2))), (kz BK532.out), (kz BK533.out), (kz BK542.out), GW542.out, GE542.out, NB532_542.out, NB542_532.out, NB533_542.out, NB542_533.out, (kw HB.out)⟩)
    ·skip
     refine box_step ?hg (N := 5) ?hd (cs := #[.slice none 0 0, .bool false]) (t := 37) ?hr ?_; (case hd => rfl); (case hg => rfl); (case hr => first | (go_simp; done) | (go_simp; rfl))
     intro gb542 hg w10 hbox hb
     replace HO536 := ka (Kd.V_below (Kd.V_elderB (kv HO536.out) gb542 (Nat.le_of_eq hg.symm)) hb)
     have BK542 := ka (hbox)
     have GW542 := ka ((by rw [hg]; exact (below_size (kw HB.out)) : w.heap.size ≤ gb542))
     have GE542 := ka ((by rw [hg]; exact (below_size (kw HB.out)) : w.heap.size ≤ gb542))
     replace HB := ka (below_step (kw HB.out) hb)
     have NB532_542 := knb hg BK532
     have NB542_532 := ka NB532_542.out.symm
     replace BK532 := kbb BK532 hb
     have NB533_542 := knb hg BK533
     have NB542_533 := ka NB533_542.out.symm
     replace BK533 := kbb BK533 hb
     clear hb hbox hg
     obtain ⟨Ao11, co11, eo11⟩ := Kd.V_slice HO536.out
     (first | subst eo11 | (injection eo11 with f1_ f2_ f3_; have f4_ := f1_.symm; have f5_ := f3_.symm; clear f1_ f2_ f3_; subst f4_; subst f5_))
     refine hK.out _ _ ⟨(blk_cell BK532.out 0).trans rfl, (blk_cell BK532.out 1).trans rfl, (blk_cell BK533.out 0).trans rfl, (blk_cell BK533.out 1).trans rfl⟩ (fun hHeld => ?_)
     clear hK K
     refine norm_ (a' := ?_) ?_ ?_
     rotate_left
     ·show Act.put _ (some 5) _ = _
      simp only [Act.put, List.setIfInBounds_toArray, List.set_cons_zero, List.set_cons_succ, i64_w, i32_w]
      rfl
     refine one_ (i := 3) (N := some 9) #[true, true, true, true, true, false] rfl rfl (by kernel_rfl) (by decide) (fun K hK => ?_)
     refine goes_ Try.func28 (by kernel_rfl) rfl #[.agg #[.slice A0_0 l0_0.length c0_0, .bool a0_1], .agg #[.slice Ao11 t534.length co11, .bool t537]] (by rfl) rfl rfl (by (try simp only [List.map_toArray, List.map_cons, List.map_nil]); first | done | rfl | (simp only [List.length_drop, List.length_take]; rfl)) ?_
     with_reducible refine (trivetref01_Add.calls k _ _ l0_0 a0_1 _ _ t534 t537 t538 t541 _ ?side1 ?side2 ?side3 ?side4 A4.out).mono ?_
     (case side1 => repeat (first | exact (Kd.C_below HR0_0.out HB.out) | (with_reducible refine Kd.C_alloc ?_ _) | (with_reducible refine Kd.C_drewN ?_ _) | (with_reducible refine Kd.C_drew ?_)))
     (case side2 => exact HC0_0.out)
     (case side3 => repeat (first | exact (Kd.V_reads' HO536.out).2.2 | (with_reducible refine Kd.C_alloc ?_ _) | (with_reducible refine Kd.C_drewN ?_ _) | (with_reducible refine Kd.C_drew ?_)))
     (case side4 => exact (Kd.V_reads' HO536.out).2.1)
     rintro e w12 ⟨v539, rfl, ho0, hb⟩
     refine ⟨_, rfl, ?_⟩
     replace HO536 := kvb HO536 hb
     have HO540 := ka (Kd.V_lower (Kd.V_mono (ok' := fun k_ => k_ ≠ gb532 ∧ k_ ≠ gb533 ∧ k_ ≠ gb542) ho0 (fun k_ hk_ => ⟨(kf BK532 hk_), (kf BK533 hk_), (kf BK542 hk_)⟩)) (below_size (kw HB.out)))
     replace BK532 := kbb BK532 hb
     replace BK533 := kbb BK533 hb
     replace BK542 := kbb BK542 hb
     replace HB := ka (below_step (kw HB.out) hb)
     (try clear hb)
     (try clear hb2)
     (try clear hk)
     (try clear hi)
     (try clear ho0)
     refine hK.out _ _ ⟨(blk_cell BK532.out 0).trans rfl, (blk_cell BK532.out 1).trans rfl, (blk_cell BK533.out 0).trans rfl, (blk_cell BK533.out 1).trans rfl⟩ (fun hHeld => ?_)
     clear hK K
     refine norm_ (a' := ?_) ?_ ?_
     rotate_left
     ·show Act.put _ (some 9) _ = _
      simp only [Act.put, List.setIfInBounds_toArray, List.set_cons_zero, List.set_cons_succ, i64_w, i32_w]
      rfl
     exact norm_ (by simp only [putAll, Act.put, List.setIfInBounds_toArray, List.set_cons_zero, List.set_cons_succ]) (hCont (.slice Ao11 t534.length co11, v539, gb542) _ ⟨hHeld, (kv (Kd.V_mono HO536.out (fun _ => ra2))), (kv HO540.out), (kz BK532.out), (kz BK533.out), (kz BK542.out), GW542.out, GE542.out, NB532_542.out, NB542_532.out, NB533_542.out, NB542_533.out, (kw HB.out)⟩)
   ·skip
    refine box_step ?hg (N := 5) ?hd (cs := #[.slice none 0 0, .bool false]) (t := 37) ?hr ?_; (case hd => rfl); (case hg => rfl); (case hr => first | (go_simp; done) | (go_simp; rfl))
    intro gb542 hg w9 hbox hb
    have BK542 := ka (hbox)
    have GW542 := ka ((by rw [hg]; exact (below_size (kw HB.out)) : w.heap.size ≤ gb542))
    have GE542 := ka ((by rw [hg]; exact (below_size (kw HB.out)) : w.heap.size ≤ gb542))
    replace HB := ka (below_step (kw HB.out) hb)
    have NB532_542 := knb hg BK532
    have NB542_532 := ka NB532_542.out.symm
    replace BK532 := kbb BK532 hb
    have NB533_542 := knb hg BK533
    have NB542_533 := ka NB533_542.out.symm
    replace BK533 := kbb BK533 hb
    clear hb hbox hg
    refine hK.out _ _ ⟨(blk_cell BK532.out 0).trans rfl, (blk_cell BK532.out 1).trans rfl, (blk_cell BK533.out 0).trans rfl, (blk_cell BK533.out 1).trans rfl⟩ (fun hHeld => ?_)
    clear hK K
    refine norm_ (a' := ?_) ?_ ?_
    rotate_left
    ·show Act.put _ (some 5) _ = _
     simp only [Act.put, List.setIfInBounds_toArray, List.set_cons_zero, List.set_cons_succ, i64_w, i32_w]
     rfl
    refine one_ (i := 2) (N := some 8) #[true, true, true, false, true, false] rfl rfl (by kernel_rfl) (by decide) (fun K hK => ?_)
    refine goes_ Try.func26 (by kernel_rfl) rfl #[.agg #[.slice A1_0 l1_0.length c1_0, .bool a1_1]] (by rfl) rfl rfl (by (try simp only [List.map_toArray, List.map_cons, List.map_nil]); first | done | rfl | (simp only [List.length_drop, List.length_take]; rfl)) ?_
    with_reducible refine (trivetref01_Neg.calls k (fun k_ => k_ < w.heap.size) _ _ l1_0 a1_1 t534 t537 _ ?side1 A3.out).mono ?_
    (case side1 => exact Kd.V_mk HC1_0.out (Kd.F_below (Kd.C_F (Kd.heap_int .u64) HR1_0.out) (kw HB.out)))
    rintro e w10 ⟨v535, rfl, ho0, hb⟩
    refine ⟨_, rfl, ?_⟩
    have HO536 := ka (Kd.V_lower (Kd.V_mono (ok' := fun k_ => k_ ≠ gb532 ∧ k_ ≠ gb533 ∧ k_ ≠ gb542) ho0 (fun k_ hk_ => ⟨Or.elim hk_ (fun hs_ => fun e_ => Nat.not_le.2 hs_ (by rw [e_]; exact GW532.out)) (fun hn_ => (kf BK532 hn_)), Or.elim hk_ (fun hs_ => fun e_ => Nat.not_le.2 hs_ (by rw [e_]; exact GW533.out)) (fun hn_ => (kf BK533 hn_)), Or.elim hk_ (fun hs_ => fun e_ => Nat.not_le.2 hs_ (by rw [e_]; exact GW542.out)) (fun hn_ => (kf BK542 hn_))⟩)) (below_size (kw HB.out)))
    replace BK532 := kbb BK532 hb
    replace BK533 := kbb BK533 hb
    replace BK542 := kbb BK542 hb
    replace HB := ka (below_step (kw HB.out) hb)
    (try clear hb)
    (try clear hb2)
    (try clear hk)
    (try clear hi)
    (try clear ho0)
    obtain ⟨Ao11, co11, eo11⟩ := Kd.V_slice HO536.out
    (first | subst eo11 | (injection eo11 with f1_ f2_ f3_; have f4_ := f1_.symm; have f5_ := f3_.symm; clear f1_ f2_ f3_; subst f4_; subst f5_))
    refine hK.out _ _ ⟨(blk_cell BK532.out 0).trans rfl, (blk_cell BK532.out 1).trans rfl, (blk_cell BK533.out 0).trans rfl, (blk_cell BK533.out 1).trans rfl⟩ (fun hHeld => ?_)
    clear hK K
    refine norm_ (a' := ?_) ?_ ?_
    rotate_left
    ·show Act.put _ (some 8) _ = _
     simp only [Act.put, List.setIfInBounds_toArray, List.set_cons_zero, List.set_cons_succ, i64_w, i32_w]
     rfl
    refine one_ (i := 3) (N := some 9) #[true, true, true, true, true, false] rfl rfl (by kernel_rfl) (by decide) (fun K hK => ?_)
    refine goes_ Try.func28 (by kernel_rfl) rfl #[.agg #[.slice A0_0 l0_0.length c0_0, .bool a0_1], .agg #[.slice Ao11 t534.length co11, .bool t537]] (by rfl) rfl rfl (by (try simp only [List.map_toArray, List.map_cons, List.map_nil]); first | done | rfl | (simp only [List.length_drop, List.length_take]; rfl)) ?_
    with_reducible refine (trivetref01_Add.calls k _ _ l0_0 a0_1 _ _ t534 t537 t538 t541 _ ?side1 ?side2 ?side3 ?side4 A4.out).mono ?_
    (case side1 => repeat (first | exact (Kd.C_below HR0_0.out HB.out) | (with_reducible refine Kd.C_alloc ?_ _) | (with_reducible refine Kd.C_drewN ?_ _) | (with_reducible refine Kd.C_drew ?_)))
    (case side2 => exact HC0_0.out)
    (case side3 => repeat (first | exact (Kd.V_reads' HO536.out).2.2 | (with_reducible refine Kd.C_alloc ?_ _) | (with_reducible refine Kd.C_drewN ?_ _) | (with_reducible refine Kd.C_drew ?_)))
    (case side4 => exact (Kd.V_reads' HO536.out).2.1)
    rintro e w12 ⟨v539, rfl, ho0, hb⟩
    refine ⟨_, rfl, ?_⟩
    replace HO536 := kvb HO536 hb
    have HO540 := ka (Kd.V_lower (Kd.V_mono (ok' := fun k_ => k_ ≠ gb532 ∧ k_ ≠ gb533 ∧ k_ ≠ gb542) ho0 (fun k_ hk_ => ⟨(kf BK532 hk_), (kf BK533 hk_), (kf BK542 hk_)⟩)) (below_size (kw HB.out)))
    replace BK532 := kbb BK532 hb
    replace BK533 := kbb BK533 hb
    replace BK542 := kbb BK542 hb
    replace HB := ka (below_step (kw HB.out) hb)
    (try clear hb)
    (try clear hb2)
    (try clear hk)
    (try clear hi)
    (try clear ho0)
    refine hK.out _ _ ⟨(blk_cell BK532.out 0).trans rfl, (blk_cell BK532.out 1).trans rfl, (blk_cell BK533.out 0).trans rfl, (blk_cell BK533.out 1).trans rfl⟩ (fun hHeld => ?_)
    clear hK K
    refine norm_ (a' := ?_) ?_ ?_
    rotate_left
    ·show Act.put _ (some 9) _ = _
     simp only [Act.put, List.setIfInBounds_toArray, List.set_cons_zero, List.set_cons_succ, i64_w, i32_w]
     rfl
    exact norm_ (by simp only [putAll, Act.put, List.setIfInBounds_toArray, List.set_cons_zero, List.set_cons_succ]) (hCont (.slice Ao11 t534.length co11, v539, gb542) _ ⟨hHeld, (kv HO536.out), (kv HO540.out), (kz BK532.out), (kz BK533.out), (kz BK542.out), GW542.out, GE542.out, NB532_542.out, NB542_532.out, NB533_542.out, NB542_533.out, (kw HB.out)⟩)
  rintro ⟨v535, v539, gb542⟩ w13 ⟨hS_, h0_, h1_, h2_, h3_, h4_, h5_, h6_, h7_, h8_, h9_, h10_, h11_⟩
  have HO536 : Aside0 (Kd.V (Kd.int .u64) 53 w13 w.heap.size (fun k_ => k_ ≠ gb532 ∧ k_ ≠ gb533 ∧ k_ ≠ gb542) v535 t534) := ⟨h0_⟩
  have HO540 : Aside0 (Kd.V (Kd.int .u64) 53 w13 w.heap.size (fun k_ => k_ ≠ gb532 ∧ k_ ≠ gb533 ∧ k_ ≠ gb542) v539 t538) := ⟨h1_⟩
  replace BK532 : Aside0 (w13.heap[gb532]? = some (.cells #[.slice A0_0 l0_0.length c0_0, .bool a0_1] 37 (0, 0))) := ⟨h2_⟩
  replace BK533 : Aside0 (w13.heap[gb533]? = some (.cells #[.slice A1_0 l1_0.length c1_0, .bool a1_1] 37 (0, 0))) := ⟨h3_⟩
  have BK542 : Aside0 (w13.heap[gb542]? = some (.cells #[.slice none 0 0, .bool false] 37 (0, 0))) := ⟨h4_⟩
  have GW542 : Aside0 (w.heap.size ≤ gb542) := ⟨h5_⟩
  have GE542 : Aside0 (w.heap.size ≤ gb542) := ⟨h6_⟩
  have NB532_542 : Aside0 (gb532 ≠ gb542) := ⟨h7_⟩
  have NB542_532 : Aside0 (gb542 ≠ gb532) := ⟨h8_⟩
  have NB533_542 : Aside0 (gb533 ≠ gb542) := ⟨h9_⟩
  have NB542_533 : Aside0 (gb542 ≠ gb533) := ⟨h10_⟩
  replace HB : Aside0 (Below w.heap.size w w13) := ⟨h11_⟩
  clear h0_ h1_ h2_ h3_ h4_ h5_ h6_ h7_ h8_ h9_ h10_ h11_
  have hHeld : w13.cell? ⟨gb532, 0, none⟩ = some (.slice A0_0 l0_0.length c0_0) ∧ w13.cell? ⟨gb532, 1, none⟩ = some (.bool a0_1) ∧ w13.cell? ⟨gb533, 0, none⟩ = some (.slice A1_0 l1_0.length c1_0) ∧ w13.cell? ⟨gb533, 1, none⟩ = some (.bool a1_1) := hS_
  obtain ⟨Ao14, co14, eo14⟩ := Kd.V_slice HO540.out
  (first | subst eo14 | (injection eo14 with f1_ f2_ f3_; have f4_ := f1_.symm; have f5_ := f3_.symm; clear f1_ f2_ f3_; subst f4_; subst f5_))
  refine norm_ (a' := ?_) ?_ ?_
  rotate_left
  ·simp only [putAll, Act.put, List.setIfInBounds_toArray, List.set_cons_zero, List.set_cons_succ]
   rfl
  refine one_ (i := 5) (N := none) #[true, true, true, true, true, true] rfl rfl (by kernel_rfl) (by decide) (fun K hK => ?_)
  have hs15 : w13.cell? ⟨gb542, 0, none⟩ = some (.slice none 0 0) := (blk_cell BK542.out 0).trans rfl
  have hfs15 := blk_frozen BK542.out 0
  have hns15_0 := NB532_542.out
  have hns15_1 := NB533_542.out
  have hms15_0 := NB542_532.out
  have hms15_1 := NB542_533.out
  have hs16 : w13.cell? ⟨gb542, 1, none⟩ = some (.bool false) := (blk_cell BK542.out 1).trans rfl
  have hfs16 := blk_frozen BK542.out 1
  have hns16_0 := NB532_542.out
  have hns16_1 := NB533_542.out
  have hms16_0 := NB542_532.out
  have hms16_1 := NB542_533.out
  refine skip_ (w1 := ?_) (by rfl) rfl ?_ ?_
  rotate_left
  ·go_simp
   rfl
  refine hK.out _ _ ⟨((cell_far (p := ⟨gb542, _, none⟩) NB532_542.out _).trans (((cell_far (p := ⟨gb542, _, none⟩) NB532_542.out _).trans (hHeld.1)))), ((cell_far (p := ⟨gb542, _, none⟩) NB532_542.out _).trans (((cell_far (p := ⟨gb542, _, none⟩) NB532_542.out _).trans (hHeld.2.1)))), ((cell_far (p := ⟨gb542, _, none⟩) NB533_542.out _).trans (((cell_far (p := ⟨gb542, _, none⟩) NB533_542.out _).trans (hHeld.2.2.1)))), ((cell_far (p := ⟨gb542, _, none⟩) NB533_542.out _).trans (((cell_far (p := ⟨gb542, _, none⟩) NB533_542.out _).trans (hHeld.2.2.2))))⟩ (fun hHeld => ?_)
  clear hK K
  refine done_ (by kernel_rfl) ?_
  have hnb17 := NB542_532.out
  have hnc17 := NB532_542.out
  have hnb18 := NB542_533.out
  have hnc18 := NB533_542.out
  have hcz19 := blkAll2 BK542.out
  try go_wp2
  go_ret
  exact ⟨by first | rfl | (simp [errW_none, errW_some] <;> rfl) | (simp [*, errW_none, errW_some] <;> rfl), by repeat (first | (with_reducible first | exact HB.out | apply kc1 | apply kc2 | apply kc3 | refine kc4 ?_ GE532.out | refine kc4 ?_ GE533.out | refine kc4 ?_ GE542.out) | exact HB.out)⟩
 ·rw [if_neg c5] at H
  have c5b0 : ((t538.length : Int) == 0) = false := beq_eq_false_iff_ne.mpr c5
  have c5b1 : ((t538.length : Int) != 0) = true := bne_iff_ne.mpr c5
  have c5b2 : ¬ (t538 = []) := fun h_ => c5 (by rw [h_]; rfl)
  by_cases c20 : t541 = true
  ·subst c20
   have H1 : (some (-1)) = some r := by rw [if_pos rfl] at H; exact H
   clear H
   have H := H1
   clear H1
   obtain rfl := Option.some.inj H
   go_enter Try.func29, Try.ntmps29
   try go_wp2_with (first | ((with_reducible refine gate_dst (N := 2) rfl ?_); refine kx (N := 2) (cs := #[.slice A0_0 l0_0.length c0_0, .bool a0_1]) (t := 37) ?_; intro gb532 hg w21 hbox hb; have n0_ := ka (below_step (kw HB.out) hb); have n1_ := ka (hbox); have n2_ := ka ((by rw [hg]; exact (below_size (kw HB.out)) : w.heap.size ≤ gb532)); have n3_ := n2_; clear HB; have HB := n0_; have BK532 := n1_; have GW532 := n2_; have GE532 := n3_; clear n0_ n1_ n2_ n3_; clear hb hbox hg) | ((with_reducible refine gate_dst (N := 3) rfl ?_); refine kx (N := 3) (cs := #[.slice A1_0 l1_0.length c1_0, .bool a1_1]) (t := 37) ?_; intro gb533 hg w22 hbox hb; have n0_ := ka (blk_below (g := gb532) (kz BK532.out) hb); have n1_ := ka (below_step (kw HB.out) hb); have n2_ := ka (hbox); have n3_ := ka ((by rw [hg]; exact (below_size (kw HB.out)) : w.heap.size ≤ gb533)); have n4_ := n3_; have n5_ := ka ((by rw [hg]; exact Nat.ne_of_lt (blk_lt (g := gb532) (kz BK532.out)) : gb532 ≠ gb533)); have n6_ := ka n5_.out.symm; clear BK532; clear HB; have BK532 := n0_; have HB := n1_; have BK533 := n2_; have GW533 := n3_; have GE533 := n4_; have NB532_533 := n5_; have NB533_532 := n6_; clear n0_ n1_ n2_ n3_ n4_ n5_ n6_; clear hb hbox hg))
   replace BK532 := ka (blk_drew BK532.out)
   replace BK533 := ka (blk_drew BK533.out)
   replace HB := ka (below_drew1 HB.out)
   refine start_ (n := 6) (S := fun w' => w'.cell? ⟨gb532, 0, none⟩ = some (.slice A0_0 l0_0.length c0_0) ∧ w'.cell? ⟨gb532, 1, none⟩ = some (.bool a0_1) ∧ w'.cell? ⟨gb533, 0, none⟩ = some (.slice A1_0 l1_0.length c1_0) ∧ w'.cell? ⟨gb533, 1, none⟩ = some (.bool a1_1)) (ds := []) #[false, false, false, false, false, false] (by kernel_rfl) rfl rfl ⟨(blk_cell BK532.out 0).trans rfl, (blk_cell BK532.out 1).trans rfl, (blk_cell BK533.out 0).trans rfl, (blk_cell BK533.out 1).trans rfl⟩ (fun hHeld => ?_)
   generalize w22.drew = w23 at BK532 BK533 HB hHeld ⊢
   refine take_ (i := 0) (N := some 6) (v := ?_) (a' := ?_) #[true, false, false, false, false, false] rfl rfl (by kernel_rfl) (fun _ _ _ h => h) (Or.inl ⟨by rfl, ?_⟩) hHeld ?_ ?_
   rotate_left
   ·rintro w' ⟨s0, s1, s2, s3⟩
    go_simp
    with_reducible rfl
   rotate_left
   ·simp only [Act.put, List.setIfInBounds_toArray, List.set_cons_zero, List.set_cons_succ, i64_w, i32_w]
    rfl
   refine take_ (i := 1) (N := some 7) (v := ?_) (a' := ?_) #[true, true, false, false, false, false] rfl rfl (by kernel_rfl) (fun _ _ _ h => h) (Or.inl ⟨by rfl, ?_⟩) hHeld ?_ ?_
   rotate_left
   ·rintro w' ⟨s0, s1, s2, s3⟩
    go_simp
    with_reducible rfl
   rotate_left
   ·simp only [Act.put, List.setIfInBounds_toArray, List.set_cons_zero, List.set_cons_succ, i64_w, i32_w]
    rfl
   refine join_ (σ := Value × Value × Nat) 1 #[true, true, true, true, true, false] (fun s_ => [(8, .agg #[s_.1, .bool t537]), (9, .agg #[s_.2.1, .bool true]), (5, .pointer (some ⟨s_.2.2, 0, none⟩))]) (fun s_ w' => (w'.cell? ⟨gb532, 0, none⟩ = some (.slice A0_0 l0_0.length c0_0) ∧ w'.cell? ⟨gb532, 1, none⟩ = some (.bool a0_1) ∧ w'.cell? ⟨gb533, 0, none⟩ = some (.slice A1_0 l1_0.length c1_0) ∧ w'.cell? ⟨gb533, 1, none⟩ = some (.bool a1_1)) ∧ (Kd.V (Kd.int .u64) 53 w' w.heap.size (fun k_ => k_ ≠ gb532 ∧ k_ ≠ gb533 ∧ k_ ≠ s_.2.2) s_.1 t534) ∧ (Kd.V (Kd.int .u64) 53 w' w.heap.size (fun k_ => k_ ≠ gb532 ∧ k_ ≠ gb533 ∧ k_ ≠ s_.2.2) s_.2.1 t538) ∧ (w'.heap[gb532]? = some (.cells #[.slice A0_0 l0_0.length c0_0, .bool a0_1] 37 (0, 0))) ∧ (w'.heap[gb533]? = some (.cells #[.slice A1_0 l1_0.length c1_0, .bool a1_1] 37 (0, 0))) ∧ (w'.heap[s_.2.2]? = some (.cells #[.slice none 0 0, .bool false] 37 (0, 0))) ∧ (w.heap.size ≤ s_.2.2) ∧ (w.heap.size ≤ s_.2.2) ∧ (gb532 ≠ s_.2.2) ∧ (s_.2.2 ≠ gb532) ∧ (gb533 ≠ s_.2.2) ∧ (s_.2.2 ≠ gb533) ∧ (Below w.heap.size w w')) ?_ ?_
   rotate_left
   ·intro hCont
    refine two_ (i := 2) (j := 4) (Ni := some 8) (Nj := some 5) #[true, true, true, false, false, false] #[true, true, false, false, true, false] rfl rfl rfl rfl (by kernel_rfl) (by decide) (by decide) (fun K hK => ?_) (fun K hK => ?_)
    ·skip
     refine goes_ Try.func26 (by kernel_rfl) rfl #[.agg #[.slice A1_0 l1_0.length c1_0, .bool a1_1]] (by rfl) rfl rfl (by (try simp only [List.map_toArray, List.map_cons, List.map_nil]); first | done | rfl | (simp only [List.length_drop, List.length_take]; rfl)) ?_
     with_reducible refine (trivetref01_Neg.calls k (fun k_ => k_ < w.heap.size) _ _ l1_0 a1_1 t534 t537 _ ?side1 A3.out).mono ?_
     (case side1 => exact Kd.V_mk HC1_0.out (Kd.F_below (Kd.C_F (Kd.heap_int .u64) HR1_0.out) (kw HB.out)))
     rintro e w24 ⟨v535, rfl, ho0, hb⟩
     refine ⟨_, rfl, ?_⟩
     have HO536 := ka (Kd.V_lower (Kd.V_mono (ok' := fun k_ => k_ ≠ gb532 ∧ k_ ≠ gb533) ho0 (fun k_ hk_ => ⟨Or.elim hk_ (fun hs_ => fun e_ => Nat.not_le.2 hs_ (by rw [e_]; exact GW532.out)) (fun hn_ => (kf BK532 hn_)), Or.elim hk_ (fun hs_ => fun e_ => Nat.not_le.2 hs_ (by rw [e_]; exact GW533.out)) (fun hn_ => (kf BK533 hn_))⟩)) (below_size (kw HB.out)))
     replace BK532 := kbb BK532 hb
     replace BK533 := kbb BK533 hb
     replace HB := ka (below_step (kw HB.out) hb)
     (try clear hb)
     (try clear hb2)
     (try clear hk)
     (try clear hi)
     (try clear ho0)
     obtain ⟨Ao25, co25, eo25⟩ := Kd.V_slice HO536.out
     (first | subst eo25 | (injection eo25 with f1_ f2_ f3_; have f4_ := f1_.symm; have f5_ := f3_.symm; clear f1_ f2_ f3_; subst f4_; subst f5_))
     refine hK.out _ _ ⟨(blk_cell BK532.out 0).trans rfl, (blk_cell BK532.out 1).trans rfl, (blk_cell BK533.out 0).trans rfl, (blk_cell BK533.out 1).trans rfl⟩ (fun hHeld => ?_)
     clear hK K
     refine norm_ (a' := ?_) ?_ ?_
     rotate_left
     ·show Act.put _ (some 8) _ = _
      simp only [Act.put, List.setIfInBounds_toArray, List.set_cons_zero, List.set_cons_succ, i64_w, i32_w]
      rfl
     refine two_ (i := 3) (j := 4) (Ni := some 9) (Nj := some 5) #[true, true, true, true, false, false] #[true, true, true, false, true, false] rfl rfl rfl rfl (by kernel_rfl) (by decide) (by decide) (fun K hK => ?_) (fun K hK => ?_)
     ·skip
      refine goes_ Try.func28 (by kernel_rfl) rfl #[.agg #[.slice A0_0 l0_0.length c0_0, .bool a0_1], .agg #[.slice Ao25 t534.length co25, .bool t537]] (by rfl) rfl rfl (by (try simp only [List.map_toArray, List.map_cons, List.map_nil]); first | done | rfl | (simp only [List.length_drop, List.length_take]; rfl)) ?_
      with_reducible refine (trivetref01_Add.calls k _ _ l0_0 a0_1 _ _ t534 t537 t538 true _ ?side1 ?side2 ?side3 ?side4 A4.out).mono ?_
      (case side1 => repeat (first | exact (Kd.C_below HR0_0.out HB.out) | (with_reducible refine Kd.C_alloc ?_ _) | (with_reducible refine Kd.C_drewN ?_ _) | (with_reducible refine Kd.C_drew ?_)))
      (case side2 => exact HC0_0.out)
      (case side3 => repeat (first | exact (Kd.V_reads' HO536.out).2.2 | (with_reducible refine Kd.C_alloc ?_ _) | (with_reducible refine Kd.C_drewN ?_ _) | (with_reducible refine Kd.C_drew ?_)))
      (case side4 => exact (Kd.V_reads' HO536.out).2.1)
      rintro e w26 ⟨v539, rfl, ho0, hb⟩
      refine ⟨_, rfl, ?_⟩
      replace HO536 := kvb HO536 hb
      have HO540 := ka (Kd.V_lower (Kd.V_mono (ok' := fun k_ => k_ ≠ gb532 ∧ k_ ≠ gb533) ho0 (fun k_ hk_ => ⟨(kf BK532 hk_), (kf BK533 hk_)⟩)) (below_size (kw HB.out)))
      replace BK532 := kbb BK532 hb
      replace BK533 := kbb BK533 hb
      replace HB := ka (below_step (kw HB.out) hb)
      (try clear hb)
      (try clear hb2)
      (try clear hk)
      (try clear hi)
      (try clear ho0)
      refine hK.out _ _ ⟨(blk_cell BK532.out 0).trans rfl, (blk_cell BK532.out 1).trans rfl, (blk_cell BK533.out 0).trans rfl, (blk_cell BK533.out 1).trans rfl⟩ (fun hHeld => ?_)
      clear hK K
      refine norm_ (a' := ?_) ?_ ?_
      rotate_left
      ·show Act.put _ (some 9) _ = _
       simp only [Act.put, List.setIfInBounds_toArray, List.set_cons_zero, List.set_cons_succ, i64_w, i32_w]
       rfl
      refine one_ (i := 4) (N := some 5) #[true, true, true, true, true, false] rfl rfl (by kernel_rfl) (by decide) (fun K hK => ?_)
      refine box_step ?hg (N := 5) ?hd (cs := #[.slice none 0 0, .bool false]) (t := 37) ?hr ?_; (case hd => rfl); (case hg => rfl); (case hr => first | (go_simp; done) | (go_simp; rfl))
      intro gb542 hg w27 hbox hb
      replace HO536 := ka (Kd.V_below (Kd.V_elderB (kv HO536.out) gb542 (Nat.le_of_eq hg.symm)) hb)
      replace HO540 := ka (Kd.V_below (Kd.V_elderB (kv HO540.out) gb542 (Nat.le_of_eq hg.symm)) hb)
      have BK542 := ka (hbox)
      have GW542 := ka ((by rw [hg]; exact (below_size (kw HB.out)) : w.heap.size ≤ gb542))
      have GE542 := ka ((by rw [hg]; exact (below_size (kw HB.out)) : w.heap.size ≤ gb542))
      replace HB := ka (below_step (kw HB.out) hb)
      have NB532_542 := knb hg BK532
      have NB542_532 := ka NB532_542.out.symm
      replace BK532 := kbb BK532 hb
      have NB533_542 := knb hg BK533
      have NB542_533 := ka NB533_542.out.symm
      replace BK533 := kbb BK533 hb
      clear hb hbox hg
      refine hK.out _ _ ⟨(blk_cell BK532.out 0).trans rfl, (blk_cell BK532.out 1).trans rfl, (blk_cell BK533.out 0).trans rfl, (blk_cell BK533.out 1).trans rfl⟩ (fun hHeld => ?_)
      clear hK K
      refine norm_ (a' := ?_) ?_ ?_
      rotate_left
      ·show Act.put _ (some 5) _ = _
       simp only [Act.put, List.setIfInBounds_toArray, List.set_cons_zero, List.set_cons_succ, i64_w, i32_w]
       rfl
      exact norm_ (by simp only [putAll, Act.put, List.setIfInBounds_toArray, List.set_cons_zero, List.set_cons_succ]) (hCont (.slice Ao25 t534.length co25, v539, gb542) _ ⟨hHeld, (kv (Kd.V_mono HO536.out (fun _ => ra2))), (kv (Kd.V_mono HO540.out (fun _ => ra2))), (kz BK532.out), (kz BK533.out), (kz BK542.out), GW542.out, GE542.out, NB532_542.out, NB542_532.out, NB533_542.out, NB542_533.out, (kw HB.out)⟩)
     ·skip
      refine box_step ?hg (N := 5) ?hd (cs := #[.slice none 0 0, .bool false]) (t := 37) ?hr ?_; (case hd => rfl); (case hg => rfl); (case hr => first | (go_simp; done) | (go_simp; rfl))
      intro gb542 hg w25 hbox hb
      replace HO536 := ka (Kd.V_below (Kd.V_elderB (kv HO536.out) gb542 (Nat.le_of_eq hg.symm)) hb)
      have BK542 := ka (hbox)
      have GW542 := ka ((by rw [hg]; exact (below_size (kw HB.out)) : w.heap.size ≤ gb542))
      have GE542 := ka ((by rw [hg]; exact (below_size (kw HB.out)) : w.heap.size ≤ gb542))
      replace HB := ka (below_step (kw HB.out) hb)
      have NB532_542 := knb hg BK532
      have NB542_532 := ka NB532_542.out.symm
      replace BK532 := kbb BK532 hb
      have NB533_542 := knb hg BK533
      have NB542_533 := ka NB533_542.out.symm
      replace BK533 := kbb BK533 hb
      clear hb hbox hg
      obtain ⟨Ao26, co26, eo26⟩ := Kd.V_slice HO536.out
      (first | subst eo26 | (injection eo26 with f1_ f2_ f3_; have f4_ := f1_.symm; have f5_ := f3_.symm; clear f1_ f2_ f3_; subst f4_; subst f5_))
      refine hK.out _ _ ⟨(blk_cell BK532.out 0).trans rfl, (blk_cell BK532.out 1).trans rfl, (blk_cell BK533.out 0).trans rfl, (blk_cell BK533.out 1).trans rfl⟩ (fun hHeld => ?_)
      clear hK K
      refine norm_ (a' := ?_) ?_ ?_
      rotate_left
      ·show Act.put _ (some 5) _ = _
       simp only [Act.put, List.setIfInBounds_toArray, List.set_cons_zero, List.set_cons_succ, i64_w, i32_w]
       rfl
      refine one_ (i := 3) (N := some 9) #[true, true, true, true, true, false] rfl rfl (by kernel_rfl) (by decide) (fun K hK => ?_)
      refine goes_ Try.func28 (by kernel_rfl) rfl #[.agg #[.slice A0_0 l0_0.length c0_0, .bool a0_1], .agg #[.slice Ao26 t534.length co26, .bool t537]] (by rfl) rfl rfl (by (try simp only [List.map_toArray, List.map_cons, List.map_nil]); first | done | rfl | (simp only [List.length_drop, List.length_take]; rfl)) ?_
      with_reducible refine (trivetref01_Add.calls k _ _ l0_0 a0_1 _ _ t534 t537 t538 true _ ?side1 ?side2 ?side3 ?side4 A4.out).mono ?_
      (case side1 => repeat (first | exact (Kd.C_below HR0_0.out HB.out) | (with_reducible refine Kd.C_alloc ?_ _) | (with_reducible refine Kd.C_drewN ?_ _) | (with_reducible refine Kd.C_drew ?_)))
      (case side2 => exact HC0_0.out)
      (case side3 => repeat (first | exact (Kd.V_reads' HO536.out).2.2 | (with_reducible refine Kd.C_alloc ?_ _) | (with_reducible refine Kd.C_drewN ?_ _) | (with_reducible refine Kd.C_drew ?_)))
      (case side4 => exact (Kd.V_reads' HO536.out).2.1)
      rintro e w27 ⟨v539, rfl, ho0, hb⟩
      refine ⟨_, rfl, ?_⟩
      replace HO536 := kvb HO536 hb
      have HO540 := ka (Kd.V_lower (Kd.V_mono (ok' := fun k_ => k_ ≠ gb532 ∧ k_ ≠ gb533 ∧ k_ ≠ gb542) ho0 (fun k_ hk_ => ⟨(kf BK532 hk_), (kf BK533 hk_), (kf BK542 hk_)⟩)) (below_size (kw HB.out)))
      replace BK532 := kbb BK532 hb
      replace BK533 := kbb BK533 hb
      replace BK542 := kbb BK542 hb
      replace HB := ka (below_step (kw HB.out) hb)
      (try clear hb)
      (try clear hb2)
      (try clear hk)
      (try clear hi)
      (try clear ho0)
      refine hK.out _ _ ⟨(blk_cell BK532.out 0).trans rfl, (blk_cell BK532.out 1).trans rfl, (blk_cell BK533.out 0).trans rfl, (blk_cell BK533.out 1).trans rfl⟩ (fun hHeld => ?_)
      clear hK K
      refine norm_ (a' := ?_) ?_ ?_
      rotate_left
      ·show Act.put _ (some 9) _ = _
       simp only [Act.put, List.setIfInBounds_toArray, List.set_cons_zero, List.set_cons_succ, i64_w, i32_w]
       rfl
      exact norm_ (by simp only [putAll, Act.put, List.setIfInBounds_toArray, List.set_cons_zero, List.set_cons_succ]) (hCont (.slice Ao26 t534.length co26, v539, gb542) _ ⟨hHeld, (kv (Kd.V_mono HO536.out (fun _ => ra2))), (kv HO540.out), (kz BK532.out), (kz BK533.out), (kz BK542.out), GW542.out, GE542.out, NB532_542.out, NB542_532.out, NB533_542.out, NB542_533.out, (kw HB.out)⟩)
    ·skip
     refine box_step ?hg (N := 5) ?hd (cs := #[.slice none 0 0, .bool false]) (t := 37) ?hr ?_; (case hd => rfl); (case hg => rfl); (case hr => first | (go_simp; done) | (go_simp; rfl))
     intro gb542 hg w24 hbox hb
     have BK542 := ka (hbox)
     have GW542 := ka ((by rw [hg]; exact (below_size (kw HB.out)) : w.heap.size ≤ gb542))
     have GE542 := ka ((by rw [hg]; exact (below_size (kw HB.out)) : w.heap.size ≤ gb542))
     replace HB := ka (below_step (kw HB.out) hb)
     have NB532_542 := knb hg BK532
     have NB542_532 := ka NB532_542.out.symm
     replace BK532 := kbb BK532 hb
     have NB533_542 := knb hg BK533
     have NB542_533 := ka NB533_542.out.symm
     replace BK533 := kbb BK533 hb
     clear hb hbox hg
     refine hK.out _ _ ⟨(blk_cell BK532.out 0).trans rfl, (blk_cell BK532.out 1).trans rfl, (blk_cell BK533.out 0).trans rfl, (blk_cell BK533.out 1).trans rfl⟩ (fun hHeld => ?_)
     clear hK K
     refine norm_ (a' := ?_) ?_ ?_
     rotate_left
     ·show Act.put _ (some 5) _ = _
      simp only [Act.put, List.setIfInBounds_toArray, List.set_cons_zero, List.set_cons_succ, i64_w, i32_w]
      rfl
     refine one_ (i := 2) (N := some 8) #[true, true, true, false, true, false] rfl rfl (by kernel_rfl) (by decide) (fun K hK => ?_)
     refine goes_ Try.func26 (by kernel_rfl) rfl #[.agg #[.slice A1_0 l1_0.length c1_0, .bool a1_1]] (by rfl) rfl rfl (by (try simp only [List.map_toArray, List.map_cons, List.map_nil]); first | done | rfl | (simp only [List.length_drop, List.length_take]; rfl)) ?_
     with_reducible refine (trivetref01_Neg.calls k (fun k_ => k_ < w.heap.size) _ _ l1_0 a1_1 t534 t537 _ ?side1 A3.out).mono ?_
     (case side1 => exact Kd.V_mk HC1_0.out (Kd.F_below (Kd.C_F (Kd.heap_int .u64) HR1_0.out) (kw HB.out)))
     rintro e w25 ⟨v535, rfl, ho0, hb⟩
     refine ⟨_, rfl, ?_⟩
     have HO536 := ka (Kd.V_lower (Kd.V_mono (ok' := fun k_ => k_ ≠ gb532 ∧ k_ ≠ gb533 ∧ k_ ≠ gb542) ho0 (fun k_ hk_ => ⟨Or.elim hk_ (fun hs_ => fun e_ => Nat.not_le.2 hs_ (by rw [e_]; exact GW532.out)) (fun hn_ => (kf BK532 hn_)), Or.elim hk_ (fun hs_ => fun e_ => Nat.not_le.2 hs_ (by rw [e_]; exact GW533.out)) (fun hn_ => (kf BK533 hn_)), Or.elim hk_ (fun hs_ => fun e_ => Nat.not_le.2 hs_ (by rw [e_]; exact GW542.out)) (fun hn_ => (kf BK542 hn_))⟩)) (below_size (kw HB.out)))
     replace BK532 := kbb BK532 hb
     replace BK533 := kbb BK533 hb
     replace BK542 := kbb BK542 hb
     replace HB := ka (below_step (kw HB.out) hb)
     (try clear hb)
     (try clear hb2)
     (try clear hk)
     (try clear hi)
     (try clear ho0)
     obtain ⟨Ao26, co26, eo26⟩ := Kd.V_slice HO536.out
     (first | subst eo26 | (injection eo26 with f1_ f2_ f3_; have f4_ := f1_.symm; have f5_ := f3_.symm; clear f1_ f2_ f3_; subst f4_; subst f5_))
     refine hK.out _ _ ⟨(blk_cell BK532.out 0).trans rfl, (blk_cell BK532.out 1).trans rfl, (blk_cell BK533.out 0).trans rfl, (blk_cell BK533.out 1).trans rfl⟩ (fun hHeld => ?_)
     clear hK K
     refine norm_ (a' := ?_) ?_ ?_
     rotate_left
     ·show Act.put _ (some 8) _ = _
      simp only [Act.put, List.setIfInBounds_toArray, List.set_cons_zero, List.set_cons_succ, i64_w, i32_w]
      rfl
     refine one_ (i := 3) (N := some 9) #[true, true, true, true, true, false] rfl rfl (by kernel_rfl) (by decide) (fun K hK => ?_)
     refine goes_ Try.func28 (by kernel_rfl) rfl #[.agg #[.slice A0_0 l0_0.length c0_0, .bool a0_1], .agg #[.slice Ao26 t534.length co26, .bool t537]] (by rfl) rfl rfl (by (try simp only [List.map_toArray, List.map_cons, List.map_nil]); first | done | rfl | (simp only [List.length_drop, List.length_take]; rfl)) ?_
     with_reducible refine (trivetref01_Add.calls k _ _ l0_0 a0_1 _ _ t534 t537 t538 true _ ?side1 ?side2 ?side3 ?side4 A4.out).mono ?_
     (case side1 => repeat (first | exact (Kd.C_below HR0_0.out HB.out) | (with_reducible refine Kd.C_alloc ?_ _) | (with_reducible refine Kd.C_drewN ?_ _) | (with_reducible refine Kd.C_drew ?_)))
     (case side2 => exact HC0_0.out)
     (case side3 => repeat (first | exact (Kd.V_reads' HO536.out).2.2 | (with_reducible refine Kd.C_alloc ?_ _) | (with_reducible refine Kd.C_drewN ?_ _) | (with_reducible refine Kd.C_drew ?_)))
     (case side4 => exact (Kd.V_reads' HO536.out).2.1)
     rintro e w27 ⟨v539, rfl, ho0, hb⟩
     refine ⟨_, rfl, ?_⟩
     replace HO536 := kvb HO536 hb
     have HO540 := ka (Kd.V_lower (Kd.V_mono (ok' := fun k_ => k_ ≠ gb532 ∧ k_ ≠ gb533 ∧ k_ ≠ gb542) ho0 (fun k_ hk_ => ⟨(kf BK532 hk_), (kf BK533 hk_), (kf BK542 hk_)⟩)) (below_size (kw HB.out)))
     replace BK532 := kbb BK532 hb
     replace BK533 := kbb BK533 hb
     replace BK542 := kbb BK542 hb
     replace HB := ka (below_step (kw HB.out) hb)
     (try clear hb)
     (try clear hb2)
     (try clear hk)
     (try clear hi)
     (try clear ho0)
     refine hK.out _ _ ⟨(blk_cell BK532.out 0).trans rfl, (blk_cell BK532.out 1).trans rfl, (blk_cell BK533.out 0).trans rfl, (blk_cell BK533.out 1).trans rfl⟩ (fun hHeld => ?_)
     clear hK K
     refine norm_ (a' := ?_) ?_ ?_
     rotate_left
     ·show Act.put _ (some 9) _ = _
      simp only [Act.put, List.setIfInBounds_toArray, List.set_cons_zero, List.set_cons_succ, i64_w, i32_w]
      rfl
     exact norm_ (by simp only [putAll, Act.put, List.setIfInBounds_toArray, List.set_cons_zero, List.set_cons_succ]) (hCont (.slice Ao26 t534.length co26, v539, gb542) _ ⟨hHeld, (kv HO536.out), (kv HO540.out), (kz BK532.out), (kz BK533.out), (kz BK542.out), GW542.out, GE542.out, NB532_542.out, NB542_532.out, NB533_542.out, NB542_533.out, (kw HB.out)⟩)
   rintro ⟨v535, v539, gb542⟩ w28 ⟨hS_, h0_, h1_, h2_, h3_, h4_, h5_, h6_, h7_, h8_, h9_, h10_, h11_⟩
   have HO536 : Aside0 (Kd.V (Kd.int .u64) 53 w28 w.heap.size (fun k_ => k_ ≠ gb532 ∧ k_ ≠ gb533 ∧ k_ ≠ gb542) v535 t534) := ⟨h0_⟩
   have HO540 : Aside0 (Kd.V (Kd.int .u64) 53 w28 w.heap.size (fun k_ => k_ ≠ gb532 ∧ k_ ≠ gb533 ∧ k_ ≠ gb542) v539 t538) := ⟨h1_⟩
   replace BK532 : Aside0 (w28.heap[gb532]? = some (.cells #[.slice A0_0 l0_0.length c0_0, .bool a0_1] 37 (0, 0))) := ⟨h2_⟩
   replace BK533 : Aside0 (w28.heap[gb533]? = some (.cells #[.slice A1_0 l1_0.length c1_0, .bool a1_1] 37 (0, 0))) := ⟨h3_⟩
   have BK542 : Aside0 (w28.heap[gb542]? = some (.cells #[.slice none 0 0, .bool false] 37 (0, 0))) := ⟨h4_⟩
   have GW542 : Aside0 (w.heap.size ≤ gb542) := ⟨h5_⟩
   have GE542 : Aside0 (w.heap.size ≤ gb542) := ⟨h6_⟩
   have NB532_542 : Aside0 (gb532 ≠ gb542) := ⟨h7_⟩
   have NB542_532 : Aside0 (gb542 ≠ gb532) := ⟨h8_⟩
   have NB533_542 : Aside0 (gb533 ≠ gb542) := ⟨h9_⟩
   have NB542_533 : Aside0 (gb542 ≠ gb533) := ⟨h10_⟩
   replace HB : Aside0 (Below w.heap.size w w28) := ⟨h11_⟩
   clear h0_ h1_ h2_ h3_ h4_ h5_ h6_ h7_ h8_ h9_ h10_ h11_
   have hHeld : w28.cell? ⟨gb532, 0, none⟩ = some (.slice A0_0 l0_0.length c0_0) ∧ w28.cell? ⟨gb532, 1, none⟩ = some (.bool a0_1) ∧ w28.cell? ⟨gb533, 0, none⟩ = some (.slice A1_0 l1_0.length c1_0) ∧ w28.cell? ⟨gb533, 1, none⟩ = some (.bool a1_1) := hS_
   obtain ⟨Ao29, co29, eo29⟩ := Kd.V_slice HO540.out
   (first | subst eo29 | (injection eo29 with f1_ f2_ f3_; have f4_ := f1_.symm; have f5_ := f3_.symm; clear f1_ f2_ f3_; subst f4_; subst f5_))
   refine norm_ (a' := ?_) ?_ ?_
   rotate_left
   ·simp only [putAll, Act.put, List.setIfInBounds_toArray, List.set_cons_zero, List.set_cons_succ]
    rfl
   refine one_ (i := 5) (N := none) #[true, true, true, true, true, true] rfl rfl (by kernel_rfl) (by decide) (fun K hK => ?_)
   have hs30 : w28.cell? ⟨gb542, 0, none⟩ = some (.slice none 0 0) := (blk_cell BK542.out 0).trans rfl
   have hfs30 := blk_frozen BK542.out 0
   have hns30_0 := NB532_542.out
   have hns30_1 := NB533_542.out
   have hms30_0 := NB542_532.out
   have hms30_1 := NB542_533.out
   have hs31 : w28.cell? ⟨gb542, 1, none⟩ = some (.bool false) := (blk_cell BK542.out 1).trans rfl
   have hfs31 := blk_frozen BK542.out 1
   have hns31_0 := NB532_542.out
   have hns31_1 := NB533_542.out
   have hms31_0 := NB542_532.out
   have hms31_1 := NB542_533.out
   refine skip_ (w1 := ?_) (by rfl) rfl ?_ ?_
   rotate_left
   ·go_simp
    rfl
   refine hK.out _ _ ⟨((cell_far (p := ⟨gb542, _, none⟩) NB532_542.out _).trans (((cell_far (p := ⟨gb542, _, none⟩) NB532_542.out _).trans (hHeld.1)))), ((cell_far (p := ⟨gb542, _, none⟩) NB532_542.out _).trans (((cell_far (p := ⟨gb542, _, none⟩) NB532_542.out _).trans (hHeld.2.1)))), ((cell_far (p := ⟨gb542, _, none⟩) NB533_542.out _).trans (((cell_far (p := ⟨gb542, _, none⟩) NB533_542.out _).trans (hHeld.2.2.1)))), ((cell_far (p := ⟨gb542, _, none⟩) NB533_542.out _).trans (((cell_far (p := ⟨gb542, _, none⟩) NB533_542.out _).trans (hHeld.2.2.2))))⟩ (fun hHeld => ?_)
   clear hK K
   refine done_ (by kernel_rfl) ?_
   have hnb32 := NB542_532.out
   have hnc32 := NB532_542.out
   have hnb33 := NB542_533.out
   have hnc33 := NB533_542.out
   have hcz34 := blkAll2 BK542.out
   try go_wp2
   go_ret
   exact ⟨by first | rfl | (simp [errW_none, errW_some] <;> rfl) | (simp [*, errW_none, errW_some] <;> rfl), by repeat (first | (with_reducible first | exact HB.out | apply kc1 | apply kc2 | apply kc3 | refine kc4 ?_ GE532.out | refine kc4 ?_ GE533.out | refine kc4 ?_ GE542.out) | exact HB.out)⟩
  ·replace c20 := Bool.eq_false_iff.mpr c20
   subst c20
   have H1 : (some 1) = some r := by rw [if_neg (show ¬ (false = true) by decide)] at H; exact H
   clear H
   have H := H1
   clear H1
   obtain rfl := Option.some.inj H
   go_enter Try.func29, Try.ntmps29
   try go_wp2_with (first | ((with_reducible refine gate_dst (N := 2) rfl ?_); refine kx (N := 2) (cs := #[.slice A0_0 l0_0.length c0_0, .bool a0_1]) (t := 37) ?_; intro gb532 hg w35 hbox hb; have n0_ := ka (below_step (kw HB.out) hb); have n1_ := ka (hbox); have n2_ := ka ((by rw [hg]; exact (below_size (kw HB.out)) : w.heap.size ≤ gb532)); have n3_ := n2_; clear HB; have HB := n0_; have BK532 := n1_; have GW532 := n2_; have GE532 := n3_; clear n0_ n1_ n2_ n3_; clear hb hbox hg) | ((with_reducible refine gate_dst (N := 3) rfl ?_); refine kx (N := 3) (cs := #[.slice A1_0 l1_0.length c1_0, .bool a1_1]) (t := 37) ?_; intro gb533 hg w36 hbox hb; have n0_ := ka (blk_below (g := gb532) (kz BK532.out) hb); have n1_ := ka (below_step (kw HB.out) hb); have n2_ := ka (hbox); have n3_ := ka ((by rw [hg]; exact (below_size (kw HB.out)) : w.heap.size ≤ gb533)); have n4_ := n3_; have n5_ := ka ((by rw [hg]; exact Nat.ne_of_lt (blk_lt (g := gb532) (kz BK532.out)) : gb532 ≠ gb533)); have n6_ := ka n5_.out.symm; clear BK532; clear HB; have BK532 := n0_; have HB := n1_; have BK533 := n2_; have GW533 := n3_; have GE533 := n4_; have NB532_533 := n5_; have NB533_532 := n6_; clear n0_ n1_ n2_ n3_ n4_ n5_ n6_; clear hb hbox hg))
   replace BK532 := ka (blk_drew BK532.out)
   replace BK533 := ka (blk_drew BK533.out)
   replace HB := ka (below_drew1 HB.out)
   refine start_ (n := 6) (S := fun w' => w'.cell? ⟨gb532, 0, none⟩ = some (.slice A0_0 l0_0.length c0_0) ∧ w'.cell? ⟨gb532, 1, none⟩ = some (.bool a0_1) ∧ w'.cell? ⟨gb533, 0, none⟩ = some (.slice A1_0 l1_0.length c1_0) ∧ w'.cell? ⟨gb533, 1, none⟩ = some (.bool a1_1)) (ds := []) #[false, false, false, false, false, false] (by kernel_rfl) rfl rfl ⟨(blk_cell BK532.out 0).trans rfl, (blk_cell BK532.out 1).trans rfl, (blk_cell BK533.out 0).trans rfl, (blk_cell BK533.out 1).trans rfl⟩ (fun hHeld => ?_)
   generalize w36.drew = w37 at BK532 BK533 HB hHeld ⊢
   refine take_ (i := 0) (N := some 6) (v := ?_) (a' := ?_) #[true, false, false, false, false, false] rfl rfl (by kernel_rfl) (fun _ _ _ h => h) (Or.inl ⟨by rfl, ?_⟩) hHeld ?_ ?_
   rotate_left
   ·rintro w' ⟨s0, s1, s2, s3⟩
    go_simp
    with_reducible rfl
   rotate_left
   ·simp only [Act.put, List.setIfInBounds_toArray, List.set_cons_zero, List.set_cons_succ, i64_w, i32_w]
    rfl
   refine take_ (i := 1) (N := some 7) (v := ?_) (a' := ?_) #[true, true, false, false, false, false] rfl rfl (by kernel_rfl) (fun _ _ _ h => h) (Or.inl ⟨by rfl, ?_⟩) hHeld ?_ ?_
   rotate_left
   ·rintro w' ⟨s0, s1, s2, s3⟩
    go_simp
    with_reducible rfl
   rotate_left
   ·simp only [Act.put, List.setIfInBounds_toArray, List.set_cons_zero, List.set_cons_succ, i64_w, i32_w]
    rfl
   refine join_ (σ := Value × Value × Nat) 1 #[true, true, true, true, true, false] (fun s_ => [(8, .agg #[s_.1, .bool t537]), (9, .agg #[s_.2.1, .bool false]), (5, .pointer (some ⟨s_.2.2, 0, none⟩))]) (fun s_ w' => (w'.cell? ⟨gb532, 0, none⟩ = some (.slice A0_0 l0_0.length c0_0) ∧ w'.cell? ⟨gb532, 1, none⟩ = some (.bool a0_1) ∧ w'.cell? ⟨gb533, 0, none⟩ = some (.slice A1_0 l1_0.length c1_0) ∧ w'.cell? ⟨gb533, 1, none⟩ = some (.bool a1_1)) ∧ (Kd.V (Kd.int .u64) 53 w' w.heap.size (fun k_ => k_ ≠ gb532 ∧ k_ ≠ gb533 ∧ k_ ≠ s_.2.2) s_.1 t534) ∧ (Kd.V (Kd.int .u64) 53 w' w.heap.size (fun k_ => k_ ≠ gb532 ∧ k_ ≠ gb533 ∧ k_ ≠ s_.2.2) s_.2.1 t538) ∧ (w'.heap[gb532]? = some (.cells #[.slice A0_0 l0_0.length c0_0, .bool a0_1] 37 (0, 0))) ∧ (w'.heap[gb533]? = some (.cells #[.slice A1_0 l1_0.length c1_0, .bool a1_1] 37 (0, 0))) ∧ (w'.heap[s_.2.2]? = some (.cells #[.slice none 0 0, .bool false] 37 (0, 0))) ∧ (w.heap.size ≤ s_.2.2) ∧ (w.heap.size ≤ s_.2.2) ∧ (gb532 ≠ s_.2.2) ∧ (s_.2.2 ≠ gb532) ∧ (gb533 ≠ s_.2.2) ∧ (s_.2.2 ≠ gb533) ∧ (Below w.heap.size w w')) ?_ ?_
   rotate_left
   ·intro hCont
    refine two_ (i := 2) (j := 4) (Ni := some 8) (Nj := some 5) #[true, true, true, false, false, false] #[true, true, false, false, true, false] rfl rfl rfl rfl (by kernel_rfl) (by decide) (by decide) (fun K hK => ?_) (fun K hK => ?_)
    ·skip
     refine goes_ Try.func26 (by kernel_rfl) rfl #[.agg #[.slice A1_0 l1_0.length c1_0, .bool a1_1]] (by rfl) rfl rfl (by (try simp only [List.map_toArray, List.map_cons, List.map_nil]); first | done | rfl | (simp only [List.length_drop, List.length_take]; rfl)) ?_
     with_reducible refine (trivetref01_Neg.calls k (fun k_ => k_ < w.heap.size) _ _ l1_0 a1_1 t534 t537 _ ?side1 A3.out).mono ?_
     (case side1 => exact Kd.V_mk HC1_0.out (Kd.F_below (Kd.C_F (Kd.heap_int .u64) HR1_0.out) (kw HB.out)))
     rintro e w38 ⟨v535, rfl, ho0, hb⟩
     refine ⟨_, rfl, ?_⟩
     have HO536 := ka (Kd.V_lower (Kd.V_mono (ok' := fun k_ => k_ ≠ gb532 ∧ k_ ≠ gb533) ho0 (fun k_ hk_ => ⟨Or.elim hk_ (fun hs_ => fun e_ => Nat.not_le.2 hs_ (by rw [e_]; exact GW532.out)) (fun hn_ => (kf BK532 hn_)), Or.elim hk_ (fun hs_ => fun e_ => Nat.not_le.2 hs_ (by rw [e_]; exact GW533.out)) (fun hn_ => (kf BK533 hn_))⟩)) (below_size (kw HB.out)))
     replace BK532 := kbb BK532 hb
     replace BK533 := kbb BK533 hb
     replace HB := ka (below_step (kw HB.out) hb)
     (try clear hb)
     (try clear hb2)
     (try clear hk)
     (try clear hi)
     (try clear ho0)
     obtain ⟨Ao39, co39, eo39⟩ := Kd.V_slice HO536.out
     (first | subst eo39 | (injection eo39 with f1_ f2_ f3_; have f4_ := f1_.symm; have f5_ := f3_.symm; clear f1_ f2_ f3_; subst f4_; subst f5_))
     refine hK.out _ _ ⟨(blk_cell BK532.out 0).trans rfl, (blk_cell BK532.out 1).trans rfl, (blk_cell BK533.out 0).trans rfl, (blk_cell BK533.out 1).trans rfl⟩ (fun hHeld => ?_)
     clear hK K
     refine norm_ (a' := ?_) ?_ ?_
     rotate_left
     ·show Act.put _ (some 8) _ = _
      simp only [Act.put, List.setIfInBounds_toArray, List.set_cons_zero, List.set_cons_succ, i64_w, i32_w]
      rfl
     refine two_ (i := 3) (j := 4) (Ni := some 9) (Nj := some 5) #[true, true, true, true, false, false] #[true, true, true, false, true, false] rfl rfl rfl rfl (by kernel_rfl) (by decide) (by decide) (fun K hK => ?_) (fun K hK => ?_)
     ·skip
      refine goes_ Try.func28 (by kernel_rfl) rfl #[.agg #[.slice A0_0 l0_0.length c0_0, .bool a0_1], .agg #[.slice Ao39 t534.length co39, .bool t537]] (by rfl) rfl rfl (by (try simp only [List.map_toArray, List.map_cons, List.map_nil]); first | done | rfl | (simp only [List.length_drop, List.length_take]; rfl)) ?_
      with_reducible refine (trivetref01_Add.calls k _ _ l0_0 a0_1 _ _ t534 t537 t538 false _ ?side1 ?side2 ?side3 ?side4 A4.out).mono ?_
      (case side1 => repeat (first | exact (Kd.C_below HR0_0.out HB.out) | (with_reducible refine Kd.C_alloc ?_ _) | (with_reducible refine Kd.C_drewN ?_ _) | (with_reducible refine Kd.C_drew ?_)))
      (case side2 => exact HC0_0.out)
      (case side3 => repeat (first | exact (Kd.V_reads' HO536.out).2.2 | (with_reducible refine Kd.C_alloc ?_ _) | (with_reducible refine Kd.C_drewN ?_ _) | (with_reducible refine Kd.C_drew ?_)))
      (case side4 => exact (Kd.V_reads' HO536.out).2.1)
      rintro e w40 ⟨v539, rfl, ho0, hb⟩
      refine ⟨_, rfl, ?_⟩
      replace HO536 := kvb HO536 hb
      have HO540 := ka (Kd.V_lower (Kd.V_mono (ok' := fun k_ => k_ ≠ gb532 ∧ k_ ≠ gb533) ho0 (fun k_ hk_ => ⟨(kf BK532 hk_), (kf BK533 hk_)⟩)) (below_size (kw HB.out)))
      replace BK532 := kbb BK532 hb
      replace BK533 := kbb BK533 hb
      replace HB := ka (below_step (kw HB.out) hb)
      (try clear hb)
      (try clear hb2)
      (try clear hk)
      (try clear hi)
      (try clear ho0)
      refine hK.out _ _ ⟨(blk_cell BK532.out 0).trans rfl, (blk_cell BK532.out 1).trans rfl, (blk_cell BK533.out 0).trans rfl, (blk_cell BK533.out 1).trans rfl⟩ (fun hHeld => ?_)
      clear hK K
      refine norm_ (a' := ?_) ?_ ?_
      rotate_left
      ·show Act.put _ (some 9) _ = _
       simp only [Act.put, List.setIfInBounds_toArray, List.set_cons_zero, List.set_cons_succ, i64_w, i32_w]
       rfl
      refine one_ (i := 4) (N := some 5) #[true, true, true, true, true, false] rfl rfl (by kernel_rfl) (by decide) (fun K hK => ?_)
      refine box_step ?hg (N := 5) ?hd (cs := #[.slice none 0 0, .bool false]) (t := 37) ?hr ?_; (case hd => rfl); (case hg => rfl); (case hr => first | (go_simp; done) | (go_simp; rfl))
      intro gb542 hg w41 hbox hb
      replace HO536 := ka (Kd.V_below (Kd.V_elderB (kv HO536.out) gb542 (Nat.le_of_eq hg.symm)) hb)
      replace HO540 := ka (Kd.V_below (Kd.V_elderB (kv HO540.out) gb542 (Nat.le_of_eq hg.symm)) hb)
      have BK542 := ka (hbox)
      have GW542 := ka ((by rw [hg]; exact (below_size (kw HB.out)) : w.heap.size ≤ gb542))
      have GE542 := ka ((by rw [hg]; exact (below_size (kw HB.out)) : w.heap.size ≤ gb542))
      replace HB := ka (below_step (kw HB.out) hb)
      have NB532_542 := knb hg BK532
      have NB542_532 := ka NB532_542.out.symm
      replace BK532 := kbb BK532 hb
      have NB533_542 := knb hg BK533
      have NB542_533 := ka NB533_542.out.symm
      replace BK533 := kbb BK533 hb
      clear hb hbox hg
      refine hK.out _ _ ⟨(blk_cell BK532.out 0).trans rfl, (blk_cell BK532.out 1).trans rfl, (blk_cell BK533.out 0).trans rfl, (blk_cell BK533.out 1).trans rfl⟩ (fun hHeld => ?_)
      clear hK K
      refine norm_ (a' := ?_) ?_ ?_
      rotate_left
      ·show Act.put _ (some 5) _ = _
       simp only [Act.put, List.setIfInBounds_toArray, List.set_cons_zero, List.set_cons_succ, i64_w, i32_w]
       rfl
      exact norm_ (by simp only [putAll, Act.put, List.setIfInBounds_toArray, List.set_cons_zero, List.set_cons_succ]) (hCont (.slice Ao39 t534.length co39, v539, gb542) _ ⟨hHeld, (kv (Kd.V_mono HO536.out (fun _ => ra2))), (kv (Kd.V_mono HO540.out (fun _ => ra2))), (kz BK532.out), (kz BK533.out), (kz BK542.out), GW542.out, GE542.out, NB532_542.out, NB542_532.out, NB533_542.out, NB542_533.out, (kw HB.out)⟩)
     ·skip
      refine box_step ?hg (N := 5) ?hd (cs := #[.slice none 0 0, .bool false]) (t := 37) ?hr ?_; (case hd => rfl); (case hg => rfl); (case hr => first | (go_simp; done) | (go_simp; rfl))
      intro gb542 hg w39 hbox hb
      replace HO536 := ka (Kd.V_below (Kd.V_elderB (kv HO536.out) gb542 (Nat.le_of_eq hg.symm)) hb)
      have BK542 := ka (hbox)
      have GW542 := ka ((by rw [hg]; exact (below_size (kw HB.out)) : w.heap.size ≤ gb542))
      have GE542 := ka ((by rw [hg]; exact (below_size (kw HB.out)) : w.heap.size ≤ gb542))
      replace HB := ka (below_step (kw HB.out) hb)
      have NB532_542 := knb hg BK532
      have NB542_532 := ka NB532_542.out.symm
      replace BK532 := kbb BK532 hb
      have NB533_542 := knb hg BK533
      have NB542_533 := ka NB533_542.out.symm
      replace BK533 := kbb BK533 hb
      clear hb hbox hg
      obtain ⟨Ao40, co40, eo40⟩ := Kd.V_slice HO536.out
      (first | subst eo40 | (injection eo40 with f1_ f2_ f3_; have f4_ := f1_.symm; have f5_ := f3_.symm; clear f1_ f2_ f3_; subst f4_; subst f5_))
      refine hK.out _ _ ⟨(blk_cell BK532.out 0).trans rfl, (blk_cell BK532.out 1).trans rfl, (blk_cell BK533.out 0).trans rfl, (blk_cell BK533.out 1).trans rfl⟩ (fun hHeld => ?_)
      clear hK K
      refine norm_ (a' := ?_) ?_ ?_
      rotate_left
      ·show Act.put _ (some 5) _ = _
       simp only [Act.put, List.setIfInBounds_toArray, List.set_cons_zero, List.set_cons_succ, i64_w, i32_w]
       rfl
      refine one_ (i := 3) (N := some 9) #[true, true, true, true, true, false] rfl rfl (by kernel_rfl) (by decide) (fun K hK => ?_)
      refine goes_ Try.func28 (by kernel_rfl) rfl #[.agg #[.slice A0_0 l0_0.length c0_0, .bool a0_1], .agg #[.slice Ao40 t534.length co40, .bool t537]] (by rfl) rfl rfl (by (try simp only [List.map_toArray, List.map_cons, List.map_nil]); first | done | rfl | (simp only [List.length_drop, List.length_take]; rfl)) ?_
      with_reducible refine (trivetref01_Add.calls k _ _ l0_0 a0_1 _ _ t534 t537 t538 false _ ?side1 ?side2 ?side3 ?side4 A4.out).mono ?_
      (case side1 => repeat (first | exact (Kd.C_below HR0_0.out HB.out) | (with_reducible refine Kd.C_alloc ?_ _) | (with_reducible refine Kd.C_drewN ?_ _) | (with_reducible refine Kd.C_drew ?_)))
      (case side2 => exact HC0_0.out)
      (case side3 => repeat (first | exact (Kd.V_reads' HO536.out).2.2 | (with_reducible refine Kd.C_alloc ?_ _) | (with_reducible refine Kd.C_drewN ?_ _) | (with_reducible refine Kd.C_drew ?_)))
      (case side4 => exact (Kd.V_reads' HO536.out).2.1)
      rintro e w41 ⟨v539, rfl, ho0, hb⟩
      refine ⟨_, rfl, ?_⟩
      replace HO536 := kvb HO536 hb
      have HO540 := ka (Kd.V_lower (Kd.V_mono (ok' := fun k_ => k_ ≠ gb532 ∧ k_ ≠ gb533 ∧ k_ ≠ gb542) ho0 (fun k_ hk_ => ⟨(kf BK532 hk_), (kf BK533 hk_), (kf BK542 hk_)⟩)) (below_size (kw HB.out)))
      replace BK532 := kbb BK532 hb
      replace BK533 := kbb BK533 hb
      replace BK542 := kbb BK542 hb
      replace HB := ka (below_step (kw HB.out) hb)
      (try clear hb)
      (try clear hb2)
      (try clear hk)
      (try clear hi)
      (try clear ho0)
      refine hK.out _ _ ⟨(blk_cell BK532.out 0).trans rfl, (blk_cell BK532.out 1).trans rfl, (blk_cell BK533.out 0).trans rfl, (blk_cell BK533.out 1).trans rfl⟩ (fun hHeld => ?_)
      clear hK K
      refine norm_ (a' := ?_) ?_ ?_
      rotate_left
      ·show Act.put _ (some 9) _ = _
       simp only [Act.put, List.setIfInBounds_toArray, List.set_cons_zero, List.set_cons_succ, i64_w, i32_w]
       rfl
      exact norm_ (by simp only [putAll, Act.put, List.setIfInBounds_toArray, List.set_cons_zero, List.set_cons_succ]) (hCont (.slice Ao40 t534.length co40, v539, gb542) _ ⟨hHeld, (kv (Kd.V_mono HO536.out (fun _ => ra2))), (kv HO540.out), (kz BK532.out), (kz BK533.out), (kz BK542.out), GW542.out, GE542.out, NB532_542.out, NB542_532.out, NB533_542.out, NB542_533.out, (kw HB.out)⟩)
    ·skip
     refine box_step ?hg (N := 5) ?hd (cs := #[.slice none 0 0, .bool false]) (t := 37) ?hr ?_; (case hd => rfl); (case hg => rfl); (case hr => first | (go_simp; done) | (go_simp; rfl))
     intro gb542 hg w38 hbox hb
     have BK542 := ka (hbox)
     have GW542 := ka ((by rw [hg]; exact (below_size (kw HB.out)) : w.heap.size ≤ gb542))
     have GE542 := ka ((by rw [hg]; exact (below_size (kw HB.out)) : w.heap.size ≤ gb542))
     replace HB := ka (below_step (kw HB.out) hb)
     have NB532_542 := knb hg BK532
     have NB542_532 := ka NB532_542.out.symm
     replace BK532 := kbb BK532 hb
     have NB533_542 := knb hg BK533
     have NB542_533 := ka NB533_542.out.symm
     replace BK533 := kbb BK533 hb
     clear hb hbox hg
     refine hK.out _ _ ⟨(blk_cell BK532.out 0).trans rfl, (blk_cell BK532.out 1).trans rfl, (blk_cell BK533.out 0).trans rfl, (blk_cell BK533.out 1).trans rfl⟩ (fun hHeld => ?_)
     clear hK K
     refine norm_ (a' := ?_) ?_ ?_
     rotate_left
     ·show Act.put _ (some 5) _ = _
      simp only [Act.put, List.setIfInBounds_toArray, List.set_cons_zero, List.set_cons_succ, i64_w, i32_w]
      rfl
     refine one_ (i := 2) (N := some 8) #[true, true, true, false, true, false] rfl rfl (by kernel_rfl) (by decide) (fun K hK => ?_)
     refine goes_ Try.func26 (by kernel_rfl) rfl #[.agg #[.slice A1_0 l1_0.length c1_0, .bool a1_1]] (by rfl) rfl rfl (by (try simp only [List.map_toArray, List.map_cons, List.map_nil]); first | done | rfl | (simp only [List.length_drop, List.length_take]; rfl)) ?_
     with_reducible refine (trivetref01_Neg.calls k (fun k_ => k_ < w.heap.size) _ _ l1_0 a1_1 t534 t537 _ ?side1 A3.out).mono ?_
     (case side1 => exact Kd.V_mk HC1_0.out (Kd.F_below (Kd.C_F (Kd.heap_int .u64) HR1_0.out) (kw HB.out)))
     rintro e w39 ⟨v535, rfl, ho0, hb⟩
     refine ⟨_, rfl, ?_⟩
     have HO536 := ka (Kd.V_lower (Kd.V_mono (ok' := fun k_ => k_ ≠ gb532 ∧ k_ ≠ gb533 ∧ k_ ≠ gb542) ho0 (fun k_ hk_ => ⟨Or.elim hk_ (fun hs_ => fun e_ => Nat.not_le.2 hs_ (by rw [e_]; exact GW532.out)) (fun hn_ => (kf BK532 hn_)), Or.elim hk_ (fun hs_ => fun e_ => Nat.not_le.2 hs_ (by rw [e_]; exact GW533.out)) (fun hn_ => (kf BK533 hn_)), Or.elim hk_ (fun hs_ => fun e_ => Nat.not_le.2 hs_ (by rw [e_]; exact GW542.out)) (fun hn_ => (kf BK542 hn_))⟩)) (below_size (kw HB.out)))
     replace BK532 := kbb BK532 hb
     replace BK533 := kbb BK533 hb
     replace BK542 := kbb BK542 hb
     replace HB := ka (below_step (kw HB.out) hb)
     (try clear hb)
     (try clear hb2)
     (try clear hk)
     (try clear hi)
     (try clear ho0)
     obtain ⟨Ao40, co40, eo40⟩ := Kd.V_slice HO536.out
     (first | subst eo40 | (injection eo40 with f1_ f2_ f3_; have f4_ := f1_.symm; have f5_ := f3_.symm; clear f1_ f2_ f3_; subst f4_; subst f5_))
     refine hK.out _ _ ⟨(blk_cell BK532.out 0).trans rfl, (blk_cell BK532.out 1).trans rfl, (blk_cell BK533.out 0).trans rfl, (blk_cell BK533.out 1).trans rfl⟩ (fun hHeld => ?_)
     clear hK K
     refine norm_ (a' := ?_) ?_ ?_
     rotate_left
     ·show Act.put _ (some 8) _ = _
      simp only [Act.put, List.setIfInBounds_toArray, List.set_cons_zero, List.set_cons_succ, i64_w, i32_w]
      rfl
     refine one_ (i := 3) (N := some 9) #[true, true, true, true, true, false] rfl rfl (by kernel_rfl) (by decide) (fun K hK => ?_)
     refine goes_ Try.func28 (by kernel_rfl) rfl #[.agg #[.slice A0_0 l0_0.length c0_0, .bool a0_1], .agg #[.slice Ao40 t534.length co40, .bool t537]] (by rfl) rfl rfl (by (try simp only [List.map_toArray, List.map_cons, List.map_nil]); first | done | rfl | (simp only [List.length_drop, List.length_take]; rfl)) ?_
     with_reducible refine (trivetref01_Add.calls k _ _ l0_0 a0_1 _ _ t534 t537 t538 false _ ?side1 ?side2 ?side3 ?side4 A4.out).mono ?_
     (case side1 => repeat (first | exact (Kd.C_below HR0_0.out HB.out) | (with_reducible refine Kd.C_alloc ?_ _) | (with_reducible refine Kd.C_drewN ?_ _) | (with_reducible refine Kd.C_drew ?_)))
     (case side2 => exact HC0_0.out)
     (case side3 => repeat (first | exact (Kd.V_reads' HO536.out).2.2 | (with_reducible refine Kd.C_alloc ?_ _) | (with_reducible refine Kd.C_drewN ?_ _) | (with_reducible refine Kd.C_drew ?_)))
     (case side4 => exact (Kd.V_reads' HO536.out).2.1)
     rintro e w41 ⟨v539, rfl, ho0, hb⟩
     refine ⟨_, rfl, ?_⟩
     replace HO536 := kvb HO536 hb
     have HO540 := ka (Kd.V_lower (Kd.V_mono (ok' := fun k_ => k_ ≠ gb532 ∧ k_ ≠ gb533 ∧ k_ ≠ gb542) ho0 (fun k_ hk_ => ⟨(kf BK532 hk_), (kf BK533 hk_), (kf BK542 hk_)⟩)) (below_size (kw HB.out)))
     replace BK532 := kbb BK532 hb
     replace BK533 := kbb BK533 hb
     replace BK542 := kbb BK542 hb
     replace HB := ka (below_step (kw HB.out) hb)
     (try clear hb)
     (try clear hb2)
     (try clear hk)
     (try clear hi)
     (try clear ho0)
     refine hK.out _ _ ⟨(blk_cell BK532.out 0).trans rfl, (blk_cell BK532.out 1).trans rfl, (blk_cell BK533.out 0).trans rfl, (blk_cell BK533.out 1).trans rfl⟩ (fun hHeld => ?_)
     clear hK K
     refine norm_ (a' := ?_) ?_ ?_
     rotate_left
     ·show Act.put _ (some 9) _ = _
      simp only [Act.put, List.setIfInBounds_toArray, List.set_cons_zero, List.set_cons_succ, i64_w, i32_w]
      rfl
     exact norm_ (by simp only [putAll, Act.put, List.setIfInBounds_toArray, List.set_cons_zero, List.set_cons_succ]) (hCont (.slice Ao40 t534.length co40, v539, gb542) _ ⟨hHeld, (kv HO536.out), (kv HO540.out), (kz BK532.out), (kz BK533.out), (kz BK542.out), GW542.out, GE542.out, NB532_542.out, NB542_532.out, NB533_542.out, NB542_533.out, (kw HB.out)⟩)
   rintro ⟨v535, v539, gb542⟩ w42 ⟨hS_, h0_, h1_, h2_, h3_, h4_, h5_, h6_, h7_, h8_, h9_, h10_, h11_⟩
   have HO536 : Aside0 (Kd.V (Kd.int .u64) 53 w42 w.heap.size (fun k_ => k_ ≠ gb532 ∧ k_ ≠ gb533 ∧ k_ ≠ gb542) v535 t534) := ⟨h0_⟩
   have HO540 : Aside0 (Kd.V (Kd.int .u64) 53 w42 w.heap.size (fun k_ => k_ ≠ gb532 ∧ k_ ≠ gb533 ∧ k_ ≠ gb542) v539 t538) := ⟨h1_⟩
   replace BK532 : Aside0 (w42.heap[gb532]? = some (.cells #[.slice A0_0 l0_0.length c0_0, .bool a0_1] 37 (0, 0))) := ⟨h2_⟩
   replace BK533 : Aside0 (w42.heap[gb533]? = some (.cells #[.slice A1_0 l1_0.length c1_0, .bool a1_1] 37 (0, 0))) := ⟨h3_⟩
   have BK542 : Aside0 (w42.heap[gb542]? = some (.cells #[.slice none 0 0, .bool false] 37 (0, 0))) := ⟨h4_⟩
   have GW542 : Aside0 (w.heap.size ≤ gb542) := ⟨h5_⟩
   have GE542 : Aside0 (w.heap.size ≤ gb542) := ⟨h6_⟩
   have NB532_542 : Aside0 (gb532 ≠ gb542) := ⟨h7_⟩
   have NB542_532 : Aside0 (gb542 ≠ gb532) := ⟨h8_⟩
   have NB533_542 : Aside0 (gb533 ≠ gb542) := ⟨h9_⟩
   have NB542_533 : Aside0 (gb542 ≠ gb533) := ⟨h10_⟩
   replace HB : Aside0 (Below w.heap.size w w42) := ⟨h11_⟩
   clear h0_ h1_ h2_ h3_ h4_ h5_ h6_ h7_ h8_ h9_ h10_ h11_
   have hHeld : w42.cell? ⟨gb532, 0, none⟩ = some (.slice A0_0 l0_0.length c0_0) ∧ w42.cell? ⟨gb532, 1, none⟩ = some (.bool a0_1) ∧ w42.cell? ⟨gb533, 0, none⟩ = some (.slice A1_0 l1_0.length c1_0) ∧ w42.cell? ⟨gb533, 1, none⟩ = some (.bool a1_1) := hS_
   obtain ⟨Ao43, co43, eo43⟩ := Kd.V_slice HO540.out
   (first | subst eo43 | (injection eo43 with f1_ f2_ f3_; have f4_ := f1_.symm; have f5_ := f3_.symm; clear f1_ f2_ f3_; subst f4_; subst f5_))
   refine norm_ (a' := ?_) ?_ ?_
   rotate_left
   ·simp only [putAll, Act.put, List.setIfInBounds_toArray, List.set_cons_zero, List.set_cons_succ]
    rfl
   refine one_ (i := 5) (N := none) #[true, true, true, true, true, true] rfl rfl (by kernel_rfl) (by decide) (fun K hK => ?_)
   have hs44 : w42.cell? ⟨gb542, 0, none⟩ = some (.slice none 0 0) := (blk_cell BK542.out 0).trans rfl
   have hfs44 := blk_frozen BK542.out 0
   have hns44_0 := NB532_542.out
   have hns44_1 := NB533_542.out
   have hms44_0 := NB542_532.out
   have hms44_1 := NB542_533.out
   have hs45 : w42.cell? ⟨gb542, 1, none⟩ = some (.bool false) := (blk_cell BK542.out 1).trans rfl
   have hfs45 := blk_frozen BK542.out 1
   have hns45_0 := NB532_542.out
   have hns45_1 := NB533_542.out
   have hms45_0 := NB542_532.out
   have hms45_1 := NB542_533.out
   refine skip_ (w1 := ?_) (by rfl) rfl ?_ ?_
   rotate_left
   ·go_simp
    rfl
   refine hK.out _ _ ⟨((cell_far (p := ⟨gb542, _, none⟩) NB532_542.out _).trans (((cell_far (p := ⟨gb542, _, none⟩) NB532_542.out _).trans (hHeld.1)))), ((cell_far (p := ⟨gb542, _, none⟩) NB532_542.out _).trans (((cell_far (p := ⟨gb542, _, none⟩) NB532_542.out _).trans (hHeld.2.1)))), ((cell_far (p := ⟨gb542, _, none⟩) NB533_542.out _).trans (((cell_far (p := ⟨gb542, _, none⟩) NB533_542.out _).trans (hHeld.2.2.1)))), ((cell_far (p := ⟨gb542, _, none⟩) NB533_542.out _).trans (((cell_far (p := ⟨gb542, _, none⟩) NB533_542.out _).trans (hHeld.2.2.2))))⟩ (fun hHeld => ?_)
   clear hK K
   refine done_ (by kernel_rfl) ?_
   have hnb46 := NB542_532.out
   have hnc46 := NB532_542.out
   have hnb47 := NB542_533.out
   have hnc47 := NB533_542.out
   have hcz48 := blkAll2 BK542.out
   try go_wp2
   go_ret
   exact ⟨by first | rfl | (simp [errW_none, errW_some] <;> rfl) | (simp [*, errW_none, errW_some] <;> rfl), by repeat (first | (with_reducible first | exact HB.out | apply kc1 | apply kc2 | apply kc3 | refine kc4 ?_ GE532.out | refine kc4 ?_ GE533.out | refine kc4 ?_ GE542.out) | exact HB.out)⟩

end Go.Proofs.Ytonjhfneeejdaaa.P
