-- Written by a program of this session out of the translation of the seat: Lean functions and the proofs that the Go functions come to them.
import Derived.Test.YtcpmfdagnchlbaaPx0
import Derived.Test.YtcpmfdagnchlbaaPx7
namespace Go.Proofs.Ytcpmfdagnchlbaa.P
open Go.RowKit Go.Proofs.YtcpmfdagnchlbaaW.PrintWords Go.Proofs.YtcpmfdagnchlbaaW.PrintLast Go.Proofs.YtcpmfdagnchlbaaW.PrintMore
attribute [local go_sem] max2_int min2_int max_two min_two max_three min_three max_four min_four   -- for this text's walks alone
set_option linter.unusedVariables false
set_option linter.unusedSimpArgs false

/-! ### trivetref01_Cmp: function 18 -/
def trivetref01_Cmp.f (k : Nat) (l0_0 : List Int) (a0_1 : Bool) (l1_0 : List Int) (a1_1 : Bool) : Option (Int) := (trivetref01_Neg.f k l1_0 a1_1).bind fun bt233 => ((trivetref01_Add.f k l0_0 a0_1 bt233.1 bt233.2).bind fun bt237 => (if (bt237.1.length : Int) = 0 then (some 0) else (if bt237.2 = true then (some (-1)) else (some 1))))
theorem trivetref01_Cmp.mono : ∀ a0 a1 a2 a3 k, LeO (trivetref01_Cmp.f k a0 a1 a2 a3) (trivetref01_Cmp.f (k + 1) a0 a1 a2 a3) := by
 intro a0 a1 a2 a3 k
 unfold trivetref01_Cmp.f
 repeat' first
   | (with_reducible exact trivetref01_Add.mono _ _ _ _ _)
   | (with_reducible exact trivetref01_Neg.mono _ _ _)
   | (with_reducible exact LeO.refl _)
   | (with_reducible exact LeO.none _)
   | (with_reducible refine LeO.ite ?_ ?_)
   | (with_reducible refine LeO.bind ?_ (fun _ => ?_))
   | exact trivetref01_Add.mono _ _ _ _ _
   | exact trivetref01_Neg.mono _ _ _
   | exact LeO.none _
   | refine LeO.ite ?_ ?_
   | refine LeO.bind ?_ (fun _ => ?_)
set_option maxHeartbeats 8000000 in
set_option maxRecDepth 100000 in
theorem trivetref01_Cmp.calls (k : Nat) (A0_0 : Option Addr) (c0_0 : Nat) (l0_0 : List Int) (a0_1 : Bool) (A1_0 : Option Addr) (c1_0 : Nat) (l1_0 : List Int) (a1_1 : Bool) (r : Int) (w : World) (hr0_0 : Kd.C (Kd.int .u64) w A0_0 l0_0.length l0_0) (hc0_0 : l0_0.length ≤ c0_0) (hr1_0 : Kd.C (Kd.int .u64) w A1_0 l1_0.length l1_0) (hc1_0 : l1_0.length ≤ c1_0) (h : trivetref01_Cmp.f k l0_0 a0_1 l1_0 a1_1 = some r) :
  Calls Try.prog 18 #[.agg #[.slice A0_0 l0_0.length c0_0, .bool a0_1], .agg #[.slice A1_0 l1_0.length c1_0, .bool a1_1]] w fun e w' => e = .returned (.int .i64 r) ∧ Below w.heap.size w w' := by
 have hu34 := Try.underlying34
 have HR0_0 := ka hr0_0
 have HC0_0 := ka hc0_0
 clear hr0_0 hc0_0
 have HR1_0 := ka hr1_0
 have HC1_0 := ka hc1_0
 clear hr1_0 hc1_0
 have HB := ka (Below.refl w.heap.size w)
 have H : ((trivetref01_Neg.f k l1_0 a1_1).bind fun bt233 => ((trivetref01_Add.f k l0_0 a0_1 bt233.1 bt233.2).bind fun bt237 => (if (bt237.1.length : Int) = 0 then (some 0) else (if bt237.2 = true then (some (-1)) else (some 1))))) = some r := h
 clear h
 replace H := Option.bind_eq_some_iff.mp H
 obtain ⟨⟨t233, t236⟩, A30, H⟩ := H
 replace H : ((trivetref01_Add.f k l0_0 a0_1 t233 t236).bind fun bt237 => (if (bt237.1.length : Int) = 0 then (some 0) else (if bt237.2 = true then (some (-1)) else (some 1)))) = some r := H
 have A3 := ka A30
 clear A30
 replace H := Option.bind_eq_some_iff.mp H
 obtain ⟨⟨t237, t240⟩, A40, H⟩ := H
 replace H : (if (t237.length : Int) = 0 then (some 0) else (if t240 = true then (some (-1)) else (some 1))) = some r := H
 have A4 := ka A40
 clear A40
 by_cases c5 : (t237.length : Int) = 0
 ·rw [if_pos c5] at H
  have c5b0 : ((t237.length : Int) == 0) = true := beq_iff_eq.mpr c5
  have c5b1 : ((t237.length : Int) != 0) = false := bne_eq_false_iff_eq.mpr c5
  clear c5
  obtain rfl := Option.some.inj H
  go_enter Try.func18, Try.ntmps18
  try go_wp2_with (first | ((with_reducible refine gate_dst (N := 2) rfl ?_); refine kx (N := 2) (cs := #[.slice A0_0 l0_0.length c0_0, .bool a0_1]) (t := 34) ?_; intro gb231 hg w6 hbox hb; have n0_ := ka (below_step (kw HB.out) hb); have n1_ := ka (hbox); have n2_ := ka ((by rw [hg]; exact (below_size (kw HB.out)) : w.heap.size ≤ gb231)); have n3_ := n2_; clear HB; have HB := n0_; have BK231 := n1_; have GW231 := n2_; have GE231 := n3_; clear n0_ n1_ n2_ n3_; clear hb hbox hg) | ((with_reducible refine gate_dst (N := 3) rfl ?_); refine kx (N := 3) (cs := #[.slice A1_0 l1_0.length c1_0, .bool a1_1]) (t := 34) ?_; intro gb232 hg w7 hbox hb; have n0_ := ka (blk_below (g := gb231) (kz BK231.out) hb); have n1_ := ka (below_step (kw HB.out) hb); have n2_ := ka (hbox); have n3_ := ka ((by rw [hg]; exact (below_size (kw HB.out)) : w.heap.size ≤ gb232)); have n4_ := n3_; have n5_ := ka ((by rw [hg]; exact Nat.ne_of_lt (blk_lt (g := gb231) (kz BK231.out)) : gb231 ≠ gb232)); have n6_ := ka n5_.out.symm; clear BK231; clear HB; have BK231 := n0_; have HB := n1_; have BK232 := n2_; have GW232 := n3_; have GE232 := n4_; have NB231_232 := n5_; have NB232_231 := n6_; clear n0_ n1_ n2_ n3_ n4_ n5_ n6_; clear hb hbox hg))
  replace BK231 := ka (blk_drew BK231.out)
  replace BK232 := ka (blk_drew BK232.out)
  replace HB := ka (below_drew1 HB.out)
  refine start_ (n := 6) (S := fun w' => w'.cell? ⟨gb231, 0, none⟩ = some (.slice A0_0 l0_0.length c0_0) ∧ w'.cell? ⟨gb231, 1, none⟩ = some (.bool a0_1) ∧ w'.cell? ⟨gb232, 0, none⟩ = some (.slice A1_0 l1_0.length c1_0) ∧ w'.cell? ⟨gb232, 1, none⟩ = some (.bool a1_1)) (ds := []) #[false, false, false, false, false, false] (by kernel_rfl) rfl rfl ⟨(blk_cell BK231.out 0).trans rfl, (blk_cell BK231.out 1).trans rfl, (blk_cell BK232.out 0).trans rfl, (blk_cell BK232.out 1).trans rfl⟩ (fun hHeld => ?_)
  generalize w7.drew = w8 at BK231 BK232 HB hHeld ⊢
  refine take_ (i := 0) (N := some 6) (v := ?_) (a' := ?_) #[true, false, false, false, false, false] rfl rfl (by kernel_rfl) (fun _ _ _ h => h) (Or.inl ⟨by rfl, ?_⟩) hHeld ?_ ?_
  rotate_left
  ·rintro w' ⟨s0, s1, s2, s3⟩
   go_simp
   with_reducible rfl
  rotate_left
  ·simp only [Act.put, List.setIfInBounds_toArray, List.set_cons_zero, List.set_cons_succ, i64_w, i32_w]
   rfl
  refine take_ (i := 1) (N := some 7) (v := ?_) (a' := ?_) #[true, true, false, false, false, false] rfl rfl (by kernel_rfl) (fun _ _ _ h => h) (Or.inl ⟨by rfl, ?_⟩) hHeld ?_ ?_
  rotate_left
  ·rintro w' ⟨s0, s1, s2, s3⟩
   go_simp
   with_reducible rfl
  rotate_left
  ·simp only [Act.put, List.setIfInBounds_toArray, List.set_cons_zero, List.set_cons_succ, i64_w, i32_w]
   rfl
  refine join_ (σ := Value × Value × Nat) 1 #[true, true, true, true, true, false] (fun s_ => [(8, .agg #[s_.1, .bool t236]), (9, .agg #[s_.2.1, .bool t240]), (5, .pointer (some ⟨s_.2.2, 0, none⟩))]) (fun s_ w' => (w'.cell? ⟨gb231, 0, none⟩ = some (.slice A0_0 l0_0.length c0_0) ∧ w'.cell? ⟨gb231, 1, none⟩ = some (.bool a0_1) ∧ w'.cell? ⟨gb232, 0, none⟩ = some (.slice A1_0 l1_0.length c1_0) ∧ w'.cell? ⟨gb232, 1, none⟩ = some (.bool a1_1)) ∧ (Kd.V (Kd.int .u64) 42 w' w.heap.size (fun k_ => k_ ≠ gb231 ∧ k_ ≠ gb232 ∧ k_ ≠ s_.2.2) s_.1 t233) ∧ (Kd.V (Kd.int .u64) 42 w' w.heap.size (fun k_ => k_ ≠ gb231 ∧ k_ ≠ gb232 ∧ k_ ≠ s_.2.2) s_.2.1 t237) ∧ (w'.heap[gb231]? = some (.cells #[.slice A0_0 l0_0.length c0_0, .bool a0_1] 34 (0, 0))) ∧ (w'.heap[gb232]? = some (.cells #[.slice A1_0 l1_0.length c1_0, .bool a1_1] 34 (0, 0))) ∧ (w'.heap[s_.2.2]? = some (.cells #[.slice none 0 0, .bool false] 34 (0, 0))) ∧ (w.heap.size ≤ s_.2.2) ∧ (w.heap.size ≤ s_.2.2) ∧ (gb231 ≠ s_.2.2) ∧ (s_.2.2 ≠ gb231) ∧ (gb232 ≠ s_.2.2) ∧ (s_.2.2 ≠ gb232) ∧ (Below w.heap.size w w')) ?_ ?_
  rotate_left
  ·intro hCont
   refine two_ (i := 2) (j := 4) (Ni := some 8) (Nj := some 5) #[true, true, true, false, false, false] #[true, true, false, false, true, false] rfl rfl rfl rfl (by kernel_rfl) (by decide) (by decide) (fun K hK => ?_) (fun K hK => ?_)
   ·skip
    refine goes_ Try.func17 (by kernel_rfl) rfl #[.agg #[.slice A1_0 l1_0.length c1_0, .bool a1_1]] (by rfl) rfl rfl (by (try simp only [List.map_toArray, List.map_cons, List.map_nil]); first | done | rfl | (simp only [List.length_drop, List.length_take]; rfl)) ?_
    with_reducible refine (trivetref01_Neg.calls k (fun k_ => k_ < w.heap.size) _ _ l1_0 a1_1 t233 t236 _ ?side1 A3.out).mono ?_
    (case side1 => exact Kd.V_mk HC1_0.out (Kd.F_below (Kd.C_F (Kd.heap_int .u64) HR1_0.out) (kw HB.out)))
    rintro e w9 ⟨v234, rfl, ho0, hb⟩
    refine ⟨_, rfl, ?_⟩
    have HO235 := ka (Kd.V_lower (Kd.V_mono (ok' := fun k_ => k_ ≠ gb231 ∧ k_ ≠ gb232) ho0 (fun k_ hk_ => ⟨Or.elim hk_ (fun hs_ => fun e_ => Nat.not_le.2 hs_ (by rw [e_]; exact GW231.out)) (fun hn_ => (kf BK231 hn_)), Or.elim hk_ (fun hs_ => fun e_ => Nat.not_le.2 hs_ (by rw [e_]; exact GW232.out)) (fun hn_ => (kf BK232 hn_))⟩)) (below_size (kw HB.out)))
    replace BK231 := kbb BK231 hb
    replace BK232 := kbb BK232 hb
    replace HB := ka (below_step (kw HB.out) hb)
    (try clear hb)
    (try clear hb2)
    (try clear hk)
    (try clear hi)
    (try clear ho0)
    obtain ⟨Ao10, co10, eo10⟩ := Kd.V_slice HO235.out
    (first | subst eo10 | (injection eo10 with f1_ f2_ f3_; have f4_ := f1_.symm; have f5_ := f3_.symm; clear f1_ f2_ f3_; subst f4_; subst f5_))
    refine hK.out _ _ ⟨(blk_cell BK231.out 0).trans rfl, (blk_cell BK231.out 1).trans rfl, (blk_cell BK232.out 0).trans rfl, (blk_cell BK232.out 1).trans rfl⟩ (fun hHeld => ?_)
    clear hK K
    refine norm_ (a' := ?_) ?_ ?_
    rotate_left
    ·show Act.put _ (some 8) _ = _
     simp only [Act.put, List.setIfInBounds_toArray, List.set_cons_zero, List.set_cons_succ, i64_w, i32_w]
     rfl
    refine two_ (i := 3) (j := 4) (Ni := some 9) (Nj := some 5) #[true, true, true, true, false, false] #[true, true, true, false, true, false] rfl rfl rfl rfl (by kernel_rfl) (by decide) (by decide) (fun K hK => ?_) (fun K hK => ?_)
    ·skip
     refine goes_ Try.func16 (by kernel_rfl) rfl #[.agg #[.slice A0_0 l0_0.length c0_0, .bool a0_1], .agg #[.slice Ao10 t233.length co10, .bool t236]] (by rfl) rfl rfl (by (try simp only [List.map_toArray, List.map_cons, List.map_nil]); first | done | rfl | (simp only [List.length_drop, List.length_take]; rfl)) ?_
     with_reducible refine (trivetref01_Add.calls k _ _ l0_0 a0_1 _ _ t233 t236 t237 t240 _ ?side1 ?side2 ?side3 ?side4 A4.out).mono ?_
     (case side1 => repeat (first | exact (Kd.C_below HR0_0.out HB.out) | (with_reducible refine Kd.C_alloc ?_ _) | (with_reducible refine Kd.C_drewN ?_ _) | (with_reducible refine Kd.C_drew ?_)))
     (case side2 => exact HC0_0.out)
     (case side3 => repeat (first | exact (Kd.V_reads' HO235.out).2.2 | (with_reducible refine Kd.C_alloc ?_ _) | (with_reducible refine Kd.C_drewN ?_ _) | (with_reducible refine Kd.C_drew ?_)))
     (case side4 => exact (Kd.V_reads' HO235.out).2.1)
     rintro e w11 ⟨v238, rfl, ho0, hb⟩
     refine ⟨_, rfl, ?_⟩
     replace HO235 := kvb HO235 hb
     have HO239 := ka (Kd.V_lower (Kd.V_mono (ok' := fun k_ => k_ ≠ gb231 ∧ k_ ≠ gb232) ho0 (fun k_ hk_ => ⟨(kf BK231 hk_), (kf BK232 hk_)⟩)) (below_size (kw HB.out)))
     replace BK231 := kbb BK231 hb
     replace BK232 := kbb BK232 hb
     replace HB := ka (below_step (kw HB.out) hb)
     (try clear hb)
     (try clear hb2)
     (try clear hk)
     (try clear hi)
     (try clear ho0)
     refine hK.out _ _ ⟨(blk_cell BK231.out 0).trans rfl, (blk_cell BK231.out 1).trans rfl, (blk_cell BK232.out 0).trans rfl, (blk_cell BK232.out 1).trans rfl⟩ (fun hHeld => ?_)
     clear hK K
     refine norm_ (a' := ?_) ?_ ?_
     rotate_left
     ·show Act.put _ (some 9) _ = _
      simp only [Act.put, List.setIfInBounds_toArray, List.set_cons_zero, List.set_cons_succ, i64_w, i32_w]
      rfl
     refine one_ (i := 4) (N := some 5) #[true, true, true, true, true, false] rfl rfl (by kernel_rfl) (by decide) (fun K hK => ?_)
     refine box_step ?hg (N := 5) ?hd (cs := #[.slice none 0 0, .bool false]) (t := 34) ?hr ?_; (case hd => rfl); (case hg => rfl); (case hr => first | (go_simp; done) | (go_simp; rfl))
     intro gb241 hg w12 hbox hb
     replace HO235 := ka (Kd.V_below (Kd.V_elderB (kv HO235.out) gb241 (Nat.le_of_eq hg.symm)) hb)
     replace HO239 := ka (Kd.V_below (Kd.V_elderB (kv HO239.out) gb241 (Nat.le_of_eq hg.symm)) hb)
     have BK241 := ka (hbox)
     have GW241 := ka ((by rw [hg]; exact (below_size (kw HB.out)) : w.heap.size ≤ gb241))
     have GE241 := ka ((by rw [hg]; exact (below_size (kw HB.out)) : w.heap.size ≤ gb241))
     replace HB := ka (below_step (kw HB.out) hb)
     have NB231_241 := knb hg BK231
     have NB241_231 := ka NB231_241.out.symm
     replace BK231 := kbb BK231 hb
     have NB232_241 := knb hg BK232
     have NB241_232 := ka NB232_241.out.symm
     replace BK232 := kbb BK232 hb
     clear hb hbox hg
     refine hK.out _ _ ⟨(blk_cell BK231.out 0).trans rfl, (blk_cell BK231.out 1).trans rfl, (blk_cell BK232.out 0).trans rfl, (blk_cell BK232.out 1).trans rfl⟩ (fun hHeld => ?_)
     clear hK K
     refine norm_ (a' := ?_) ?_ ?_
     rotate_left
     ·show Act.put _ (some 5) _ = _
      simp only [Act.put, List.setIfInBounds_toArray, List.set_cons_zero, List.set_cons_succ, i64_w, i32_w]
      rfl
     exact norm_ (by simp only [putAll, Act.put, List.setIfInBounds_toArray, List.set_cons_zero, List.set_cons_succ]) (hCont (.slice Ao10 t233.length co10, v238, gb241) _ ⟨hHeld, (kv (Kd.V_mono HO235.out (fun _ => ra2))), (kv (Kd.V_mono HO239.out (fun _ => ra2))), (kz BK231.out), (kz BK232.out), (kz BK241.out), GW241.out, GE241.out, NB231_241.out, NB241_231.out, NB232_241.out, NB241_232.out, (kw HB.out)⟩)
    ·skip
     refine box_step ?hg (N := 5) ?hd (cs := #[.slice none 0 0, .bool false]) (t := 34) ?hr ?_; (case hd => rfl); (case hg => rfl); (case hr => first | (go_simp; done) | (go_simp; rfl))
     intro gb241 hg w10 hbox hb
     replace HO235 := ka (Kd.V_below (Kd.V_elderB (kv HO235.out) gb241 (Nat.le_of_eq hg.symm)) hb)
     have BK241 := ka (hbox)
     have GW241 := ka ((by rw [hg]; exact (below_size (kw HB.out)) : w.heap.size ≤ gb241))
     have GE241 := ka ((by rw [hg]; exact (below_size (kw HB.out)) : w.heap.size ≤ gb241))
     replace HB := ka (below_step (kw HB.out) hb)
     have NB231_241 := knb hg BK231
     have NB241_231 := ka NB231_241.out.symm
     replace BK231 := kbb BK231 hb
     have NB232_241 := knb hg BK232
     have NB241_232 := ka NB232_241.out.symm
     replace BK232 := kbb BK232 hb
     clear hb hbox hg
     obtain ⟨Ao11, co11, eo11⟩ := Kd.V_slice HO235.out
     (first | subst eo11 | (injection eo11 with f1_ f2_ f3_; have f4_ := f1_.symm; have f5_ := f3_.symm; clear f1_ f2_ f3_; subst f4_; subst f5_))
     refine hK.out _ _ ⟨(blk_cell BK231.out 0).trans rfl, (blk_cell BK231.out 1).trans rfl, (blk_cell BK232.out 0).trans rfl, (blk_cell BK232.out 1).trans rfl⟩ (fun hHeld => ?_)
     clear hK K
     refine norm_ (a' := ?_) ?_ ?_
     rotate_left
     ·show Act.put _ (some 5) _ = _
      simp only [Act.put, List.setIfInBounds_toArray, List.set_cons_zero, List.set_cons_succ, i64_w, i32_w]
      rfl
     refine one_ (i := 3) (N := some 9) #[true, true, true, true, true, false] rfl rfl (by kernel_rfl) (by decide) (fun K hK => ?_)
     refine goes_ Try.func16 (by kernel_rfl) rfl #[.agg #[.slice A0_0 l0_0.length c0_0, .bool a0_1], .agg #[.slice Ao11 t233.length co11, .bool t236]] (by rfl) rfl rfl (by (try simp only [List.map_toArray, List.map_cons, List.map_nil]); first | done | rfl | (simp only [List.length_drop, List.length_take]; rfl)) ?_
     with_reducible refine (trivetref01_Add.calls k _ _ l0_0 a0_1 _ _ t233 t236 t237 t240 _ ?side1 ?side2 ?side3 ?side4 A4.out).mono ?_
     (case side1 => repeat (first | exact (Kd.C_below HR0_0.out HB.out) | (with_reducible refine Kd.C_alloc ?_ _) | (with_reducible refine Kd.C_drewN ?_ _) | (with_reducible refine Kd.C_drew ?_)))
     (case side2 => exact HC0_0.out)
     (case side3 => repeat (first | exact (Kd.V_reads' HO235.out).2.2 | (with_reducible refine Kd.C_alloc ?_ _) | (with_reducible refine Kd.C_drewN ?_ _) | (with_reducible refine Kd.C_drew ?_)))
     (case side4 => exact (Kd.V_reads' HO235.out).2.1)
     rintro e w12 ⟨v238, rfl, ho0, hb⟩
     refine ⟨_, rfl, ?_⟩
     replace HO235 := kvb HO235 hb
     have HO239 := ka (Kd.V_lower (Kd.V_mono (ok' := fun k_ => k_ ≠ gb231 ∧ k_ ≠ gb232 ∧ k_ ≠ gb241) ho0 (fun k_ hk_ => ⟨(kf BK231 hk_), (kf BK232 hk_), (kf BK241 hk_)⟩)) (below_size (kw HB.out)))
     replace BK231 := kbb BK231 hb
     replace BK232 := kbb BK232 hb
     replace BK241 := kbb BK241 hb
     replace HB := ka (below_step (kw HB.out) hb)
     (try clear hb)
     (try clear hb2)
     (try clear hk)
     (try clear hi)
     (try clear ho0)
     refine hK.out _ _ ⟨(blk_cell BK231.out 0).trans rfl, (blk_cell BK231.out 1).trans rfl, (blk_cell BK232.out 0).trans rfl, (blk_cell BK232.out 1).trans rfl⟩ (fun hHeld => ?_)
     clear hK K
     refine norm_ (a' := ?_) ?_ ?_
     rotate_left
     ·show Act.put _ (some 9) _ = _
      simp only [Act.put, List.setIfInBounds_toArray, List.set_cons_zero, List.set_cons_succ, i64_w, i32_w]
      rfl
     exact norm_ (by simp only [putAll, Act.put, List.setIfInBounds_toArray, List.set_cons_zero, List.set_cons_succ]) (hCont (.slice Ao11 t233.length co11, v238, gb241) _ ⟨hHeld, (kv (Kd.V_mono HO235.out (fun _ => ra2))), (kv HO239.out), (kz BK231.out), (kz BK232.out), (kz BK241.out), GW241.out, GE241.out, NB231_241.out, NB241_231.out, NB232_241.out, NB241_232.out, (kw HB.out)⟩)
   ·skip
    refine box_step ?hg (N := 5) ?hd (cs := #[.slice none 0 0, .bool false]) (t := 34) ?hr ?_; (case hd => rfl); (case hg => rfl); (case hr => first | (go_simp; done) | (go_simp; rfl))
    intro gb241 hg w9 hbox hb
    have BK241 := ka (hbox)
    have GW241 := ka ((by rw [hg]; exact (below_size (kw HB.out)) : w.heap.size ≤ gb241))
    have GE241 := ka ((by rw [hg]; exact (below_size (kw HB.out)) : w.heap.size ≤ gb241))
    replace HB := ka (below_step (kw HB.out) hb)
    have NB231_241 := knb hg BK231
    have NB241_231 := ka NB231_241.out.symm
    replace BK231 := kbb BK231 hb
    have NB232_241 := knb hg BK232
    have NB241_232 := ka NB232_241.out.symm
    replace BK232 := kbb BK232 hb
    clear hb hbox hg
    refine hK.out _ _ ⟨(blk_cell BK231.out 0).trans rfl, (blk_cell BK231.out 1).trans rfl, (blk_cell BK232.out 0).trans rfl, (blk_cell BK232.out 1).trans rfl⟩ (fun hHeld => ?_)
    clear hK K
    refine norm_ (a' := ?_) ?_ ?_
    rotate_left
    ·show Act.put _ (some 5) _ = _
     simp only [Act.put, List.setIfInBounds_toArray, List.set_cons_zero, List.set_cons_succ, i64_w, i32_w]
     rfl
    refine one_ (i := 2) (N := some 8) #[true, true, true, false, true, false] rfl rfl (by kernel_rfl) (by decide) (fun K hK => ?_)
    refine goes_ Try.func17 (by kernel_rfl) rfl #[.agg #[.slice A1_0 l1_0.length c1_0, .bool a1_1]] (by rfl) rfl rfl (by (try simp only [List.map_toArray, List.map_cons, List.map_nil]); first | done | rfl | (simp only [List.length_drop, List.length_take]; rfl)) ?_
    with_reducible refine (trivetref01_Neg.calls k (fun k_ => k_ < w.heap.size) _ _ l1_0 a1_1 t233 t236 _ ?side1 A3.out).mono ?_
    (case side1 => exact Kd.V_mk HC1_0.out (Kd.F_below (Kd.C_F (Kd.heap_int .u64) HR1_0.out) (kw HB.out)))
    rintro e w10 ⟨v234, rfl, ho0, hb⟩
    refine ⟨_, rfl, ?_⟩
    have HO235 := ka (Kd.V_lower (Kd.V_mono (ok' := fun k_ => k_ ≠ gb231 ∧ k_ ≠ gb232 ∧ k_ ≠ gb241) ho0 (fun k_ hk_ => ⟨Or.elim hk_ (fun hs_ => fun e_ => Nat.not_le.2 hs_ (by rw [e_]; exact GW231.out)) (fun hn_ => (kf BK231 hn_)), Or.elim hk_ (fun hs_ => fun e_ => Nat.not_le.2 hs_ (by rw [e_]; exact GW232.out)) (fun hn_ => (kf BK232 hn_)), Or.elim hk_ (fun hs_ => fun e_ => Nat.not_le.2 hs_ (by rw [e_]; exact GW241.out)) (fun hn_ => (kf BK241 hn_))⟩)) (below_size (kw HB.out)))
    replace BK231 := kbb BK231 hb
    replace BK232 := kbb BK232 hb
    replace BK241 := kbb BK241 hb
    replace HB := ka (below_step (kw HB.out) hb)
    (try clear hb)
    (try clear hb2)
    (try clear hk)
    (try clear hi)
    (try clear ho0)
    obtain ⟨Ao11, co11, eo11⟩ := Kd.V_slice HO235.out
    (first | subst eo11 | (injection eo11 with f1_ f2_ f3_; have f4_ := f1_.symm; have f5_ := f3_.symm; clear f1_ f2_ f3_; subst f4_; subst f5_))
    refine hK.out _ _ ⟨(blk_cell BK231.out 0).trans rfl, (blk_cell BK231.out 1).trans rfl, (blk_cell BK232.out 0).trans rfl, (blk_cell BK232.out 1).trans rfl⟩ (fun hHeld => ?_)
    clear hK K
    refine norm_ (a' := ?_) ?_ ?_
    rotate_left
    ·show Act.put _ (some 8) _ = _
     simp only [Act.put, List.setIfInBounds_toArray, List.set_cons_zero, List.set_cons_succ, i64_w, i32_w]
     rfl
    refine one_ (i := 3) (N := some 9) #[true, true, true, true, true, false] rfl rfl (by kernel_rfl) (by decide) (fun K hK => ?_)
    refine goes_ Try.func16 (by kernel_rfl) rfl #[.agg #[.slice A0_0 l0_0.length c0_0, .bool a0_1], .agg #[.slice Ao11 t233.length co11, .bool t236]] (by rfl) rfl rfl (by (try simp only [List.map_toArray, List.map_cons, List.map_nil]); first | done | rfl | (simp only [List.length_drop, List.length_take]; rfl)) ?_
    with_reducible refine (trivetref01_Add.calls k _ _ l0_0 a0_1 _ _ t233 t236 t237 t240 _ ?side1 ?side2 ?side3 ?side4 A4.out).mono ?_
    (case side1 => repeat (first | exact (Kd.C_below HR0_0.out HB.out) | (with_reducible refine Kd.C_alloc ?_ _) | (with_reducible refine Kd.C_drewN ?_ _) | (with_reducible refine Kd.C_drew ?_)))
    (case side2 => exact HC0_0.out)
    (case side3 => repeat (first | exact (Kd.V_reads' HO235.out).2.2 | (with_reducible refine Kd.C_alloc ?_ _) | (with_reducible refine Kd.C_drewN ?_ _) | (with_reducible refine Kd.C_drew ?_)))
    (case side4 => exact (Kd.V_reads' HO235.out).2.1)
    rintro e w12 ⟨v238, rfl, ho0, hb⟩
    refine ⟨_, rfl, ?_⟩
    replace HO235 := kvb HO235 hb
    have HO239 := ka (Kd.V_lower (Kd.V_mono (ok' := fun k_ => k_ ≠ gb231 ∧ k_ ≠ gb232 ∧ k_ ≠ gb241) ho0 (fun k_ hk_ => ⟨(kf BK231 hk_), (kf BK232 hk_), (kf BK241 hk_)⟩)) (below_size (kw HB.out)))
    replace BK231 := kbb BK231 hb
    replace BK232 := kbb BK232 hb
    replace BK241 := kbb BK241 hb
    replace HB := ka (below_step (kw HB.out) hb)
    (try clear hb)
    (try clear hb2)
    (try clear hk)
    (try clear hi)
    (try clear ho0)
    refine hK.out _ _ ⟨(blk_cell BK231.out 0).trans rfl, (blk_cell BK231.out 1).trans rfl, (blk_cell BK232.out 0).trans rfl, (blk_cell BK232.out 1).trans rfl⟩ (fun hHeld => ?_)
    clear hK K
    refine norm_ (a' := ?_) ?_ ?_
    rotate_left
    ·show Act.put _ (some 9) _ = _
     simp only [Act.put, List.setIfInBounds_toArray, List.set_cons_zero, List.set_cons_succ, i64_w, i32_w]
     rfl
    exact norm_ (by simp only [putAll, Act.put, List.setIfInBounds_toArray, List.set_cons_zero, List.set_cons_succ]) (hCont (.slice Ao11 t233.length co11, v238, gb241) _ ⟨hHeld, (kv HO235.out), (kv HO239.out), (kz BK231.out), (kz BK232.out), (kz BK241.out), GW241.out, GE241.out, NB231_241.out, NB241_231.out, NB232_241.out, NB241_232.out, (kw HB.out)⟩)
  rintro ⟨v234, v238, gb241⟩ w13 ⟨hS_, h0_, h1_, h2_, h3_, h4_, h5_, h6_, h7_, h8_, h9_, h10_, h11_⟩
  have HO235 : Aside0 (Kd.V (Kd.int .u64) 42 w13 w.heap.size (fun k_ => k_ ≠ gb231 ∧ k_ ≠ gb232 ∧ k_ ≠ gb241) v234 t233) := ⟨h0_⟩
  have HO239 : Aside0 (Kd.V (Kd.int .u64) 42 w13 w.heap.size (fun k_ => k_ ≠ gb231 ∧ k_ ≠ gb232 ∧ k_ ≠ gb241) v238 t237) := ⟨h1_⟩
  replace BK231 : Aside0 (w13.heap[gb231]? = some (.cells #[.slice A0_0 l0_0.length c0_0, .bool a0_1] 34 (0, 0))) := ⟨h2_⟩
  replace BK232 : Aside0 (w13.heap[gb232]? = some (.cells #[.slice A1_0 l1_0.length c1_0, .bool a1_1] 34 (0, 0))) := ⟨h3_⟩
  have BK241 : Aside0 (w13.heap[gb241]? = some (.cells #[.slice none 0 0, .bool false] 34 (0, 0))) := ⟨h4_⟩
  have GW241 : Aside0 (w.heap.size ≤ gb241) := ⟨h5_⟩
  have GE241 : Aside0 (w.heap.size ≤ gb241) := ⟨h6_⟩
  have NB231_241 : Aside0 (gb231 ≠ gb241) := ⟨h7_⟩
  have NB241_231 : Aside0 (gb241 ≠ gb231) := ⟨h8_⟩
  have NB232_241 : Aside0 (gb232 ≠ gb241) := ⟨h9_⟩
  have NB241_232 : Aside0 (gb241 ≠ gb232) := ⟨h10_⟩
  replace HB : Aside0 (Below w.heap.size w w13) := ⟨h11_⟩
  clear h0_ h1_ h2_ h3_ h4_ h5_ h6_ h7_ h8_ h9_ h10_ h11_
  have hHeld : w13.cell? ⟨gb231, 0, none⟩ = some (.slice A0_0 l0_0.length c0_0) ∧ w13.cell? ⟨gb231, 1, none⟩ = some (.bool a0_1) ∧ w13.cell? ⟨gb232, 0, none⟩ = some (.slice A1_0 l1_0.length c1_0) ∧ w13.cell? ⟨gb232, 1, none⟩ = some (.bool a1_1) := hS_
  obtain ⟨Ao14, co14, eo14⟩ := Kd.V_slice HO239.out
  (first | subst eo14 | (injection eo14 with f1_ f2_ f3_; have f4_ := f1_.symm; have f5_ := f3_.symm; clear f1_ f2_ f3_; subst f4_; subst f5_))
  refine norm_ (a' := ?_) ?_ ?_
  rotate_left
  ·simp only [putAll, Act.put, List.setIfInBounds_toArray, List.set_cons_zero, List.set_cons_succ]
   rfl
  refine one_ (i := 5) (N := none) #[true, true, true, true, true, true] rfl rfl (by kernel_rfl) (by decide) (fun K hK => ?_)
  have hs15 : w13.cell? ⟨gb241, 0, none⟩ = some (.slice none 0 0) := (blk_cell BK241.out 0).trans rfl
  have hfs15 := blk_frozen BK241.out 0
  have hns15_0 := NB231_241.out
  have hns15_1 := NB232_241.out
  have hms15_0 := NB241_231.out
  have hms15_1 := NB241_232.out
  have hs16 : w13.cell? ⟨gb241, 1, none⟩ = some (.bool false) := (blk_cell BK241.out 1).trans rfl
  have hfs16 := blk_frozen BK241.out 1
  have hns16_0 := NB231_241.out
  have hns16_1 := NB232_241.out
  have hms16_0 := NB241_231.out
  have hms16_1 := NB241_232.out
  refine skip_ (w1 := ?_) (by rfl) rfl ?_ ?_
  rotate_left
  ·go_simp
   rfl
  refine hK.out _ _ ⟨((cell_far (p := ⟨gb241, _, none⟩) NB231_241.out _).trans (((cell_far (p := ⟨gb241, _, none⟩) NB231_241.out _).trans (hHeld.1)))), ((cell_far (p := ⟨gb241, _, none⟩) NB231_241.out _).trans (((cell_far (p := ⟨gb241, _, none⟩) NB231_241.out _).trans (hHeld.2.1)))), ((cell_far (p := ⟨gb241, _, none⟩) NB232_241.out _).trans (((cell_far (p := ⟨gb241, _, none⟩) NB232_241.out _).trans (hHeld.2.2.1)))), ((cell_far (p := ⟨gb241, _, none⟩) NB232_241.out _).trans (((cell_far (p := ⟨gb241, _, none⟩) NB232_241.out _).trans (hHeld.2.2.2))))⟩ (fun hHeld => ?_)
  clear hK K
  refine done_ (by kernel_rfl) ?_
  have hnb17 := NB241_231.out
  have hnc17 := NB231_241.out
  have hnb18 := NB241_232.out
  have hnc18 := NB232_241.out
  have hcz19 := blkAll2 BK241.out
  try go_wp2
  go_ret
  exact ⟨by first | rfl | (simp [errW_none, errW_some] <;> rfl) | (simp [*, errW_none, errW_some] <;> rfl), by repeat (first | (with_reducible first | exact HB.out | apply kc1 | apply kc2 | apply kc3 | refine kc4 ?_ GE231.out | refine kc4 ?_ GE232.out | refine kc4 ?_ GE241.out) | exact HB.out)⟩
 ·rw [if_neg c5] at H
  have c5b0 : ((t237.length : Int) == 0) = false := beq_eq_false_iff_ne.mpr c5
  have c5b1 : ((t237.length : Int) != 0) = true := bne_iff_ne.mpr c5
  have c5b2 : ¬ (t237 = []) := fun h_ => c5 (by rw [h_]; rfl)
  by_cases c20 : t240 = true
  ·subst c20
   have H1 : (some (-1)) = some r := by rw [if_pos rfl] at H; exact H
   clear H
   have H := H1
   clear H1
   obtain rfl := Option.some.inj H
   go_enter Try.func18, Try.ntmps18
   try go_wp2_with (first | ((with_reducible refine gate_dst (N := 2) rfl ?_); refine kx (N := 2) (cs := #[.slice A0_0 l0_0.length c0_0, .bool a0_1]) (t := 34) ?_; intro gb231 hg w21 hbox hb; have n0_ := ka (below_step (kw HB.out) hb); have n1_ := ka (hbox); have n2_ := ka ((by rw [hg]; exact (below_size (kw HB.out)) : w.heap.size ≤ gb231)); have n3_ := n2_; clear HB; have HB := n0_; have BK231 := n1_; have GW231 := n2_; have GE231 := n3_; clear n0_ n1_ n2_ n3_; clear hb hbox hg) | ((with_reducible refine gate_dst (N := 3) rfl ?_); refine kx (N := 3) (cs := #[.slice A1_0 l1_0.length c1_0, .bool a1_1]) (t := 34) ?_; intro gb232 hg w22 hbox hb; have n0_ := ka (blk_below (g := gb231) (kz BK231.out) hb); have n1_ := ka (below_step (kw HB.out) hb); have n2_ := ka (hbox); have n3_ := ka ((by rw [hg]; exact (below_size (kw HB.out)) : w.heap.size ≤ gb232)); have n4_ := n3_; have n5_ := ka ((by rw [hg]; exact Nat.ne_of_lt (blk_lt (g := gb231) (kz BK231.out)) : gb231 ≠ gb232)); have n6_ := ka n5_.out.symm; clear BK231; clear HB; have BK231 := n0_; have HB := n1_; have BK232 := n2_; have GW232 := n3_; have GE232 := n4_; have NB231_232 := n5_; have NB232_231 := n6_; clear n0_ n1_ n2_ n3_ n4_ n5_ n6_; clear hb hbox hg))
   replace BK231 := ka (blk_drew BK231.out)
   replace BK232 := ka (blk_drew BK232.out)
   replace HB := ka (below_drew1 HB.out)
   refine start_ (n := 6) (S := fun w' => w'.cell? ⟨gb231, 0, none⟩ = some (.slice A0_0 l0_0.length c0_0) ∧ w'.cell? ⟨gb231, 1, none⟩ = some (.bool a0_1) ∧ w'.cell? ⟨gb232, 0, none⟩ = some (.slice A1_0 l1_0.length c1_0) ∧ w'.cell? ⟨gb232, 1, none⟩ = some (.bool a1_1)) (ds := []) #[false, false, false, false, false, false] (by kernel_rfl) rfl rfl ⟨(blk_cell BK231.out 0).trans rfl, (blk_cell BK231.out 1).trans rfl, (blk_cell BK232.out 0).trans rfl, (blk_cell BK232.out 1).trans rfl⟩ (fun hHeld => ?_)
   generalize w22.drew = w23 at BK231 BK232 HB hHeld ⊢
   refine take_ (i := 0) (N := some 6) (v := ?_) (a' := ?_) #[true, false, false, false, false, false] rfl rfl (by kernel_rfl) (fun _ _ _ h => h) (Or.inl ⟨by rfl, ?_⟩) hHeld ?_ ?_
   rotate_left
   ·rintro w' ⟨s0, s1, s2, s3⟩
    go_simp
    with_reducible rfl
   rotate_left
   ·simp only [Act.put, List.setIfInBounds_toArray, List.set_cons_zero, List.set_cons_succ, i64_w, i32_w]
    rfl
   refine take_ (i := 1) (N := some 7) (v := ?_) (a' := ?_) #[true, true, false, false, false, false] rfl rfl (by kernel_rfl) (fun _ _ _ h => h) (Or.inl ⟨by rfl, ?_⟩) hHeld ?_ ?_
   rotate_left
   ·rintro w' ⟨s0, s1, s2, s3⟩
    go_simp
    with_reducible rfl
   rotate_left
   ·simp only [Act.put, List.setIfInBounds_toArray, List.set_cons_zero, List.set_cons_succ, i64_w, i32_w]
    rfl
   refine join_ (σ := Value × Value × Nat) 1 #[true, true, true, true, true, false] (fun s_ => [(8, .agg #[s_.1, .bool t236]), (9, .agg #[s_.2.1, .bool true]), (5, .pointer (some ⟨s_.2.2, 0, none⟩))]) (fun s_ w' => (w'.cell? ⟨gb231, 0, none⟩ = some (.slice A0_0 l0_0.length c0_0) ∧ w'.cell? ⟨gb231, 1, none⟩ = some (.bool a0_1) ∧ w'.cell? ⟨gb232, 0, none⟩ = some (.slice A1_0 l1_0.length c1_0) ∧ w'.cell? ⟨gb232, 1, none⟩ = some (.bool a1_1)) ∧ (Kd.V (Kd.int .u64) 42 w' w.heap.size (fun k_ => k_ ≠ gb231 ∧ k_ ≠ gb232 ∧ k_ ≠ s_.2.2) s_.1 t233) ∧ (Kd.V (Kd.int .u64) 42 w' w.heap.size (fun k_ => k_ ≠ gb231 ∧ k_ ≠ gb232 ∧ k_ ≠ s_.2.2) s_.2.1 t237) ∧ (w'.heap[gb231]? = some (.cells #[.slice A0_0 l0_0.length c0_0, .bool a0_1] 34 (0, 0))) ∧ (w'.heap[gb232]? = some (.cells #[.slice A1_0 l1_0.length c1_0, .bool a1_1] 34 (0, 0))) ∧ (w'.heap[s_.2.2]? = some (.cells #[.slice none 0 0, .bool false] 34 (0, 0))) ∧ (w.heap.size ≤ s_.2.2) ∧ (w.heap.size ≤ s_.2.2) ∧ (gb231 ≠ s_.2.2) ∧ (s_.2.2 ≠ gb231) ∧ (gb232 ≠ s_.2.2) ∧ (s_.2.2 ≠ gb232) ∧ (Below w.heap.size w w')) ?_ ?_
   rotate_left
   ·intro hCont
    refine two_ (i := 2) (j := 4) (Ni := some 8) (Nj := some 5) #[true, true, true, false, false, false] #[true, true, false, false, true, false] rfl rfl rfl rfl (by kernel_rfl) (by decide) (by decide) (fun K hK => ?_) (fun K hK => ?_)
    ·skip
     refine goes_ Try.func17 (by kernel_rfl) rfl #[.agg #[.slice A1_0 l1_0.length c1_0, .bool a1_1]] (by rfl) rfl rfl (by (try simp only [List.map_toArray, List.map_cons, List.map_nil]); first | done | rfl | (simp only [List.length_drop, List.length_take]; rfl)) ?_
     with_reducible refine (trivetref01_Neg.calls k (fun k_ => k_ < w.heap.size) _ _ l1_0 a1_1 t233 t236 _ ?side1 A3.out).mono ?_
     (case side1 => exact Kd.V_mk HC1_0.out (Kd.F_below (Kd.C_F (Kd.heap_int .u64) HR1_0.out) (kw HB.out)))
     rintro e w24 ⟨v234, rfl, ho0, hb⟩
     refine ⟨_, rfl, ?_⟩
     have HO235 := ka (Kd.V_lower (Kd.V_mono (ok' := fun k_ => k_ ≠ gb231 ∧ k_ ≠ gb232) ho0 (fun k_ hk_ => ⟨Or.elim hk_ (fun hs_ => fun e_ => Nat.not_le.2 hs_ (by rw [e_]; exact GW231.out)) (fun hn_ => (kf BK231 hn_)), Or.elim hk_ (fun hs_ => fun e_ => Nat.not_le.2 hs_ (by rw [e_]; exact GW232.out)) (fun hn_ => (kf BK232 hn_))⟩)) (below_size (kw HB.out)))
     replace BK231 := kbb BK231 hb
     replace BK232 := kbb BK232 hb
     replace HB := ka (below_step (kw HB.out) hb)
     (try clear hb)
     (try clear hb2)
     (try clear hk)
     (try clear hi)
     (try clear ho0)
     obtain ⟨Ao25, co25, eo25⟩ := Kd.V_slice HO235.out
     (first | subst eo25 | (injection eo25 with f1_ f2_ f3_; have f4_ := f1_.symm; have f5_ := f3_.symm; clear f1_ f2_ f3_; subst f4_; subst f5_))
     refine hK.out _ _ ⟨(blk_cell BK231.out 0).trans rfl, (blk_cell BK231.out 1).trans rfl, (blk_cell BK232.out 0).trans rfl, (blk_cell BK232.out 1).trans rfl⟩ (fun hHeld => ?_)
     clear hK K
     refine norm_ (a' := ?_) ?_ ?_
     rotate_left
     ·show Act.put _ (some 8) _ = _
      simp only [Act.put, List.setIfInBounds_toArray, List.set_cons_zero, List.set_cons_succ, i64_w, i32_w]
      rfl
     refine two_ (i := 3) (j := 4) (Ni := some 9) (Nj := some 5) #[true, true, true, true, false, false] #[true, true, true, false, true, false] rfl rfl rfl rfl (by kernel_rfl) (by decide) (by decide) (fun K hK => ?_) (fun K hK => ?_)
     ·skip
      refine goes_ Try.func16 (by kernel_rfl) rfl #[.agg #[.slice A0_0 l0_0.length c0_0, .bool a0_1], .agg #[.slice Ao25 t233.length co25, .bool t236]] (by rfl) rfl rfl (by (try simp only [List.map_toArray, List.map_cons, List.map_nil]); first | done | rfl | (simp only [List.length_drop, List.length_take]; rfl)) ?_
      with_reducible refine (trivetref01_Add.calls k _ _ l0_0 a0_1 _ _ t233 t236 t237 true _ ?side1 ?side2 ?side3 ?side4 A4.out).mono ?_
      (case side1 => repeat (first | exact (Kd.C_below HR0_0.out HB.out) | (with_reducible refine Kd.C_alloc ?_ _) | (with_reducible refine Kd.C_drewN ?_ _) | (with_reducible refine Kd.C_drew ?_)))
      (case side2 => exact HC0_0.out)
      (case side3 => repeat (first | exact (Kd.V_reads' HO235.out).2.2 | (with_reducible refine Kd.C_alloc ?_ _) | (with_reducible refine Kd.C_drewN ?_ _) | (with_reducible refine Kd.C_drew ?_)))
      (case side4 => exact (Kd.V_reads' HO235.out).2.1)
      rintro e w26 ⟨v238, rfl, ho0, hb⟩
      refine ⟨_, rfl, ?_⟩
      replace HO235 := kvb HO235 hb
      have HO239 := ka (Kd.V_lower (Kd.V_mono (ok' := fun k_ => k_ ≠ gb231 ∧ k_ ≠ gb232) ho0 (fun k_ hk_ => ⟨(kf BK231 hk_), (kf BK232 hk_)⟩)) (below_size (kw HB.out)))
      replace BK231 := kbb BK231 hb
      replace BK232 := kbb BK232 hb
      replace HB := ka (below_step (kw HB.out) hb)
      (try clear hb)
      (try clear hb2)
      (try clear hk)
      (try clear hi)
      (try clear ho0)
      refine hK.out _ _ ⟨(blk_cell BK231.out 0).trans rfl, (blk_cell BK231.out 1).trans rfl, (blk_cell BK232.out 0).trans rfl, (blk_cell BK232.out 1).trans rfl⟩ (fun hHeld => ?_)
      clear hK K
      refine norm_ (a' := ?_) ?_ ?_
      rotate_left
      ·show Act.put _ (some 9) _ = _
       simp only [Act.put, List.setIfInBounds_toArray, List.set_cons_zero, List.set_cons_succ, i64_w, i32_w]
       rfl
      refine one_ (i := 4) (N := some 5) #[true, true, true, true, true, false] rfl rfl (by kernel_rfl) (by decide) (fun K hK => ?_)
      refine box_step ?hg (N := 5) ?hd (cs := #[.slice none 0 0, .bool false]) (t := 34) ?hr ?_; (case hd => rfl); (case hg => rfl); (case hr => first | (go_simp; done) | (go_simp; rfl))
      intro gb241 hg w27 hbox hb
      replace HO235 := ka (Kd.V_below (Kd.V_elderB (kv HO235.out) gb241 (Nat.le_of_eq hg.symm)) hb)
      replace HO239 := ka (Kd.V_below (Kd.V_elderB (kv HO239.out) gb241 (Nat.le_of_eq hg.symm)) hb)
      have BK241 := ka (hbox)
      have GW241 := ka ((by rw [hg]; exact (below_size (kw HB.out)) : w.heap.size ≤ gb241))
      have GE241 := ka ((by rw [hg]; exact (below_size (kw HB.out)) : w.heap.size ≤ gb241))
      replace HB := ka (below_step (kw HB.out) hb)
      have NB231_241 := knb hg BK231
      have NB241_231 := ka NB231_241.out.symm
      replace BK231 := kbb BK231 hb
      have NB232_241 := knb hg BK232
      have NB241_232 := ka NB232_241.out.symm
      replace BK232 := kbb BK232 hb
      clear hb hbox hg
      refine hK.out _ _ ⟨(blk_cell BK231.out 0).trans rfl, (blk_cell BK231.out 1).trans rfl, (blk_cell BK232.out 0).trans rfl, (blk_cell BK232.out 1).trans rfl⟩ (fun hHeld => ?_)
      clear hK K
      refine norm_ (a' := ?_) ?_ ?_
      rotate_left
      ·show Act.put _ (some 5) _ = _
       simp only [Act.put, List.setIfInBounds_toArray, List.set_cons_zero, List.set_cons_succ, i64_w, i32_w]
       rfl
      exact norm_ (by simp only [putAll, Act.put, List.setIfInBounds_toArray, List.set_cons_zero, List.set_cons_succ]) (hCont (.slice Ao25 t233.length co25, v238, gb241) _ ⟨hHeld, (kv (Kd.V_mono HO235.out (fun _ => ra2))), (kv (Kd.V_mono HO239.out (fun _ => ra2))), (kz BK231.out), (kz BK232.out), (kz BK241.out), GW241.out, GE241.out, NB231_241.out, NB241_231.out, NB232_241.out, NB241_232.out, (kw HB.out)⟩)
     ·skip
      refine box_step ?hg (N := 5) ?hd (cs := #[.slice none 0 0, .bool false]) (t := 34) ?hr ?_; (case hd => rfl); (case hg => rfl); (case hr => first | (go_simp; done) | (go_simp; rfl))
      intro gb241 hg w25 hbox hb
      replace HO235 := ka (Kd.V_below (Kd.V_elderB (kv HO235.out) gb241 (Nat.le_of_eq hg.symm)) hb)
      have BK241 := ka (hbox)
      have GW241 := ka ((by rw [hg]; exact (below_size (kw HB.out)) : w.heap.size ≤ gb241))
      have GE241 := ka ((by rw [hg]; exact (below_size (kw HB.out)) : w.heap.size ≤ gb241))
      replace HB := ka (below_step (kw HB.out) hb)
      have NB231_241 := knb hg BK231
      have NB241_231 := ka NB231_241.out.symm
      replace BK231 := kbb BK231 hb
      have NB232_241 := knb hg BK232
      have NB241_232 := ka NB232_241.out.symm
      replace BK232 := kbb BK232 hb
      clear hb hbox hg
      obtain ⟨Ao26, co26, eo26⟩ := Kd.V_slice HO235.out
      (first | subst eo26 | (injection eo26 with f1_ f2_ f3_; have f4_ := f1_.symm; have f5_ := f3_.symm; clear f1_ f2_ f3_; subst f4_; subst f5_))
      refine hK.out _ _ ⟨(blk_cell BK231.out 0).trans rfl, (blk_cell BK231.out 1).trans rfl, (blk_cell BK232.out 0).trans rfl, (blk_cell BK232.out 1).trans rfl⟩ (fun hHeld => ?_)
      clear hK K
      refine norm_ (a' := ?_) ?_ ?_
      rotate_left
      ·show Act.put _ (some 5) _ = _
       simp only [Act.put, List.setIfInBounds_toArray, List.set_cons_zero, List.set_cons_succ, i64_w, i32_w]
       rfl
      refine one_ (i := 3) (N := some 9) #[true, true, true, true, true, false] rfl rfl (by kernel_rfl) (by decide) (fun K hK => ?_)
      refine goes_ Try.func16 (by kernel_rfl) rfl #[.agg #[.slice A0_0 l0_0.length c0_0, .bool a0_1], .agg #[.slice Ao26 t233.length co26, .bool t236]] (by rfl) rfl rfl (by (try simp only [List.map_toArray, List.map_cons, List.map_nil]); first | done | rfl | (simp only [List.length_drop, List.length_take]; rfl)) ?_
      with_reducible refine (trivetref01_Add.calls k _ _ l0_0 a0_1 _ _ t233 t236 t237 true _ ?side1 ?side2 ?side3 ?side4 A4.out).mono ?_
      (case side1 => repeat (first | exact (Kd.C_below HR0_0.out HB.out) | (with_reducible refine Kd.C_alloc ?_ _) | (with_reducible refine Kd.C_drewN ?_ _) | (with_reducible refine Kd.C_drew ?_)))
      (case side2 => exact HC0_0.out)
      (case side3 => repeat (first | exact (Kd.V_reads' HO235.out).2.2 | (with_reducible refine Kd.C_alloc ?_ _) | (with_reducible refine Kd.C_drewN ?_ _) | (with_reducible refine Kd.C_drew ?_)))
      (case side4 => exact (Kd.V_reads' HO235.out).2.1)
      rintro e w27 ⟨v238, rfl, ho0, hb⟩
      refine ⟨_, rfl, ?_⟩
      replace HO235 := kvb HO235 hb
      have HO239 := ka (Kd.V_lower (Kd.V_mono (ok' := fun k_ => k_ ≠ gb231 ∧ k_ ≠ gb232 ∧ k_ ≠ gb241) ho0 (fun k_ hk_ => ⟨(kf BK231 hk_), (kf BK232 hk_), (kf BK241 hk_)⟩)) (below_size (kw HB.out)))
      replace BK231 := kbb BK231 hb
      replace BK232 := kbb BK232 hb
      replace BK241 := kbb BK241 hb
      replace HB := ka (below_step (kw HB.out) hb)
      (try clear hb)
      (try clear hb2)
      (try clear hk)
      (try clear hi)
      (try clear ho0)
      refine hK.out _ _ ⟨(blk_cell BK231.out 0).trans rfl, (blk_cell BK231.out 1).trans rfl, (blk_cell BK232.out 0).trans rfl, (blk_cell BK232.out 1).trans rfl⟩ (fun hHeld => ?_)
      clear hK K
      refine norm_ (a' := ?_) ?_ ?_
      rotate_left
      ·show Act.put _ (some 9) _ = _
       simp only [Act.put, List.setIfInBounds_toArray, List.set_cons_zero, List.set_cons_succ, i64_w, i32_w]
       rfl
      exact norm_ (by simp only [putAll, Act.put, List.setIfInBounds_toArray, List.set_cons_zero, List.set_cons_succ]) (hCont (.slice Ao26 t233.length co26, v238, gb241) _ ⟨hHeld, (kv (Kd.V_mono HO235.out (fun _ => ra2))), (kv HO239.out), (kz BK231.out), (kz BK232.out), (kz BK241.out), GW241.out, GE241.out, NB231_241.out, NB241_231.out, NB232_241.out, NB241_232.out, (kw HB.out)⟩)
    ·skip
     refine box_step ?hg (N := 5) ?hd (cs := #[.slice none 0 0, .bool false]) (t := 34) ?hr ?_; (case hd => rfl); (case hg => rfl); (case hr => first | (go_simp; done) | (go_simp; rfl))
     intro gb241 hg w24 hbox hb
     have BK241 := ka (hbox)
     have GW241 := ka ((by rw [hg]; exact (below_size (kw HB.out)) : w.heap.size ≤ gb241))
     have GE241 := ka ((by rw [hg]; exact (below_size (kw HB.out)) : w.heap.size ≤ gb241))
     replace HB := ka (below_step (kw HB.out) hb)
     have NB231_241 := knb hg BK231
     have NB241_231 := ka NB231_241.out.symm
     replace BK231 := kbb BK231 hb
     have NB232_241 := knb hg BK232
     have NB241_232 := ka NB232_241.out.symm
     replace BK232 := kbb BK232 hb
     clear hb hbox hg
     refine hK.out _ _ ⟨(blk_cell BK231.out 0).trans rfl, (blk_cell BK231.out 1).trans rfl, (blk_cell BK232.out 0).trans rfl, (blk_cell BK232.out 1).trans rfl⟩ (fun hHeld => ?_)
     clear hK K
     refine norm_ (a' := ?_) ?_ ?_
     rotate_left
     ·show Act.put _ (some 5) _ = _
      simp only [Act.put, List.setIfInBounds_toArray, List.set_cons_zero, List.set_cons_succ, i64_w, i32_w]
      rfl
     refine one_ (i := 2) (N := some 8) #[true, true, true, false, true, false] rfl rfl (by kernel_rfl) (by decide) (fun K hK => ?_)
     refine goes_ Try.func17 (by kernel_rfl) rfl #[.agg #[.slice A1_0 l1_0.length c1_0, .bool a1_1]] (by rfl) rfl rfl (by (try simp only [List.map_toArray, List.map_cons, List.map_nil]); first | done | rfl | (simp only [List.length_drop, List.length_take]; rfl)) ?_
     with_reducible refine (trivetref01_Neg.calls k (fun k_ => k_ < w.heap.size) _ _ l1_0 a1_1 t233 t236 _ ?side1 A3.out).mono ?_
     (case side1 => exact Kd.V_mk HC1_0.out (Kd.F_below (Kd.C_F (Kd.heap_int .u64) HR1_0.out) (kw HB.out)))
     rintro e w25 ⟨v234, rfl, ho0, hb⟩
     refine ⟨_, rfl, ?_⟩
     have HO235 := ka (Kd.V_lower (Kd.V_mono (ok' := fun k_ => k_ ≠ gb231 ∧ k_ ≠ gb232 ∧ k_ ≠ gb241) ho0 (fun k_ hk_ => ⟨Or.elim hk_ (fun hs_ => fun e_ => Nat.not_le.2 hs_ (by rw [e_]; exact GW231.out)) (fun hn_ => (kf BK231 hn_)), Or.elim hk_ (fun hs_ => fun e_ => Nat.not_le.2 hs_ (by rw [e_]; exact GW232.out)) (fun hn_ => (kf BK232 hn_)), Or.elim hk_ (fun hs_ => fun e_ => Nat.not_le.2 hs_ (by rw [e_]; exact GW241.out)) (fun hn_ => (kf BK241 hn_))⟩)) (below_size (kw HB.out)))
     replace BK231 := kbb BK231 hb
     replace BK232 := kbb BK232 hb
     replace BK241 := kbb BK241 hb
     replace HB := ka (below_step (kw HB.out) hb)
     (try clear hb)
     (try clear hb2)
     (try clear hk)
     (try clear hi)
     (try clear ho0)
     obtain ⟨Ao26, co26, eo26⟩ := Kd.V_slice HO235.out
     (first | subst eo26 | (injection eo26 with f1_ f2_ f3_; have f4_ := f1_.symm; have f5_ := f3_.symm; clear f1_ f2_ f3_; subst f4_; subst f5_))
     refine hK.out _ _ ⟨(blk_cell BK231.out 0).trans rfl, (blk_cell BK231.out 1).trans rfl, (blk_cell BK232.out 0).trans rfl, (blk_cell BK232.out 1).trans rfl⟩ (fun hHeld => ?_)
     clear hK K
     refine norm_ (a' := ?_) ?_ ?_
     rotate_left
     ·show Act.put _ (some 8) _ = _
      simp only [Act.put, List.setIfInBounds_toArray, List.set_cons_zero, List.set_cons_succ, i64_w, i32_w]
      rfl
     refine one_ (i := 3) (N := some 9) #[true, true, true, true, true, false] rfl rfl (by kernel_rfl) (by decide) (fun K hK => ?_)
     refine goes_ Try.func16 (by kernel_rfl) rfl #[.agg #[.slice A0_0 l0_0.length c0_0, .bool a0_1], .agg #[.slice Ao26 t233.length co26, .bool t236]] (by rfl) rfl rfl (by (try simp only [List.map_toArray, List.map_cons, List.map_nil]); first | done | rfl | (simp only [List.length_drop, List.length_take]; rfl)) ?_
     with_reducible refine (trivetref01_Add.calls k _ _ l0_0 a0_1 _ _ t233 t236 t237 true _ ?side1 ?side2 ?side3 ?side4 A4.out).mono ?_
     (case side1 => repeat (first | exact (Kd.C_below HR0_0.out HB.out) | (with_reducible refine Kd.C_alloc ?_ _) | (with_reducible refine Kd.C_drewN ?_ _) | (with_reducible refine Kd.C_drew ?_)))
     (case side2 => exact HC0_0.out)
     (case side3 => repeat (first | exact (Kd.V_reads' HO235.out).2.2 | (with_reducible refine Kd.C_alloc ?_ _) | (with_reducible refine Kd.C_drewN ?_ _) | (with_reducible refine Kd.C_drew ?_)))
     (case side4 => exact (Kd.V_reads' HO235.out).2.1)
     rintro e w27 ⟨v238, rfl, ho0, hb⟩
     refine ⟨_, rfl, ?_⟩
     replace HO235 := kvb HO235 hb
     have HO239 := ka (Kd.V_lower (Kd.V_mono (ok' := fun k_ => k_ ≠ gb231 ∧ k_ ≠ gb232 ∧ k_ ≠ gb241) ho0 (fun k_ hk_ => ⟨(kf BK231 hk_), (kf BK232 hk_), (kf BK241 hk_)⟩)) (below_size (kw HB.out)))
     replace BK231 := kbb BK231 hb
     replace BK232 := kbb BK232 hb
     replace BK241 := kbb BK241 hb
     replace HB := ka (below_step (kw HB.out) hb)
     (try clear hb)
     (try clear hb2)
     (try clear hk)
     (try clear hi)
     (try clear ho0)
     refine hK.out _ _ ⟨(blk_cell BK231.out 0).trans rfl, (blk_cell BK231.out 1).trans rfl, (blk_cell BK232.out 0).trans rfl, (blk_cell BK232.out 1).trans rfl⟩ (fun hHeld => ?_)
     clear hK K
     refine norm_ (a' := ?_) ?_ ?_
     rotate_left
     ·show Act.put _ (some 9) _ = _
      simp only [Act.put, List.setIfInBounds_toArray, List.set_cons_zero, List.set_cons_succ, i64_w, i32_w]
      rfl
     exact norm_ (by simp only [putAll, Act.put, List.setIfInBounds_toArray, List.set_cons_zero, List.set_cons_succ]) (hCont (.slice Ao26 t233.length co26, v238, gb241) _ ⟨hHeld, (kv HO235.out), (kv HO239.out), (kz BK231.out), (kz BK232.out), (kz BK241.out), GW241.out, GE241.out, NB231_241.out, NB241_231.out, NB232_241.out, NB241_232.out, (kw HB.out)⟩)
   rintro ⟨v234, v238, gb241⟩ w28 ⟨hS_, h0_, h1_, h2_, h3_, h4_, h5_, h6_, h7_, h8_, h9_, h10_, h11_⟩
   have HO235 : Aside0 (Kd.V (Kd.int .u64) 42 w28 w.heap.size (fun k_ => k_ ≠ gb231 ∧ k_ ≠ gb232 ∧ k_ ≠ gb241) v234 t233) := ⟨h0_⟩
   have HO239 : Aside0 (Kd.V (Kd.int .u64) 42 w28 w.heap.size (fun k_ => k_ ≠ gb231 ∧ k_ ≠ gb232 ∧ k_ ≠ gb241) v238 t237) := ⟨h1_⟩
   replace BK231 : Aside0 (w28.heap[gb231]? = some (.cells #[.slice A0_0 l0_0.length c0_0, .bool a0_1] 34 (0, 0))) := ⟨h2_⟩
   replace BK232 : Aside0 (w28.heap[gb232]? = some (.cells #[.slice A1_0 l1_0.length c1_0, .bool a1_1] 34 (0, 0))) := ⟨h3_⟩
   have BK241 : Aside0 (w28.heap[gb241]? = some (.cells #[.slice none 0 0, .bool false] 34 (0, 0))) := ⟨h4_⟩
   have GW241 : Aside0 (w.heap.size ≤ gb241) := ⟨h5_⟩
   have GE241 : Aside0 (w.heap.size ≤ gb241) := ⟨h6_⟩
   have NB231_241 : Aside0 (gb231 ≠ gb241) := ⟨h7_⟩
   have NB241_231 : Aside0 (gb241 ≠ gb231) := ⟨h8_⟩
   have NB232_241 : Aside0 (gb232 ≠ gb241) := ⟨h9_⟩
   have NB241_232 : Aside0 (gb241 ≠ gb232) := ⟨h10_⟩
   replace HB : Aside0 (Below w.heap.size w w28) := ⟨h11_⟩
   clear h0_ h1_ h2_ h3_ h4_ h5_ h6_ h7_ h8_ h9_ h10_ h11_
   have hHeld : w28.cell? ⟨gb231, 0, none⟩ = some (.slice A0_0 l0_0.length c0_0) ∧ w28.cell? ⟨gb231, 1, none⟩ = some (.bool a0_1) ∧ w28.cell? ⟨gb232, 0, none⟩ = some (.slice A1_0 l1_0.length c1_0) ∧ w28.cell? ⟨gb232, 1, none⟩ = some (.bool a1_1) := hS_
   obtain ⟨Ao29, co29, eo29⟩ := Kd.V_slice HO239.out
   (first | subst eo29 | (injection eo29 with f1_ f2_ f3_; have f4_ := f1_.symm; have f5_ := f3_.symm; clear f1_ f2_ f3_; subst f4_; subst f5_))
   refine norm_ (a' := ?_) ?_ ?_
   rotate_left
   ·simp only [putAll, Act.put, List.setIfInBounds_toArray, List.set_cons_zero, List.set_cons_succ]
    rfl
   refine one_ (i := 5) (N := none) #[true, true, true, true, true, true] rfl rfl (by kernel_rfl) (by decide) (fun K hK => ?_)
   have hs30 : w28.cell? ⟨gb241, 0, none⟩ = some (.slice none 0 0) := (blk_cell BK241.out 0).trans rfl
   have hfs30 := blk_frozen BK241.out 0
   have hns30_0 := NB231_241.out
   have hns30_1 := NB232_241.out
   have hms30_0 := NB241_231.out
   have hms30_1 := NB241_232.out
   have hs31 : w28.cell? ⟨gb241, 1, none⟩ = some (.bool false) := (blk_cell BK241.out 1).trans rfl
   have hfs31 := blk_frozen BK241.out 1
   have hns31_0 := NB231_241.out
   have hns31_1 := NB232_241.out
   have hms31_0 := NB241_231.out
   have hms31_1 := NB241_232.out
   refine skip_ (w1 := ?_) (by rfl) rfl ?_ ?_
   rotate_left
   ·go_simp
    rfl
   refine hK.out _ _ ⟨((cell_far (p := ⟨gb241, _, none⟩) NB231_241.out _).trans (((cell_far (p := ⟨gb241, _, none⟩) NB231_241.out _).trans (hHeld.1)))), ((cell_far (p := ⟨gb241, _, none⟩) NB231_241.out _).trans (((cell_far (p := ⟨gb241, _, none⟩) NB231_241.out _).trans (hHeld.2.1)))), ((cell_far (p := ⟨gb241, _, none⟩) NB232_241.out _).trans (((cell_far (p := ⟨gb241, _, none⟩) NB232_241.out _).trans (hHeld.2.2.1)))), ((cell_far (p := ⟨gb241, _, none⟩) NB232_241.out _).trans (((cell_far (p := ⟨gb241, _, none⟩) NB232_241.out _).trans (hHeld.2.2.2))))⟩ (fun hHeld => ?_)
   clear hK K
   refine done_ (by kernel_rfl) ?_
   have hnb32 := NB241_231.out
   have hnc32 := NB231_241.out
   have hnb33 := NB241_232.out
   have hnc33 := NB232_241.out
   have hcz34 := blkAll2 BK241.out
   try go_wp2
   go_ret
   exact ⟨by first | rfl | (simp [errW_none, errW_some] <;> rfl) | (simp [*, errW_none, errW_some] <;> rfl), by repeat (first | (with_reducible first | exact HB.out | apply kc1 | apply kc2 | apply kc3 | refine kc4 ?_ GE231.out | refine kc4 ?_ GE232.out | refine kc4 ?_ GE241.out) | exact HB.out)⟩
  ·replace c20 := Bool.eq_false_iff.mpr c20
   subst c20
   have H1 : (some 1) = some r := by rw [if_neg (show ¬ (false = true) by decide)] at H; exact H
   clear H
   have H := H1
   clear H1
   obtain rfl := Option.some.inj H
   go_enter Try.func18, Try.ntmps18
   try go_wp2_with (first | ((with_reducible refine gate_dst (N := 2) rfl ?_); refine kx (N := 2) (cs := #[.slice A0_0 l0_0.length c0_0, .bool a0_1]) (t := 34) ?_; intro gb231 hg w35 hbox hb; have n0_ := ka (below_step (kw HB.out) hb); have n1_ := ka (hbox); have n2_ := ka ((by rw [hg]; exact (below_size (kw HB.out)) : w.heap.size ≤ gb231)); have n3_ := n2_; clear HB; have HB := n0_; have BK231 := n1_; have GW231 := n2_; have GE231 := n3_; clear n0_ n1_ n2_ n3_; clear hb hbox hg) | ((with_reducible refine gate_dst (N := 3) rfl ?_); refine kx (N := 3) (cs := #[.slice A1_0 l1_0.length c1_0, .bool a1_1]) (t := 34) ?_; intro gb232 hg w36 hbox hb; have n0_ := ka (blk_below (g := gb231) (kz BK231.out) hb); have n1_ := ka (below_step (kw HB.out) hb); have n2_ := ka (hbox); have n3_ := ka ((by rw [hg]; exact (below_size (kw HB.out)) : w.heap.size ≤ gb232)); have n4_ := n3_; have n5_ := ka ((by rw [hg]; exact Nat.ne_of_lt (blk_lt (g := gb231) (kz BK231.out)) : gb231 ≠ gb232)); have n6_ := ka n5_.out.symm; clear BK231; clear HB; have BK231 := n0_; have HB := n1_; have BK232 := n2_; have GW232 := n3_; have GE232 := n4_; have NB231_232 := n5_; have NB232_231 := n6_; clear n0_ n1_ n2_ n3_ n4_ n5_ n6_; clear hb hbox hg))
   replace BK231 := ka (blk_drew BK231.out)
   replace BK232 := ka (blk_drew BK232.out)
   replace HB := ka (below_drew1 HB.out)
   refine start_ (n := 6) (S := fun w' => w'.cell? ⟨gb231, 0, none⟩ = some (.slice A0_0 l0_0.length c0_0) ∧ w'.cell? ⟨gb231, 1, none⟩ = some (.bool a0_1) ∧ w'.cell? ⟨gb232, 0, none⟩ = some (.slice A1_0 l1_0.length c1_0) ∧ w'.cell? ⟨gb232, 1, none⟩ = some (.bool a1_1)) (ds := []) #[false, false, false, false, false, false] (by kernel_rfl) rfl rfl ⟨(blk_cell BK231.out 0).trans rfl, (blk_cell BK231.out 1).trans rfl, (blk_cell BK232.out 0).trans rfl, (blk_cell BK232.out 1).trans rfl⟩ (fun hHeld => ?_)
   generalize w36.drew = w37 at BK231 BK232 HB hHeld ⊢
   refine take_ (i := 0) (N := some 6) (v := ?_) (a' := ?_) #[true, false, false, false, false, false] rfl rfl (by kernel_rfl) (fun _ _ _ h => h) (Or.inl ⟨by rfl, ?_⟩) hHeld ?_ ?_
   rotate_left
   ·rintro w' ⟨s0, s1, s2, s3⟩
    go_simp
    with_reducible rfl
   rotate_left
   ·simp only [Act.put, List.setIfInBounds_toArray, List.set_cons_zero, List.set_cons_succ, i64_w, i32_w]
    rfl
   refine take_ (i := 1) (N := some 7) (v := ?_) (a' := ?_) #[true, true, false, false, false, false] rfl rfl (by kernel_rfl) (fun _ _ _ h => h) (Or.inl ⟨by rfl, ?_⟩) hHeld ?_ ?_
   rotate_left
   ·rintro w' ⟨s0, s1, s2, s3⟩
    go_simp
    with_reducible rfl
   rotate_left
   ·simp only [Act.put, List.setIfInBounds_toArray, List.set_cons_zero, List.set_cons_succ, i64_w, i32_w]
    rfl
   refine join_ (σ := Value × Value × Nat) 1 #[true, true, true, true, true, false] (fun s_ => [(8, .agg #[s_.1, .bool t236]), (9, .agg #[s_.2.1, .bool false]), (5, .pointer (some ⟨s_.2.2, 0, none⟩))]) (fun s_ w' => (w'.cell? ⟨gb231, 0, none⟩ = some (.slice A0_0 l0_0.length c0_0) ∧ w'.cell? ⟨gb231, 1, none⟩ = some (.bool a0_1) ∧ w'.cell? ⟨gb232, 0, none⟩ = some (.slice A1_0 l1_0.length c1_0) ∧ w'.cell? ⟨gb232, 1, none⟩ = some (.bool a1_1)) ∧ (Kd.V (Kd.int .u64) 42 w' w.heap.size (fun k_ => k_ ≠ gb231 ∧ k_ ≠ gb232 ∧ k_ ≠ s_.2.2) s_.1 t233) ∧ (Kd.V (Kd.int .u64) 42 w' w.heap.size (fun k_ => k_ ≠ gb231 ∧ k_ ≠ gb232 ∧ k_ ≠ s_.2.2) s_.2.1 t237) ∧ (w'.heap[gb231]? = some (.cells #[.slice A0_0 l0_0.length c0_0, .bool a0_1] 34 (0, 0))) ∧ (w'.heap[gb232]? = some (.cells #[.slice A1_0 l1_0.length c1_0, .bool a1_1] 34 (0, 0))) ∧ (w'.heap[s_.2.2]? = some (.cells #[.slice none 0 0, .bool false] 34 (0, 0))) ∧ (w.heap.size ≤ s_.2.2) ∧ (w.heap.size ≤ s_.2.2) ∧ (gb231 ≠ s_.2.2) ∧ (s_.2.2 ≠ gb231) ∧ (gb232 ≠ s_.2.2) ∧ (s_.2.2 ≠ gb232) ∧ (Below w.heap.size w w')) ?_ ?_
   rotate_left
   ·intro hCont
    refine two_ (i := 2) (j := 4) (Ni := some 8) (Nj := some 5) #[true, true, true, false, false, false] #[true, true, false, false, true, false] rfl rfl rfl rfl (by kernel_rfl) (by decide) (by decide) (fun K hK => ?_) (fun K hK => ?_)
    ·skip
     refine goes_ Try.func17 (by kernel_rfl) rfl #[.agg #[.slice A1_0 l1_0.length c1_0, .bool a1_1]] (by rfl) rfl rfl (by (try simp only [List.map_toArray, List.map_cons, List.map_nil]); first | done | rfl | (simp only [List.length_drop, List.length_take]; rfl)) ?_
     with_reducible refine (trivetref01_Neg.calls k (fun k_ => k_ < w.heap.size) _ _ l1_0 a1_1 t233 t236 _ ?side1 A3.out).mono ?_
     (case side1 => exact Kd.V_mk HC1_0.out (Kd.F_below (Kd.C_F (Kd.heap_int .u64) HR1_0.out) (kw HB.out)))
     rintro e w38 ⟨v234, rfl, ho0, hb⟩
     refine ⟨_, rfl, ?_⟩
     have HO235 := ka (Kd.V_lower (Kd.V_mono (ok' := fun k_ => k_ ≠ gb231 ∧ k_ ≠ gb232) ho0 (fun k_ hk_ => ⟨Or.elim hk_ (fun hs_ => fun e_ => Nat.not_le.2 hs_ (by rw [e_]; exact GW231.out)) (fun hn_ => (kf BK231 hn_)), Or.elim hk_ (fun hs_ => fun e_ => Nat.not_le.2 hs_ (by rw [e_]; exact GW232.out)) (fun hn_ => (kf BK232 hn_))⟩)) (below_size (kw HB.out)))
     replace BK231 := kbb BK231 hb
     replace BK232 := kbb BK232 hb
     replace HB := ka (below_step (kw HB.out) hb)
     (try clear hb)
     (try clear hb2)
     (try clear hk)
     (try clear hi)
     (try clear ho0)
     obtain ⟨Ao39, co39, eo39⟩ := Kd.V_slice HO235.out
     (first | subst eo39 | (injection eo39 with f1_ f2_ f3_; have f4_ := f1_.symm; have f5_ := f3_.symm; clear f1_ f2_ f3_; subst f4_; subst f5_))
     refine hK.out _ _ ⟨(blk_cell BK231.out 0).trans rfl, (blk_cell BK231.out 1).trans rfl, (blk_cell BK232.out 0).trans rfl, (blk_cell BK232.out 1).trans rfl⟩ (fun hHeld => ?_)
     clear hK K
     refine norm_ (a' := ?_) ?_ ?_
     rotate_left
     ·show Act.put _ (some 8) _ = _
      simp only [Act.put, List.setIfInBounds_toArray, List.set_cons_zero, List.set_cons_succ, i64_w, i32_w]
      rfl
     refine two_ (i := 3) (j := 4) (Ni := some 9) (Nj := some 5) #[true, true, true, true, false, false] #[true, true, true, false, true, false] rfl rfl rfl rfl (by kernel_rfl) (by decide) (by decide) (fun K hK => ?_) (fun K hK => ?_)
     ·skip
      refine goes_ Try.func16 (by kernel_rfl) rfl #[.agg #[.slice A0_0 l0_0.length c0_0, .bool a0_1], .agg #[.slice Ao39 t233.length co39, .bool t236]] (by rfl) rfl rfl (by (try simp only [List.map_toArray, List.map_cons, List.map_nil]); first | done | rfl | (simp only [List.length_drop, List.length_take]; rfl)) ?_
      with_reducible refine (trivetref01_Add.calls k _ _ l0_0 a0_1 _ _ t233 t236 t237 false _ ?side1 ?side2 ?side3 ?side4 A4.out).mono ?_
      (case side1 => repeat (first | exact (Kd.C_below HR0_0.out HB.out) | (with_reducible refine Kd.C_alloc ?_ _) | (with_reducible refine Kd.C_drewN ?_ _) | (with_reducible refine Kd.C_drew ?_)))
      (case side2 => exact HC0_0.out)
      (case side3 => repeat (first | exact (Kd.V_reads' HO235.out).2.2 | (with_reducible refine Kd.C_alloc ?_ _) | (with_reducible refine Kd.C_drewN ?_ _) | (with_reducible refine Kd.C_drew ?_)))
      (case side4 => exact (Kd.V_reads' HO235.out).2.1)
      rintro e w40 ⟨v238, rfl, ho0, hb⟩
      refine ⟨_, rfl, ?_⟩
      replace HO235 := kvb HO235 hb
      have HO239 := ka (Kd.V_lower (Kd.V_mono (ok' := fun k_ => k_ ≠ gb231 ∧ k_ ≠ gb232) ho0 (fun k_ hk_ => ⟨(kf BK231 hk_), (kf BK232 hk_)⟩)) (below_size (kw HB.out)))
      replace BK231 := kbb BK231 hb
      replace BK232 := kbb BK232 hb
      replace HB := ka (below_step (kw HB.out) hb)
      (try clear hb)
      (try clear hb2)
      (try clear hk)
      (try clear hi)
      (try clear ho0)
      refine hK.out _ _ ⟨(blk_cell BK231.out 0).trans rfl, (blk_cell BK231.out 1).trans rfl, (blk_cell BK232.out 0).trans rfl, (blk_cell BK232.out 1).trans rfl⟩ (fun hHeld => ?_)
      clear hK K
      refine norm_ (a' := ?_) ?_ ?_
      rotate_left
      ·show Act.put _ (some 9) _ = _
       simp only [Act.put, List.setIfInBounds_toArray, List.set_cons_zero, List.set_cons_succ, i64_w, i32_w]
       rfl
      refine one_ (i := 4) (N := some 5) #[true, true, true, true, true, false] rfl rfl (by kernel_rfl) (by decide) (fun K hK => ?_)
      refine box_step ?hg (N := 5) ?hd (cs := #[.slice none 0 0, .bool false]) (t := 34) ?hr ?_; (case hd => rfl); (case hg => rfl); (case hr => first | (go_simp; done) | (go_simp; rfl))
      intro gb241 hg w41 hbox hb
      replace HO235 := ka (Kd.V_below (Kd.V_elderB (kv HO235.out) gb241 (Nat.le_of_eq hg.symm)) hb)
      replace HO239 := ka (Kd.V_below (Kd.V_elderB (kv HO239.out) gb241 (Nat.le_of_eq hg.symm)) hb)
      have BK241 := ka (hbox)
      have GW241 := ka ((by rw [hg]; exact (below_size (kw HB.out)) : w.heap.size ≤ gb241))
      have GE241 := ka ((by rw [hg]; exact (below_size (kw HB.out)) : w.heap.size ≤ gb241))
      replace HB := ka (below_step (kw HB.out) hb)
      have NB231_241 := knb hg BK231
      have NB241_231 := ka NB231_241.out.symm
      replace BK231 := kbb BK231 hb
      have NB232_241 := knb hg BK232
      have NB241_232 := ka NB232_241.out.symm
      replace BK232 := kbb BK232 hb
      clear hb hbox hg
      refine hK.out _ _ ⟨(blk_cell BK231.out 0).trans rfl, (blk_cell BK231.out 1).trans rfl, (blk_cell BK232.out 0).trans rfl, (blk_cell BK232.out 1).trans rfl⟩ (fun hHeld => ?_)
      clear hK K
      refine norm_ (a' := ?_) ?_ ?_
      rotate_left
      ·show Act.put _ (some 5) _ = _
       simp only [Act.put, List.setIfInBounds_toArray, List.set_cons_zero, List.set_cons_succ, i64_w, i32_w]
       rfl
      exact norm_ (by simp only [putAll, Act.put, List.setIfInBounds_toArray, List.set_cons_zero, List.set_cons_succ]) (hCont (.slice Ao39 t233.length co39, v238, gb241) _ ⟨hHeld, (kv (Kd.V_mono HO235.out (fun _ => ra2))), (kv (Kd.V_mono HO239.out (fun _ => ra2))), (kz BK231.out), (kz BK232.out), (kz BK241.out), GW241.out, GE241.out, NB231_241.out, NB241_231.out, NB232_241.out, NB241_232.out, (kw HB.out)⟩)
     ·skip
      refine box_step ?hg (N := 5) ?hd (cs := #[.slice none 0 0, .bool false]) (t := 34) ?hr ?_; (case hd => rfl); (case hg => rfl); (case hr => first | (go_simp; done) | (go_simp; rfl))
      intro gb241 hg w39 hbox hb
      replace HO235 := ka (Kd.V_below (Kd.V_elderB (kv HO235.out) gb241 (Nat.le_of_eq hg.symm)) hb)
      have BK241 := ka (hbox)
      have GW241 := ka ((by rw [hg]; exact (below_size (kw HB.out)) : w.heap.size ≤ gb241))
      have GE241 := ka ((by rw [hg]; exact (below_size (kw HB.out)) : w.heap.size ≤ gb241))
      replace HB := ka (below_step (kw HB.out) hb)
      have NB231_241 := knb hg BK231
      have NB241_231 := ka NB231_241.out.symm
      replace BK231 := kbb BK231 hb
      have NB232_241 := knb hg BK232
      have NB241_232 := ka NB232_241.out.symm
      replace BK232 := kbb BK232 hb
      clear hb hbox hg
      obtain ⟨Ao40, co40, eo40⟩ := Kd.V_slice HO235.out
      (first | subst eo40 | (injection eo40 with f1_ f2_ f3_; have f4_ := f1_.symm; have f5_ := f3_.symm; clear f1_ f2_ f3_; subst f4_; subst f5_))
      refine hK.out _ _ ⟨(blk_cell BK231.out 0).trans rfl, (blk_cell BK231.out 1).trans rfl, (blk_cell BK232.out 0).trans rfl, (blk_cell BK232.out 1).trans rfl⟩ (fun hHeld => ?_)
      clear hK K
      refine norm_ (a' := ?_) ?_ ?_
      rotate_left
      ·show Act.put _ (some 5) _ = _
       simp only [Act.put, List.setIfInBounds_toArray, List.set_cons_zero, List.set_cons_succ, i64_w, i32_w]
       rfl
      refine one_ (i := 3) (N := some 9) #[true, true, true, true, true, false] rfl rfl (by kernel_rfl) (by decide) (fun K hK => ?_)
      refine goes_ Try.func16 (by kernel_rfl) rfl #[.agg #[.slice A0_0 l0_0.length c0_0, .bool a0_1], .agg #[.slice Ao40 t233.length co40, .bool t236]] (by rfl) rfl rfl (by (try simp only [List.map_toArray, List.map_cons, List.map_nil]); first | done | rfl | (simp only [List.length_drop, List.length_take]; rfl)) ?_
      with_reducible refine (trivetref01_Add.calls k _ _ l0_0 a0_1 _ _ t233 t236 t237 false _ ?side1 ?side2 ?side3 ?side4 A4.out).mono ?_
      (case side1 => repeat (first | exact (Kd.C_below HR0_0.out HB.out) | (with_reducible refine Kd.C_alloc ?_ _) | (with_reducible refine Kd.C_drewN ?_ _) | (with_reducible refine Kd.C_drew ?_)))
      (case side2 => exact HC0_0.out)
      (case side3 => repeat (first | exact (Kd.V_reads' HO235.out).2.2 | (with_reducible refine Kd.C_alloc ?_ _) | (with_reducible refine Kd.C_drewN ?_ _) | (with_reducible refine Kd.C_drew ?_)))
      (case side4 => exact (Kd.V_reads' HO235.out).2.1)
      rintro e w41 ⟨v238, rfl, ho0, hb⟩
      refine ⟨_, rfl, ?_⟩
      replace HO235 := kvb HO235 hb
      have HO239 := ka (Kd.V_lower (Kd.V_mono (ok' := fun k_ => k_ ≠ gb231 ∧ k_ ≠ gb232 ∧ k_ ≠ gb241) ho0 (fun k_ hk_ => ⟨(kf BK231 hk_), (kf BK232 hk_), (kf BK241 hk_)⟩)) (below_size (kw HB.out)))
      replace BK231 := kbb BK231 hb
      replace BK232 := kbb BK232 hb
      replace BK241 := kbb BK241 hb
      replace HB := ka (below_step (kw HB.out) hb)
      (try clear hb)
      (try clear hb2)
      (try clear hk)
      (try clear hi)
      (try clear ho0)
      refine hK.out _ _ ⟨(blk_cell BK231.out 0).trans rfl, (blk_cell BK231.out 1).trans rfl, (blk_cell BK232.out 0).trans rfl, (blk_cell BK232.out 1).trans rfl⟩ (fun hHeld => ?_)
      clear hK K
      refine norm_ (a' := ?_) ?_ ?_
      rotate_left
      ·show Act.put _ (some 9) _ = _
       simp only [Act.put, List.setIfInBounds_toArray, List.set_cons_zero, List.set_cons_succ, i64_w, i32_w]
       rfl
      exact norm_ (by simp only [putAll, Act.put, List.setIfInBounds_toArray, List.set_cons_zero, List.set_cons_succ]) (hCont (.slice Ao40 t233.length co40, v238, gb241) _ ⟨hHeld, (kv (Kd.V_mono HO235.out (fun _ => ra2))), (kv HO239.out), (kz BK231.out), (kz BK232.out), (kz BK241.out), GW241.out, GE241.out, NB231_241.out, NB241_231.out, NB232_241.out, NB241_232.out, (kw HB.out)⟩)
    ·skip
     refine box_step ?hg (N := 5) ?hd (cs := #[.slice none 0 0, .bool false]) (t := 34) ?hr ?_; (case hd => rfl); (case hg => rfl); (case hr => first | (go_simp; done) | (go_simp; rfl))
     intro gb241 hg w38 hbox hb
     have BK241 := ka (hbox)
     have GW241 := ka ((by rw [hg]; exact (below_size (kw HB.out)) : w.heap.size ≤ gb241))
     have GE241 := ka ((by rw [hg]; exact (below_size (kw HB.out)) : w.heap.size ≤ gb241))
     replace HB := ka (below_step (kw HB.out) hb)
     have NB231_241 := knb hg BK231
     have NB241_231 := ka NB231_241.out.symm
     replace BK231 := kbb BK231 hb
     have NB232_241 := knb hg BK232
     have NB241_232 := ka NB232_241.out.symm
     replace BK232 := kbb BK232 hb
     clear hb hbox hg
     refine hK.out _ _ ⟨(blk_cell BK231.out 0).trans rfl, (blk_cell BK231.out 1).trans rfl, (blk_cell BK232.out 0).trans rfl, (blk_cell BK232.out 1).trans rfl⟩ (fun hHeld => ?_)
     clear hK K
     refine norm_ (a' := ?_) ?_ ?_
     rotate_left
     ·show Act.put _ (some 5) _ = _
      simp only [Act.put, List.setIfInBounds_toArray, List.set_cons_zero, List.set_cons_succ, i64_w, i32_w]
      rfl
     refine one_ (i := 2) (N := some 8) #[true, true, true, false, true, false] rfl rfl (by kernel_rfl) (by decide) (fun K hK => ?_)
     refine goes_ Try.func17 (by kernel_rfl) rfl #[.agg #[.slice A1_0 l1_0.length c1_0, .bool a1_1]] (by rfl) rfl rfl (by (try simp only [List.map_toArray, List.map_cons, List.map_nil]); first | done | rfl | (simp only [List.length_drop, List.length_take]; rfl)) ?_
     with_reducible refine (trivetref01_Neg.calls k (fun k_ => k_ < w.heap.size) _ _ l1_0 a1_1 t233 t236 _ ?side1 A3.out).mono ?_
     (case side1 => exact Kd.V_mk HC1_0.out (Kd.F_below (Kd.C_F (Kd.heap_int .u64) HR1_0.out) (kw HB.out)))
     rintro e w39 ⟨v234, rfl, ho0, hb⟩
     refine ⟨_, rfl, ?_⟩
     have HO235 := ka (Kd.V_lower (Kd.V_mono (ok' := fun k_ => k_ ≠ gb231 ∧ k_ ≠ gb232 ∧ k_ ≠ gb241) ho0 (fun k_ hk_ => ⟨Or.elim hk_ (fun hs_ => fun e_ => Nat.not_le.2 hs_ (by rw [e_]; exact GW231.out)) (fun hn_ => (kf BK231 hn_)), Or.elim hk_ (fun hs_ => fun e_ => Nat.not_le.2 hs_ (by rw [e_]; exact GW232.out)) (fun hn_ => (kf BK232 hn_)), Or.elim hk_ (fun hs_ => fun e_ => Nat.not_le.2 hs_ (by rw [e_]; exact GW241.out)) (fun hn_ => (kf BK241 hn_))⟩)) (below_size (kw HB.out)))
     replace BK231 := kbb BK231 hb
     replace BK232 := kbb BK232 hb
     replace BK241 := kbb BK241 hb
     replace HB := ka (below_step (kw HB.out) hb)
     (try clear hb)
     (try clear hb2)
     (try clear hk)
     (try clear hi)
     (try clear ho0)
     obtain ⟨Ao40, co40, eo40⟩ := Kd.V_slice HO235.out
     (first | subst eo40 | (injection eo40 with f1_ f2_ f3_; have f4_ := f1_.symm; have f5_ := f3_.symm; clear f1_ f2_ f3_; subst f4_; subst f5_))
     refine hK.out _ _ ⟨(blk_cell BK231.out 0).trans rfl, (blk_cell BK231.out 1).trans rfl, (blk_cell BK232.out 0).trans rfl, (blk_cell BK232.out 1).trans rfl⟩ (fun hHeld => ?_)
     clear hK K
     refine norm_ (a' := ?_) ?_ ?_
     rotate_left
     ·show Act.put _ (some 8) _ = _
      simp only [Act.put, List.setIfInBounds_toArray, List.set_cons_zero, List.set_cons_succ, i64_w, i32_w]
      rfl
     refine one_ (i := 3) (N := some 9) #[true, true, true, true, true, false] rfl rfl (by kernel_rfl) (by decide) (fun K hK => ?_)
     refine goes_ Try.func16 (by kernel_rfl) rfl #[.agg #[.slice A0_0 l0_0.length c0_0, .bool a0_1], .agg #[.slice Ao40 t233.length co40, .bool t236]] (by rfl) rfl rfl (by (try simp only [List.map_toArray, List.map_cons, List.map_nil]); first | done | rfl | (simp only [List.length_drop, List.length_take]; rfl)) ?_
     with_reducible refine (trivetref01_Add.calls k _ _ l0_0 a0_1 _ _ t233 t236 t237 false _ ?side1 ?side2 ?side3 ?side4 A4.out).mono ?_
     (case side1 => repeat (first | exact (Kd.C_below HR0_0.out HB.out) | (with_reducible refine Kd.C_alloc ?_ _) | (with_reducible refine Kd.C_drewN ?_ _) | (with_reducible refine Kd.C_drew ?_)))
     (case side2 => exact HC0_0.out)
     (case side3 => repeat (first | exact (Kd.V_reads' HO235.out).2.2 | (with_reducible refine Kd.C_alloc ?_ _) | (with_reducible refine Kd.C_drewN ?_ _) | (with_reducible refine Kd.C_drew ?_)))
     (case side4 => exact (Kd.V_reads' HO235.out).2.1)
     rintro e w41 ⟨v238, rfl, ho0, hb⟩
     refine ⟨_, rfl, ?_⟩
     replace HO235 := kvb HO235 hb
     have HO239 := ka (Kd.V_lower (Kd.V_mono (ok' := fun k_ => k_ ≠ gb231 ∧ k_ ≠ gb232 ∧ k_ ≠ gb241) ho0 (fun k_ hk_ => ⟨(kf BK231 hk_), (kf BK232 hk_), (kf BK241 hk_)⟩)) (below_size (kw HB.out)))
     replace BK231 := kbb BK231 hb
     replace BK232 := kbb BK232 hb
     replace BK241 := kbb BK241 hb
     replace HB := ka (below_step (kw HB.out) hb)
     (try clear hb)
     (try clear hb2)
     (try clear hk)
     (try clear hi)
     (try clear ho0)
     refine hK.out _ _ ⟨(blk_cell BK231.out 0).trans rfl, (blk_cell BK231.out 1).trans rfl, (blk_cell BK232.out 0).trans rfl, (blk_cell BK232.out 1).trans rfl⟩ (fun hHeld => ?_)
     clear hK K
     refine norm_ (a' := ?_) ?_ ?_
     rotate_left
     ·show Act.put _ (some 9) _ = _
      simp only [Act.put, List.setIfInBounds_toArray, List.set_cons_zero, List.set_cons_succ, i64_w, i32_w]
      rfl
     exact norm_ (by simp only [putAll, Act.put, List.setIfInBounds_toArray, List.set_cons_zero, List.set_cons_succ]) (hCont (.slice Ao40 t233.length co40, v238, gb241) _ ⟨hHeld, (kv HO235.out), (kv HO239.out), (kz BK231.out), (kz BK232.out), (kz BK241.out), GW241.out, GE241.out, NB231_241.out, NB241_231.out, NB232_241.out, NB241_232.out, (kw HB.out)⟩)
   rintro ⟨v234, v238, gb241⟩ w42 ⟨hS_, h0_, h1_, h2_, h3_, h4_, h5_, h6_, h7_, h8_, h9_, h10_, h11_⟩
   have HO235 : Aside0 (Kd.V (Kd.int .u64) 42 w42 w.heap.size (fun k_ => k_ ≠ gb231 ∧ k_ ≠ gb232 ∧ k_ ≠ gb241) v234 t233) := ⟨h0_⟩
   have HO239 : Aside0 (Kd.V (Kd.int .u64) 42 w42 w.heap.size (fun k_ => k_ ≠ gb231 ∧ k_ ≠ gb232 ∧ k_ ≠ gb241) v238 t237) := ⟨h1_⟩
   replace BK231 : Aside0 (w42.heap[gb231]? = some (.cells #[.slice A0_0 l0_0.length c0_0, .bool a0_1] 34 (0, 0))) := ⟨h2_⟩
   replace BK232 : Aside0 (w42.heap[gb232]? = some (.cells #[.slice A1_0 l1_0.length c1_0, .bool a1_1] 34 (0, 0))) := ⟨h3_⟩
   have BK241 : Aside0 (w42.heap[gb241]? = some (.cells #[.slice none 0 0, .bool false] 34 (0, 0))) := ⟨h4_⟩
   have GW241 : Aside0 (w.heap.size ≤ gb241) := ⟨h5_⟩
   have GE241 : Aside0 (w.heap.size ≤ gb241) := ⟨h6_⟩
   have NB231_241 : Aside0 (gb231 ≠ gb241) := ⟨h7_⟩
   have NB241_231 : Aside0 (gb241 ≠ gb231) := ⟨h8_⟩
   have NB232_241 : Aside0 (gb232 ≠ gb241) := ⟨h9_⟩
   have NB241_232 : Aside0 (gb241 ≠ gb232) := ⟨h10_⟩
   replace HB : Aside0 (Below w.heap.size w w42) := ⟨h11_⟩
   clear h0_ h1_ h2_ h3_ h4_ h5_ h6_ h7_ h8_ h9_ h10_ h11_
   have hHeld : w42.cell? ⟨gb231, 0, none⟩ = some (.slice A0_0 l0_0.length c0_0) ∧ w42.cell? ⟨gb231, 1, none⟩ = some (.bool a0_1) ∧ w42.cell? ⟨gb232, 0, none⟩ = some (.slice A1_0 l1_0.length c1_0) ∧ w42.cell? ⟨gb232, 1, none⟩ = some (.bool a1_1) := hS_
   obtain ⟨Ao43, co43, eo43⟩ := Kd.V_slice HO239.out
   (first | subst eo43 | (injection eo43 with f1_ f2_ f3_; have f4_ := f1_.symm; have f5_ := f3_.symm; clear f1_ f2_ f3_; subst f4_; subst f5_))
   refine norm_ (a' := ?_) ?_ ?_
   rotate_left
   ·simp only [putAll, Act.put, List.setIfInBounds_toArray, List.set_cons_zero, List.set_cons_succ]
    rfl
   refine one_ (i := 5) (N := none) #[true, true, true, true, true, true] rfl rfl (by kernel_rfl) (by decide) (fun K hK => ?_)
   have hs44 : w42.cell? ⟨gb241, 0, none⟩ = some (.slice none 0 0) := (blk_cell BK241.out 0).trans rfl
   have hfs44 := blk_frozen BK241.out 0
   have hns44_0 := NB231_241.out
   have hns44_1 := NB232_241.out
   have hms44_0 := NB241_231.out
   have hms44_1 := NB241_232.out
   have hs45 : w42.cell? ⟨gb241, 1, none⟩ = some (.bool false) := (blk_cell BK241.out 1).trans rfl
   have hfs45 := blk_frozen BK241.out 1
   have hns45_0 := NB231_241.out
   have hns45_1 := NB232_241.out
   have hms45_0 := NB241_231.out
   have hms45_1 := NB241_232.out
   refine skip_ (w1 := ?_) (by rfl) rfl ?_ ?_
   rotate_left
   ·go_simp
    rfl
   refine hK.out _ _ ⟨((cell_far (p := ⟨gb241, _, none⟩) NB231_241.out _).trans (((cell_far (p := ⟨gb241, _, none⟩) NB231_241.out _).trans (hHeld.1)))), ((cell_far (p := ⟨gb241, _, none⟩) NB231_241.out _).trans (((cell_far (p := ⟨gb241, _, none⟩) NB231_241.out _).trans (hHeld.2.1)))), ((cell_far (p := ⟨gb241, _, none⟩) NB232_241.out _).trans (((cell_far (p := ⟨gb241, _, none⟩) NB232_241.out _).trans (hHeld.2.2.1)))), ((cell_far (p := ⟨gb241, _, none⟩) NB232_241.out _).trans (((cell_far (p := ⟨gb241, _, none⟩) NB232_241.out _).trans (hHeld.2.2.2))))⟩ (fun hHeld => ?_)
   clear hK K
   refine done_ (by kernel_rfl) ?_
   have hnb46 := NB241_231.out
   have hnc46 := NB231_241.out
   have hnb47 := NB241_232.out
   have hnc47 := NB232_241.out
   have hcz48 := blkAll2 BK241.out
   try go_wp2
   go_ret
   exact ⟨by first | rfl | (simp [errW_none, errW_some] <;> rfl) | (simp [*, errW_none, errW_some] <;> rfl), by repeat (first | (with_reducible first | exact HB.out | apply kc1 | apply kc2 | apply kc3 | refine kc4 ?_ GE231.out | refine kc4 ?_ GE232.out | refine kc4 ?_ GE241.out) | exact HB.out)⟩

end Go.Proofs.Ytcpmfdagnchlbaa.P
