-- Written by a program of this session out of the translation of the seat: Lean functions and the proofs that the Go functions come to them.
import Derived.Test.YtonjhfneeejdaaaPx0
import Derived.Test.YtonjhfneeejdaaaPx4
import Derived.Test.YtonjhfneeejdaaaPx5
import Derived.Test.YtonjhfneeejdaaaPx7
import Derived.Test.YtonjhfneeejdaaaPx8
namespace Go.Proofs.Ytonjhfneeejdaaa.P
open Go.RowKit Go.Proofs.YtonjhfneeejdaaaW.PrintWords Go.Proofs.YtonjhfneeejdaaaW.PrintLast Go.Proofs.YtonjhfneeejdaaaW.PrintMore
attribute [local go_sem] max2_int min2_int max_two min_two max_three min_three max_four min_four   -- for this text's walks alone
set_option linter.unusedVariables false
set_option linter.unusedSimpArgs false

/-! ### trivetref01_floor: function 27 -/
mutual
def trivetref01_floor.l0 : Nat → List Int → Int → List Int → Bool → List Int → Bool → List Int → Bool → List Int → Bool → Option (List Int × Bool)
 | 0, _, _, _, _, _, _, _, _, _, _ => none
 | k + 1, x5, x8, x544000, x544001, x545000, x545001, x547000, x547001, x552000, x552001 => if x8 ≥ 0 then ((trivetref01_Mul.f k x547000 x547001 x552000 x552001).bind fun bt552 => (if 0 ≤ (wrap64 (Int.tdiv x8 16)) then (if (wrap64 (Int.tdiv x8 16)) < (x544000.length : Int) then (if 0 ≤ (Int.tmod x8 16) then (if (Go.bits .and .u64 (shr .u64 (rd x544000 (wrap64 (Int.tdiv x8 16))) (Int.tmod x8 16)) 1) = 1 then ((trivetref01_Of.f k 1).bind fun bt557 => ((trivetref01_Add.f k bt552.1 bt552.2 bt557.1 bt557.2).bind fun bt561 => (trivetref01_floor.j1 k x5 x8 x544000 x544001 x545000 x545001 bt561.1 bt561.2 x552000 x552001))) else (trivetref01_floor.j1 k x5 x8 x544000 x544001 x545000 x545001 bt552.1 bt552.2 x552000 x552001)) else (none)) else (none)) else (none))) else ((trivetref01_norm.f k x5 x544001).bind fun bt587 => (if x544001 = true then (trivetref01_floor.j2 k (decide ((x547000.length : Int) > 0)) bt587.1 bt587.2) else (trivetref01_floor.j2 k false bt587.1 bt587.2)))
def trivetref01_floor.j1 : Nat → List Int → Int → List Int → Bool → List Int → Bool → List Int → Bool → List Int → Bool → Option (List Int × Bool)
 | 0, _, _, _, _, _, _, _, _, _, _ => none
 | k + 1, x5, x8, x544000, x544001, x545000, x545001, x547000, x547001, x552000, x552001 => (trivetref01_plus.f k x5 x5).bind fun t565 => ((trivetref01_norm.f k t565 false).bind fun bt568 => ((trivetref01_Cmp.f k x547000 x547001 x545000 x545001).bind fun t572 => (if t572 ≥ 0 then ((trivetref01_Neg.f k x545000 x545001).bind fun bt573 => ((trivetref01_Add.f k x547000 x547001 bt573.1 bt573.2).bind fun bt577 => ((trivetref01_plus.f k bt568.1 (([1] : List Int))).bind fun t584 => (trivetref01_floor.l0 k t584 (wrap64 (x8 - 1)) x544000 x544001 x545000 x545001 bt577.1 bt577.2 x552000 x552001)))) else (trivetref01_floor.l0 k bt568.1 (wrap64 (x8 - 1)) x544000 x544001 x545000 x545001 x547000 x547001 x552000 x552001))))
def trivetref01_floor.j2 : Nat → Bool → List Int → Bool → Option (List Int × Bool)
 | 0, _, _, _ => none
 | k + 1, x65, x592000, x592001 => if x65 = true then ((trivetref01_Of.f k (-1)).bind fun bt592 => ((trivetref01_Add.f k x592000 x592001 bt592.1 bt592.2).bind fun bt596 => (some (bt596.1, bt596.2)))) else (some (x592000, x592001))
end
def trivetref01_floor.f (k : Nat) (l0_0 : List Int) (a0_1 : Bool) (l1_0 : List Int) (a1_1 : Bool) : Option (List Int × Bool) := (trivetref01_Of.f k 2).bind fun bt547 => (trivetref01_floor.l0 k ([] : List Int) (wrap64 ((wrap64 ((l0_0.length : Int) * 16)) - 1)) l0_0 a0_1 l1_0 a1_1 ([] : List Int) false bt547.1 bt547.2)
theorem trivetref01_floor.mono_l : ∀ k, (∀ y0 y1 y2 y3 y4 y5 y6 y7 y8 y9, LeO (trivetref01_floor.l0 k y0 y1 y2 y3 y4 y5 y6 y7 y8 y9) (trivetref01_floor.l0 (k + 1) y0 y1 y2 y3 y4 y5 y6 y7 y8 y9)) ∧ (∀ y0 y1 y2 y3 y4 y5 y6 y7 y8 y9, LeO (trivetref01_floor.j1 k y0 y1 y2 y3 y4 y5 y6 y7 y8 y9) (trivetref01_floor.j1 (k + 1) y0 y1 y2 y3 y4 y5 y6 y7 y8 y9)) ∧ (∀ y0 y1 y2, LeO (trivetref01_floor.j2 k y0 y1 y2) (trivetref01_floor.j2 (k + 1) y0 y1 y2))
 | 0 => ⟨fun _ _ _ _ _ _ _ _ _ _ r h => by simp [trivetref01_floor.l0] at h, fun _ _ _ _ _ _ _ _ _ _ r h => by simp [trivetref01_floor.j1] at h, fun _ _ _ r h => by simp [trivetref01_floor.j2] at h⟩
 | k + 1 => by
  obtain ⟨ih0, ih1, ih2⟩ := trivetref01_floor.mono_l k
  refine ⟨?_, ?_, ?_⟩
  ·intro y0 y1 y2 y3 y4 y5 y6 y7 y8 y9
   unfold trivetref01_floor.l0
   repeat' first
   | (with_reducible exact ih0 _ _ _ _ _ _ _ _ _ _)
   | (with_reducible exact ih1 _ _ _ _ _ _ _ _ _ _)
   | (with_reducible exact ih2 _ _ _)
   | (with_reducible exact trivetref01_Add.mono _ _ _ _ _)
   | (with_reducible exact trivetref01_Cmp.mono _ _ _ _ _)
   | (with_reducible exact trivetref01_Mul.mono _ _ _ _ _)
   | (with_reducible exact trivetref01_Neg.mono _ _ _)
   | (with_reducible exact trivetref01_Of.mono _ _)
   | (with_reducible exact trivetref01_norm.mono _ _ _)
   | (with_reducible exact trivetref01_plus.mono _ _ _)
   | (with_reducible exact LeO.refl _)
   | (with_reducible exact LeO.none _)
   | (with_reducible refine LeO.ite ?_ ?_)
   | (with_reducible refine LeO.bind ?_ (fun _ => ?_))
   | exact ih0 _ _ _ _ _ _ _ _ _ _
   | exact ih1 _ _ _ _ _ _ _ _ _ _
   | exact ih2 _ _ _
   | exact trivetref01_Add.mono _ _ _ _ _
   | exact trivetref01_Cmp.mono _ _ _ _ _
   | exact trivetref01_Mul.mono _ _ _ _ _
   | exact trivetref01_Neg.mono _ _ _
   | exact trivetref01_Of.mono _ _
   | exact trivetref01_norm.mono _ _ _
   | exact trivetref01_plus.mono _ _ _
   | exact LeO.none _
   | refine LeO.ite ?_ ?_
   | refine LeO.bind ?_ (fun _ => ?_)
  ·intro y0 y1 y2 y3 y4 y5 y6 y7 y8 y9
   unfold trivetref01_floor.j1
   repeat' first
   | (with_reducible exact ih0 _ _ _ _ _ _ _ _ _ _)
   | (with_reducible exact ih1 _ _ _ _ _ _ _ _ _ _)
   | (with_reducible exact ih2 _ _ _)
   | (with_reducible exact trivetref01_Add.mono _ _ _ _ _)
   | (with_reducible exact trivetref01_Cmp.mono _ _ _ _ _)
   | (with_reducible exact trivetref01_Mul.mono _ _ _ _ _)
   | (with_reducible exact trivetref01_Neg.mono _ _ _)
   | (with_reducible exact trivetref01_Of.mono _ _)
   | (with_reducible exact trivetref01_norm.mono _ _ _)
   | (with_reducible exact trivetref01_plus.mono _ _ _)
   | (with_reducible exact LeO.refl _)
   | (with_reducible exact LeO.none _)
   | (with_reducible refine LeO.ite ?_ ?_)
   | (with_reducible refine LeO.bind ?_ (fun _ => ?_))
   | exact ih0 _ _ _ _ _ _ _ _ _ _
   | exact ih1 _ _ _ _ _ _ _ _ _ _
   | exact ih2 _ _ _
   | exact trivetref01_Add.mono _ _ _ _ _
   | exact trivetref01_Cmp.mono _ _ _ _ _
   | exact trivetref01_Mul.mono _ _ _ _ _
   | exact trivetref01_Neg.mono _ _ _
   | exact trivetref01_Of.mono _ _
   | exact trivetref01_norm.mono _ _ _
   | exact trivetref01_plus.mono _ _ _
   | exact LeO.none _
   | refine LeO.ite ?_ ?_
   | refine LeO.bind ?_ (fun _ => ?_)
  ·intro y0 y1 y2
   unfold trivetref01_floor.j2
   repeat' first
   | (with_reducible exact ih0 _ _ _ _ _ _ _ _ _ _)
   | (with_reducible exact ih1 _ _ _ _ _ _ _ _ _ _)
   | (with_reducible exact ih2 _ _ _)
   | (with_reducible exact trivetref01_Add.mono _ _ _ _ _)
   | (with_reducible exact trivetref01_Cmp.mono _ _ _ _ _)
   | (with_reducible exact trivetref01_Mul.mono _ _ _ _ _)
   | (with_reducible exact trivetref01_Neg.mono _ _ _)
   | (with_reducible exact trivetref01_Of.mono _ _)
   | (with_reducible exact trivetref01_norm.mono _ _ _)
   | (with_reducible exact trivetref01_plus.mono _ _ _)
   | (with_reducible exact LeO.refl _)
   | (with_reducible exact LeO.none _)
   | (with_reducible refine LeO.ite ?_ ?_)
   | (with_reducible refine LeO.bind ?_ (fun _ => ?_))
   | exact ih0 _ _ _ _ _ _ _ _ _ _
   | exact ih1 _ _ _ _ _ _ _ _ _ _
   | exact ih2 _ _ _
   | exact trivetref01_Add.mono _ _ _ _ _
   | exact trivetref01_Cmp.mono _ _ _ _ _
   | exact trivetref01_Mul.mono _ _ _ _ _
   | exact trivetref01_Neg.mono _ _ _
   | exact trivetref01_Of.mono _ _
   | exact trivetref01_norm.mono _ _ _
   | exact trivetref01_plus.mono _ _ _
   | exact LeO.none _
   | refine LeO.ite ?_ ?_
   | refine LeO.bind ?_ (fun _ => ?_)
theorem trivetref01_floor.mono : ∀ a0 a1 a2 a3 k, LeO (trivetref01_floor.f k a0 a1 a2 a3) (trivetref01_floor.f (k + 1) a0 a1 a2 a3) := by
 intro a0 a1 a2 a3 k
 obtain ⟨ih0, ih1, ih2⟩ := trivetref01_floor.mono_l k
 unfold trivetref01_floor.f
 repeat' first
   | (with_reducible exact ih0 _ _ _ _ _ _ _ _ _ _)
   | (with_reducible exact ih1 _ _ _ _ _ _ _ _ _ _)
   | (with_reducible exact ih2 _ _ _)
   | (with_reducible exact trivetref01_Add.mono _ _ _ _ _)
   | (with_reducible exact trivetref01_Cmp.mono _ _ _ _ _)
   | (with_reducible exact trivetref01_Mul.mono _ _ _ _ _)
   | (with_reducible exact trivetref01_Neg.mono _ _ _)
   | (with_reducible exact trivetref01_Of.mono _ _)
   | (with_reducible exact trivetref01_norm.mono _ _ _)
   | (with_reducible exact trivetref01_plus.mono _ _ _)
   | (with_reducible exact LeO.refl _)
   | (with_reducible exact LeO.none _)
   | (with_reducible refine LeO.ite ?_ ?_)
   | (with_reducible refine LeO.bind ?_ (fun _ => ?_))
   | exact ih0 _ _ _ _ _ _ _ _ _ _
   | exact ih1 _ _ _ _ _ _ _ _ _ _
   | exact ih2 _ _ _
   | exact trivetref01_Add.mono _ _ _ _ _
   | exact trivetref01_Cmp.mono _ _ _ _ _
   | exact trivetref01_Mul.mono _ _ _ _ _
   | exact trivetref01_Neg.mono _ _ _
   | exact trivetref01_Of.mono _ _
   | exact trivetref01_norm.mono _ _ _
   | exact trivetref01_plus.mono _ _ _
   | exact LeO.none _
   | refine LeO.ite ?_ ?_
   | refine LeO.bind ?_ (fun _ => ?_)
set_option maxHeartbeats 8000000 in
set_option maxRecDepth 100000 in
theorem trivetref01_floor.calls (k : Nat) (A0_0 : Option Addr) (c0_0 : Nat) (l0_0 : List Int) (a0_1 : Bool) (P1_0_ : Nat → Prop) (A1_0 : Option Addr) (c1_0 : Nat) (l1_0 : List Int) (a1_1 : Bool) (r1 : List Int) (r2 : Bool) (w : World) (hr0_0 : Kd.C (Kd.int .u64) w A0_0 l0_0.length l0_0) (hc0_0 : l0_0.length ≤ c0_0) (hs1_0 : Kd.V (Kd.int .u64) 53 w w.heap.size (fun k_ => P1_0_ k_) (.slice A1_0 l1_0.length c1_0) l1_0) (h : trivetref01_floor.f k l0_0 a0_1 l1_0 a1_1 = some (r1, r2)) :
  Calls Try.prog 27 #[.agg #[.slice A0_0 l0_0.length c0_0, .bool a0_1], .agg #[.slice A1_0 l1_0.length c1_0, .bool a1_1]] w fun e w' => ∃ v0_ : Value, e = .returned (.agg #[v0_, .bool r2]) ∧ Kd.V (Kd.int .u64) 53 w' w.heap.size (fun k_ => (P1_0_ k_ ∨ w.heap.size ≤ k_)) v0_ r1 ∧ Below w.heap.size w w' := by
 have hu37 := Try.underlying37
 have HR0_0 := ka hr0_0
 have HC0_0 := ka hc0_0
 clear hr0_0 hc0_0
 have HO1_0 := ka (show Kd.V (Kd.int .u64) 53 w w.heap.size (fun k_ => (P1_0_ k_ ∨ w.heap.size ≤ k_)) (.slice A1_0 l1_0.length c1_0) l1_0 from Kd.V_mono hs1_0 (fun k_ hk => .inl hk))
 have HB := ka (Below.refl w.heap.size w)
 have H : ((trivetref01_Of.f k 2).bind fun bt547 => (trivetref01_floor.l0 k ([] : List Int) (wrap64 ((wrap64 ((l0_0.length : Int) * 16)) - 1)) l0_0 a0_1 l1_0 a1_1 ([] : List Int) false bt547.1 bt547.2)) = some (r1, r2) := h
 clear h
 replace H := Option.bind_eq_some_iff.mp H
 obtain ⟨⟨t547, t550⟩, A30, H⟩ := H
 replace H : (trivetref01_floor.l0 k ([] : List Int) (wrap64 ((wrap64 ((l0_0.length : Int) * 16)) - 1)) l0_0 a0_1 l1_0 a1_1 ([] : List Int) false t547 t550) = some (r1, r2) := H
 have A3 := ka A30
 clear A30
 have H' := ka H
 clear H
 go_enter Try.func27, Try.ntmps27
 go_wp2_with (first | ((with_reducible refine gate_dst (N := 2) rfl ?_); (try (refine gate_guard (by rfl) ?_; dsimp only)); refine kx (N := 2) (cs := #[.slice A0_0 l0_0.length c0_0, .bool a0_1]) (t := 37) ?_; intro gb543 hg w4 hbox hb; have n0_ := ka (Kd.V_below (Kd.V_elderB (kv HO1_0.out) gb543 (Nat.le_of_eq hg.symm)) hb); have n1_ := ka (below_step (kw HB.out) hb); have n2_ := ka (hbox); have n3_ := ka ((by rw [hg]; exact (below_size (kw HB.out)) : w.heap.size ≤ gb543)); have n4_ := n3_; clear HO1_0; clear HB; have HO1_0 := n0_; have HB := n1_; have BK543 := n2_; have GW543 := n3_; have GE543 := n4_; clear n0_ n1_ n2_ n3_ n4_; clear hb hbox hg) | ((with_reducible refine gate_dst (N := 3) rfl ?_); (try (refine gate_guard (by rfl) ?_; dsimp only)); refine kx (N := 3) (cs := #[.slice A1_0 l1_0.length c1_0, .bool a1_1]) (t := 37) ?_; intro gb544 hg w5 hbox hb; have n0_ := ka (Kd.V_below (Kd.V_elderB (kv HO1_0.out) gb544 (Nat.le_of_eq hg.symm)) hb); have n1_ := ka (blk_below (g := gb543) (kz BK543.out) hb); have n2_ := ka (below_step (kw HB.out) hb); have n3_ := ka (hbox); have n4_ := ka ((by rw [hg]; exact (below_size (kw HB.out)) : w.heap.size ≤ gb544)); have n5_ := n4_; have n6_ := ka ((by rw [hg]; exact Nat.ne_of_lt (blk_lt (g := gb543) (kz BK543.out)) : gb543 ≠ gb544)); have n7_ := ka n6_.out.symm; clear HO1_0; clear BK543; clear HB; have HO1_0 := n0_; have BK543 := n1_; have HB := n2_; have BK544 := n3_; have GW544 := n4_; have GE544 := n5_; have NB543_544 := n6_; have NB544_543 := n7_; clear n0_ n1_ n2_ n3_ n4_ n5_ n6_ n7_; clear hb hbox hg) | ((with_reducible refine gate_dst (N := 4) rfl ?_); (try (refine gate_guard (by rfl) ?_; dsimp only)); refine kx (N := 4) (cs := #[.slice none 0 0, .bool false]) (t := 37) ?_; intro gb545 hg w6 hbox hb; have n0_ := ka (Kd.V_below (Kd.V_elderB (kv HO1_0.out) gb545 (Nat.le_of_eq hg.symm)) hb); have n1_ := ka (blk_below (g := gb543) (kz BK543.out) hb); have n2_ := ka (blk_below (g := gb544) (kz BK544.out) hb); have n3_ := ka (below_step (kw HB.out) hb); have n4_ := ka (hbox); have n5_ := ka ((by rw [hg]; exact (below_size (kw HB.out)) : w.heap.size ≤ gb545)); have n6_ := n5_; have n7_ := ka ((by rw [hg]; exact Nat.ne_of_lt (blk_lt (g := gb543) (kz BK543.out)) : gb543 ≠ gb545)); have n8_ := ka n7_.out.symm; have n9_ := ka ((by rw [hg]; exact Nat.ne_of_lt (blk_lt (g := gb544) (kz BK544.out)) : gb544 ≠ gb545)); have n10_ := ka n9_.out.symm; clear HO1_0; clear BK543; clear BK544; clear HB; have HO1_0 := n0_; have BK543 := n1_; have BK544 := n2_; have HB := n3_; have BK545 := n4_; have GW545 := n5_; have GE545 := n6_; have NB543_545 := n7_; have NB545_543 := n8_; have NB544_545 := n9_; have NB545_544 := n10_; clear n0_ n1_ n2_ n3_ n4_ n5_ n6_ n7_ n8_ n9_ n10_; clear hb hbox hg) | ((with_reducible refine gate_dst (N := 6) rfl ?_); (try (refine gate_guard (by rfl) ?_; dsimp only)); refine kx (N := 6) (cs := #[.slice none 0 0, .bool false]) (t := 37) ?_; intro gb546 hg w7 hbox hb; have n0_ := ka (Kd.V_below (Kd.V_elderB (kv HO1_0.out) gb546 (Nat.le_of_eq hg.symm)) hb); have n1_ := ka (blk_below (g := gb543) (kz BK543.out) hb); have n2_ := ka (blk_below (g := gb544) (kz BK544.out) hb); have n3_ := ka (blk_below (g := gb545) (kz BK545.out) hb); have n4_ := ka (below_step (kw HB.out) hb); have n5_ := ka (hbox); have n6_ := ka ((by rw [hg]; exact (below_size (kw HB.out)) : w.heap.size ≤ gb546)); have n7_ := n6_; have n8_ := ka ((by rw [hg]; exact Nat.ne_of_lt (blk_lt (g := gb543) (kz BK543.out)) : gb543 ≠ gb546)); have n9_ := ka n8_.out.symm; have n10_ := ka ((by rw [hg]; exact Nat.ne_of_lt (blk_lt (g := gb544) (kz BK544.out)) : gb544 ≠ gb546)); have n11_ := ka n10_.out.symm; have n12_ := ka ((by rw [hg]; exact Nat.ne_of_lt (blk_lt (g := gb545) (kz BK545.out)) : gb545 ≠ gb546)); have n13_ := ka n12_.out.symm; clear HO1_0; clear BK543; clear BK544; clear BK545; clear HB; have HO1_0 := n0_; have BK543 := n1_; have BK544 := n2_; have BK545 := n3_; have HB := n4_; have BK546 := n5_; have GW546 := n6_; have GE546 := n7_; have NB543_546 := n8_; have NB546_543 := n9_; have NB544_546 := n10_; have NB546_544 := n11_; have NB545_546 := n12_; have NB546_545 := n13_; clear n0_ n1_ n2_ n3_ n4_ n5_ n6_ n7_ n8_ n9_ n10_ n11_ n12_ n13_; clear hb hbox hg; have hnb8 := NB546_543.out; have hnc8 := NB543_546.out; have hnb9 := NB546_544.out; have hnc9 := NB544_546.out; have hnb10 := NB546_545.out; have hnc10 := NB545_546.out; have hcz11 := blkAll2 BK546.out) | ((with_reducible refine gate_callee (f := 14) rfl ?_); refine kg (some 11) rfl rfl Try.func14 (by kernel_rfl) rfl #[.int .i64 2] rfl ?_; (with_reducible refine (trivetref01_Of.calls k 2 t547 t550 _ A3.out).mono ?_); rintro e w12 ⟨v548, rfl, ho0, hb⟩; refine ⟨_, rfl, ?_⟩; replace HO1_0 := ka (Kd.V_below (kv ((Kd.V_mono (Kd.V_far (p := ⟨gb546, 1, none⟩) (Kd.V_far (p := ⟨gb546, 0, none⟩) (Kd.V_mono HO1_0.out (fun k_ hk => (⟨hk, hk.2⟩ : _ ∧ k_ ≠ gb546))) (fun _ hk => hk.2) (.slice none 0 0)) (fun _ hk => hk.2) (.bool false)) (fun _ h_ => h_.1)))) hb); have HO549 := ka (Kd.V_lower (Kd.V_mono (ok' := fun k_ => (P1_0_ k_ ∨ w.heap.size ≤ k_) ∧ k_ ≠ gb543 ∧ k_ ≠ gb544 ∧ k_ ≠ gb545 ∧ k_ ≠ gb546) ho0 (fun k_ hk_ => ⟨(.inr (Nat.le_trans (below_size (kw HB.out)) hk_)), (Kd.freshB (g := gb543) (o := .cells #[.slice A0_0 l0_0.length c0_0, .bool a0_1] 37 (0, 0)) (by (with_reducible repeat (first | apply kb1 | apply kb2 | apply kb3 | refine kb4 ?_ NB543_546.out _)); exact BK543.out) k_ hk_), (Kd.freshB (g := gb544) (o := .cells #[.slice A1_0 l1_0.length c1_0, .bool a1_1] 37 (0, 0)) (by (with_reducible repeat (first | apply kb1 | apply kb2 | apply kb3 | refine kb4 ?_ NB544_546.out _)); exact BK544.out) k_ hk_), (Kd.freshB (g := gb545) (o := .cells #[.slice none 0 0, .bool false] 37 (0, 0)) (by (with_reducible repeat (first | apply kb1 | apply kb2 | apply kb3 | refine kb4 ?_ NB545_546.out _)); exact BK545.out) k_ hk_), (Kd.freshB (g := gb546) (o := .cells #[.slice none 0 0, .bool false] 37 (0, 0)) (by (with_reducible repeat (first | apply kb1 | apply kb2 | apply kb3 | apply blkPut2_1 | apply blkPut2_0)); exact BK546.out) k_ hk_)⟩)) (below_size (kw HB.out))); replace BK543 := ka (blk_below (g := gb543) (o := .cells #[.slice A0_0 l0_0.length c0_0, .bool a0_1] 37 (0, 0)) (by (with_reducible repeat (first | apply kb1 | apply kb2 | apply kb3 | refine kb4 ?_ NB543_546.out _)); exact BK543.out) hb); replace BK544 := ka (blk_below (g := gb544) (o := .cells #[.slice A1_0 l1_0.length c1_0, .bool a1_1] 37 (0, 0)) (by (with_reducible repeat (first | apply kb1 | apply kb2 | apply kb3 | refine kb4 ?_ NB544_546.out _)); exact BK544.out) hb); replace BK545 := ka (blk_below (g := gb545) (o := .cells #[.slice none 0 0, .bool false] 37 (0, 0)) (by (with_reducible repeat (first | apply kb1 | apply kb2 | apply kb3 | refine kb4 ?_ NB545_546.out _)); exact BK545.out) hb); replace BK546 := ka (blk_below (g := gb546) (o := .cells #[.slice none 0 0, .bool false] 37 (0, 0)) (by (with_reducible repeat (first | apply kb1 | apply kb2 | apply kb3 | apply blkPut2_1 | apply blkPut2_0)); exact BK546.out) hb); replace HB := ka (below_step (kw HB.out) hb); (try clear hb); (try clear hb2); (try clear hk); (try clear hi); (try clear ho0)) | ((with_reducible refine gate_dst (N := 7) rfl ?_); (try (refine gate_guard (by rfl) ?_; dsimp only)); refine kx (N := 7) (cs := #[.slice none 0 0, .bool false]) (t := 37) ?_; intro gb551 hg w13 hbox hb; have n0_ := ka (Kd.V_below (Kd.V_elderB (kv HO1_0.out) gb551 (Nat.le_of_eq hg.symm)) hb); have n1_ := ka (Kd.V_below (Kd.V_elderB (kv HO549.out) gb551 (Nat.le_of_eq hg.symm)) hb); have n2_ := ka (blk_below (g := gb543) (kz BK543.out) hb); have n3_ := ka (blk_below (g := gb544) (kz BK544.out) hb); have n4_ := ka (blk_below (g := gb545) (kz BK545.out) hb); have n5_ := ka (blk_below (g := gb546) (kz BK546.out) hb); have n6_ := ka (below_step (kw HB.out) hb); have n7_ := ka (hbox); have n8_ := ka ((by rw [hg]; exact (below_size (kw HB.out)) : w.heap.size ≤ gb551)); have n9_ := n8_; have n10_ := ka ((by rw [hg]; exact Nat.ne_of_lt (blk_lt (g := gb543) (kz BK543.out)) : gb543 ≠ gb551)); have n11_ := ka n10_.out.symm; have n12_ := ka ((by rw [hg]; exact Nat.ne_of_lt (blk_lt (g := gb544) (kz BK544.out)) : gb544 ≠ gb551)); have n13_ := ka n12_.out.symm; have n14_ := ka ((by rw [hg]; exact Nat.ne_of_lt (blk_lt (g := gb545) (kz BK545.out)) : gb545 ≠ gb551)); have n15_ := ka n14_.out.symm; have n16_ := ka ((by rw [hg]; exact Nat.ne_of_lt (blk_lt (g := gb546) (kz BK546.out)) : gb546 ≠ gb551)); have n17_ := ka n16_.out.symm; clear HO1_0; clear HO549; clear BK543; clear BK544; clear BK545; clear BK546; clear HB; have HO1_0 := n0_; have HO549 := n1_; have BK543 := n2_; have BK544 := n3_; have BK545 := n4_; have BK546 := n5_; have HB := n6_; have BK551 := n7_; have GW551 := n8_; have GE551 := n9_; have NB543_551 := n10_; have NB551_543 := n11_; have NB544_551 := n12_; have NB551_544 := n13_; have NB545_551 := n14_; have NB551_545 := n15_; have NB546_551 := n16_; have NB551_546 := n17_; clear n0_ n1_ n2_ n3_ n4_ n5_ n6_ n7_ n8_ n9_ n10_ n11_ n12_ n13_ n14_ n15_ n16_ n17_; clear hb hbox hg; obtain ⟨Ao14, co14, eo14⟩ := Kd.V_slice HO549.out; subst eo14; have hnb15 := NB551_543.out; have hnc15 := NB543_551.out; have hnb16 := NB551_544.out; have hnc16 := NB544_551.out; have hnb17 := NB551_545.out; have hnc17 := NB545_551.out; have hnb18 := NB551_546.out; have hnc18 := NB546_551.out; have hcz19 := blkAll2 BK551.out; have hnb20 := NB543_544.out; have hnc20 := NB544_543.out; have hnb21 := NB543_545.out; have hnc21 := NB545_543.out; have hcz22 := blkAll2 BK543.out))
 (try simp only [Act.put, List.setIfInBounds_toArray, List.set_cons_zero, List.set_cons_succ])
 go_loopg [5, 8] k (fun kq v5 v8 w' => ∃ (x5_1 : List Int) (x8_1 : Int) (x547000_1 : List Int) (x547001_1 : Bool) (u547000 : Value), v8 = .int .i64 x8_1 ∧ Aside0 (trivetref01_floor.l0 kq x5_1 x8_1 l0_0 a0_1 l1_0 a1_1 x547000_1 x547001_1 t547 t550 = some (r1, r2)) ∧ Aside0 (kq ≤ k) ∧ Aside0 (Kd.V (Kd.int .u64) 53 w' w.heap.size (fun k_ => (P1_0_ k_ ∨ w.heap.size ≤ k_) ∧ k_ ≠ gb543 ∧ k_ ≠ gb544 ∧ k_ ≠ gb545 ∧ k_ ≠ gb546 ∧ k_ ≠ gb551) v5 x5_1) ∧ Aside0 (Kd.V (Kd.int .u64) 53 w' w.heap.size (fun k_ => (P1_0_ k_ ∨ w.heap.size ≤ k_) ∧ k_ ≠ gb543 ∧ k_ ≠ gb544 ∧ k_ ≠ gb545 ∧ k_ ≠ gb546 ∧ k_ ≠ gb551) (.slice A1_0 l1_0.length c1_0) l1_0) ∧ Aside0 (Kd.V (Kd.int .u64) 53 w' w.heap.size (fun k_ => (P1_0_ k_ ∨ w.heap.size ≤ k_) ∧ k_ ≠ gb543 ∧ k_ ≠ gb544 ∧ k_ ≠ gb545 ∧ k_ ≠ gb546 ∧ k_ ≠ gb551) u547000 x547000_1) ∧ Aside0 (Kd.V (Kd.int .u64) 53 w' w.heap.size (fun k_ => (P1_0_ k_ ∨ w.heap.size ≤ k_) ∧ k_ ≠ gb543 ∧ k_ ≠ gb544 ∧ k_ ≠ gb545 ∧ k_ ≠ gb546 ∧ k_ ≠ gb551) (.slice Ao14 t547.length co14) t547) ∧ Aside0 (w'.heap[gb543]? = some (.cells #[(.slice A0_0 l0_0.length c0_0), .bool a0_1] 37 (0, 0))) ∧ Aside0 (w'.heap[gb544]? = some (.cells #[(.slice A1_0 l1_0.length c1_0), .bool a1_1] 37 (0, 0))) ∧ Aside0 (w'.heap[gb545]? = some (.cells #[(.slice none 0 0), .bool false] 37 (0, 0))) ∧ Aside0 (w'.heap[gb546]? = some (.cells #[u547000, .bool x547001_1] 37 (0, 0))) ∧ Aside0 (w'.heap[gb551]? = some (.cells #[(.slice Ao14 t547.length co14), .bool t550] 37 (0, 0))) ∧ Aside0 (Below w.heap.size w w'))
 case atStart => exact ⟨(([] : List Int)), (wrap64 ((wrap64 ((l0_0.length : Int) * 16)) - 1)), (([] : List Int)), (false), (.slice none 0 0), (by first | rfl | (simp; done) | (simp [*]; done)), H', ⟨Nat.le_refl _⟩, ⟨Kd.V_nil _ _ _ _ _⟩, ⟨kv (Kd.V_mono (Kd.V_far (p := ⟨gb551, 1, none⟩) (Kd.V_far (p := ⟨gb551, 0, none⟩) (Kd.V_mono HO1_0.out (fun k_ hk => (⟨hk, hk.2⟩ : _ ∧ k_ ≠ gb551))) (fun _ hk => hk.2) (.slice Ao14 t547.length co14)) (fun _ hk => hk.2) (.bool t550)) (fun _ hk => ⟨hk.1.1.1.1.1.1, ⟨hk.1.1.1.1.1.2, ⟨hk.1.1.1.1.2, ⟨hk.1.1.1.2, ⟨hk.1.1.2, hk.1.2⟩⟩⟩⟩⟩))⟩, ⟨Kd.V_nil _ _ _ _ _⟩, ⟨kv (Kd.V_mono (Kd.V_far (p := ⟨gb551, 1, none⟩) (Kd.V_far (p := ⟨gb551, 0, none⟩) (Kd.V_mono HO549.out (fun k_ hk => (⟨hk, hk.2⟩ : _ ∧ k_ ≠ gb551))) (fun _ hk => hk.2) (.slice Ao14 t547.length co14)) (fun _ hk => hk.2) (.bool t550)) (fun _ hk => ⟨hk.1.1.1, ⟨hk.1.1.2.1, ⟨hk.1.1.2.2.1, ⟨hk.1.1.2.2.2.1, ⟨hk.1.1.2.2.2.2, hk.1.2⟩⟩⟩⟩⟩))⟩, ⟨by (with_reducible repeat (first | apply kb1 | apply kb2 | apply kb3 | refine kb4 ?_ NB543_551.out _)); exact BK543.out⟩, ⟨by (with_reducible repeat (first | apply kb1 | apply kb2 | apply kb3 | refine kb4 ?_ NB544_551.out _)); exact BK544.out⟩, ⟨by (with_reducible repeat (first | apply kb1 | apply kb2 | apply kb3 | refine kb4 ?_ NB545_551.out _)); exact BK545.out⟩, ⟨by (with_reducible repeat (first | apply kb1 | apply kb2 | apply kb3 | refine kb4 ?_ NB546_551.out _)); exact BK546.out⟩, ⟨by (with_reducible repeat (first | apply kb1 | apply kb2 | apply kb3 | apply blkPut2_1 | apply blkPut2_0)); exact BK551.out⟩, ⟨by repeat (first | (with_reducible first | exact HB.out | apply kc1 | apply kc2 | apply kc3 | refine kc4 ?_ GE543.out | refine kc4 ?_ GE544.out | refine kc4 ?_ GE545.out | refine kc4 ?_ GE546.out | refine kc4 ?_ GE551.out) | exact HB.out)⟩⟩
 case round =>
  clear H'
  try clear c1
  try clear c2
  try clear p2
  try clear p6
  try clear c8
  try clear c9
  try clear c10
  try clear c14
  try clear c15
  try clear c16
  try clear c17
  try clear c18
  try clear c20
  try clear c21
  try clear hcz11
  try clear hcz19
  try clear hcz22
  obtain ⟨x5_1, x8_1, x547000_1, x547001_1, u547000, rfl, HA, HK1, HO_5, HO_545000, HO_547000, HO_552000, BK543, BK544, BK545, BK546, BK551, HB⟩ := hrel
  cases gk with
  | zero => exact absurd HA.out (by simp [trivetref01_floor.l0])
  | succ k1 =>
   have H := HA.out
   clear HA
   simp only [trivetref01_floor.l0] at H
   by_cases c23 : x8_1 ≥ 0
   ·rw [if_pos c23] at H
    have c23b0 : decide (0 ≤ x8_1) = true := decide_eq_true c23
    clear c23
    replace H := Option.bind_eq_some_iff.mp H
    obtain ⟨⟨t552, t555⟩, A240, H⟩ := H
    replace H : (if 0 ≤ (wrap64 (Int.tdiv x8_1 16)) then (if (wrap64 (Int.tdiv x8_1 16)) < (l0_0.length : Int) then (if 0 ≤ (Int.tmod x8_1 16) then (if (Go.bits .and .u64 (shr .u64 (rd l0_0 (wrap64 (Int.tdiv x8_1 16))) (Int.tmod x8_1 16)) 1) = 1 then ((trivetref01_Of.f k1 1).bind fun bt557 => ((trivetref01_Add.f k1 t552 t555 bt557.1 bt557.2).bind fun bt561 => (trivetref01_floor.j1 k1 x5_1 x8_1 l0_0 a0_1 l1_0 a1_1 bt561.1 bt561.2 t547 t550))) else (trivetref01_floor.j1 k1 x5_1 x8_1 l0_0 a0_1 l1_0 a1_1 t552 t555 t547 t550)) else (none)) else (none)) else (none)) = some (r1, r2) := H
    have A24 := ka A240
    clear A240
    obtain ⟨ji25, hji25⟩ : ∃ j_ : Int, (wrap64 (Int.tdiv x8_1 16)) = j_ := ⟨_, rfl⟩
    replace H : (if 0 ≤ (ji25) then (if (ji25) < (l0_0.length : Int) then (if 0 ≤ (Int.tmod x8_1 16) then (if (Go.bits .and .u64 (shr .u64 (rd l0_0 (ji25)) (Int.tmod x8_1 16)) 1) = 1 then ((trivetref01_Of.f k1 1).bind fun bt557 => ((trivetref01_Add.f k1 t552 t555 bt557.1 bt557.2).bind fun bt561 => (trivetref01_floor.j1 k1 x5_1 x8_1 l0_0 a0_1 l1_0 a1_1 bt561.1 bt561.2 t547 t550))) else (trivetref01_floor.j1 k1 x5_1 x8_1 l0_0 a0_1 l1_0 a1_1 t552 t555 t547 t550)) else (none)) else (none)) else (none)) = some (r1, r2) := by first | (rw [hji25] at H; exact H) | (simp only [hji25] at H ⊢; exact H)
    (try rw [hji25] at A24)
    have hji25w : (IntKind.i64.wrap (Int.tdiv x8_1 16)) = ji25 := (i64_w _).trans hji25
    by_cases c26 : 0 ≤ (ji25)
    ·rw [if_pos c26] at H
     have c26b0 : decide (0 ≤ (ji25)) = true := decide_eq_true c26
     clear c26
     by_cases c27 : (ji25) < (l0_0.length : Int)
     ·rw [if_pos c27] at H
      have c27b0 : decide ((ji25) < (l0_0.length : Int)) = true := decide_eq_true c27
      clear c27
      obtain ⟨ji28, hji28⟩ : ∃ j_ : Int, (Int.tmod x8_1 16) = j_ := ⟨_, rfl⟩
      replace H : (if 0 ≤ (ji28) then (if (Go.bits .and .u64 (shr .u64 (rd l0_0 (ji25)) (ji28)) 1) = 1 then ((trivetref01_Of.f k1 1).bind fun bt557 => ((trivetref01_Add.f k1 t552 t555 bt557.1 bt557.2).bind fun bt561 => (trivetref01_floor.j1 k1 x5_1 x8_1 l0_0 a0_1 l1_0 a1_1 bt561.1 bt561.2 t547 t550))) else (trivetref01_floor.j1 k1 x5_1 x8_1 l0_0 a0_1 l1_0 a1_1 t552 t555 t547 t550)) else (none)) = some (r1, r2) := by first | (rw [hji28] at H; exact H) | (simp only [hji28] at H ⊢; exact H)
      (try rw [hji28] at A24)
      by_cases c29 : 0 ≤ (ji28)
      ·rw [if_pos c29] at H
       have c29b0 := eq_true c29
       have c29b1 : decide (0 ≤ (ji28)) = true := decide_eq_true c29
       clear c29
       obtain ⟨ji30, hji30⟩ : ∃ j_ : Int, (shr .u64 (rd l0_0 (ji25)) (ji28)) = j_ := ⟨_, rfl⟩
       replace H : (if (Go.bits .and .u64 (ji30) 1) = 1 then ((trivetref01_Of.f k1 1).bind fun bt557 => ((trivetref01_Add.f k1 t552 t555 bt557.1 bt557.2).bind fun bt561 => (trivetref01_floor.j1 k1 x5_1 x8_1 l0_0 a0_1 l1_0 a1_1 bt561.1 bt561.2 t547 t550))) else (trivetref01_floor.j1 k1 x5_1 x8_1 l0_0 a0_1 l1_0 a1_1 t552 t555 t547 t550)) = some (r1, r2) := by first | (rw [hji30] at H; exact H) | (simp only [hji30] at H ⊢; exact H)
       (try rw [hji30] at A24)
       have hji30_ : ((rd l0_0 (ji25)) / 2 ^ min (ji28).toNat 64) = ji30 := hji30
       have hji30z : (ji28) ≤ 64 → ((rd l0_0 (ji25)) / 2 ^ (ji28).toNat) = ji30 := shr_small hji30
       have HC31 := ka H
       clear H
       have hnb32 := NB546_543.out
       have hnc32 := NB543_546.out
       have hnb33 := NB546_544.out
       have hnc33 := NB544_546.out
       have hnb34 := NB546_545.out
       have hnc34 := NB545_546.out
       have hnb35 := NB546_551.out
       have hnc35 := NB551_546.out
       have hcz36 := blkAll2 BK546.out
       have hnb37 := NB551_543.out
       have hnc37 := NB543_551.out
       have hnb38 := NB551_544.out
       have hnc38 := NB544_551.out
       have hnb39 := NB551_545.out
       have hnc39 := NB545_551.out
       have hcz40 := blkAll2 BK551.out
       obtain ⟨Ao41, co41, eo41⟩ := Kd.V_slice HO_547000.out
       subst eo41
       go_upto_if 34 with (first | ((with_reducible refine gate_callee (f := 13) rfl ?_); refine kg (some 23) rfl rfl Try.func13 (by kernel_rfl) rfl #[.agg #[.slice Ao41 x547000_1.length co41, .bool x547001_1], .agg #[.slice Ao14 t547.length co14, .bool t550]] rfl ?_; (with_reducible refine (trivetref01_Mul.calls k1 _ _ x547000_1 x547001_1 _ _ t547 t550 t552 t555 _ ?side1 ?side2 ?side3 ?side4 A24.out).mono ?_); (case side1 => repeat (first | exact (Kd.V_reads' HO_547000.out).2.2 | (with_reducible refine Kd.C_alloc ?_ _) | (with_reducible refine Kd.C_drewN ?_ _) | (with_reducible refine Kd.C_drew ?_))); (case side2 => exact (Kd.V_reads' HO_547000.out).2.1); (case side3 => repeat (first | exact (Kd.V_reads' HO_552000.out).2.2 | (with_reducible refine Kd.C_alloc ?_ _) | (with_reducible refine Kd.C_drewN ?_ _) | (with_reducible refine Kd.C_drew ?_))); (case side4 => exact (Kd.V_reads' HO_552000.out).2.1); rintro e w42 ⟨v553, rfl, ho0, hb⟩; refine ⟨_, rfl, ?_⟩; replace HO_5 := kvb HO_5 hb; replace HO_545000 := kvb HO_545000 hb; replace HO_547000 := kvb HO_547000 hb; replace HO_552000 := kvb HO_552000 hb; have HO554 := ka (Kd.V_lower (Kd.V_mono (ok' := fun k_ => (P1_0_ k_ ∨ w.heap.size ≤ k_) ∧ k_ ≠ gb543 ∧ k_ ≠ gb544 ∧ k_ ≠ gb545 ∧ k_ ≠ gb546 ∧ k_ ≠ gb551) ho0 (fun k_ hk_ => ⟨(.inr (Nat.le_trans (below_size (kw HB.out)) hk_)), (kf BK543 hk_), (kf BK544 hk_), (kf BK545 hk_), (kf BK546 hk_), (kf BK551 hk_)⟩)) (below_size (kw HB.out))); replace BK543 := kbb BK543 hb; replace BK544 := kbb BK544 hb; replace BK545 := kbb BK545 hb; replace BK546 := kbb BK546 hb; replace BK551 := kbb BK551 hb; replace HB := ka (below_step (kw HB.out) hb); (try clear hb); (try clear hb2); (try clear hk); (try clear hi); (try clear ho0); obtain ⟨Ao43, co43, eo43⟩ := Kd.V_slice HO554.out; subst eo43; have hcz44 := blkAll2 BK546.out; have hnb45 := NB543_544.out; have hnc45 := NB544_543.out; have hnb46 := NB543_545.out; have hnc46 := NB545_543.out; have hcz47 := blkAll2 BK543.out; have p556 : 0 ≤ ((ji25) : Int) := of_decide_eq_true (by first | (with_reducible assumption) | assumption); have q556 : (ji25) < (l0_0.length : Int) := of_decide_eq_true (by first | (with_reducible assumption) | assumption); obtain ⟨ad556, e556, hx556_0⟩ := Kd.at_int HR0_0.out (ji25) p556 q556; cases e556; have hn556_0 : ad556.block ≠ gb546 := Nat.ne_of_lt (Nat.lt_of_lt_of_le (by have := World.block_lt_of_cell? _ _ hx556_0; first | rwa [add_block] at this | exact this) GW546.out); have hn556_1 : ad556.block ≠ gb546 := Nat.ne_of_lt (Nat.lt_of_lt_of_le (by have := World.block_lt_of_cell? _ _ hx556_0; first | rwa [add_block] at this | exact this) GW546.out); replace hx556_0 := (HB.out.cell (World.block_lt_of_cell? w _ hx556_0)).trans hx556_0; replace hx556_0 := (cell_far (p := ⟨gb546, 0, none⟩) (by first | (rw [add_block]; exact hn556_0) | (show (Addr.add _ _).block ≠ _; rw [add_block]; exact hn556_0) | exact hn556_0) (.slice Ao43 t552.length co43)).trans hx556_0; replace hx556_0 := (cell_far (p := ⟨gb546, 1, none⟩) (by first | (rw [add_block]; exact hn556_1) | (show (Addr.add _ _).block ≠ _; rw [add_block]; exact hn556_1) | exact hn556_1) (.bool t555)).trans hx556_0; clear hn556_0; clear hn556_1; replace p556 := eq_true p556; replace q556 := eq_true q556))
       (try simp only [Act.put, List.setIfInBounds_toArray, List.set_cons_zero, List.set_cons_succ])
       go_cut [] (fun wc => ∃ (kq : Nat) (x547000_30 : List Int) (x547001_30 : Bool) (u547000 : Value), Aside0 (trivetref01_floor.j1 kq x5_1 x8_1 l0_0 a0_1 l1_0 a1_1 x547000_30 x547001_30 t547 t550 = some (r1, r2)) ∧ Aside0 (kq ≤ k1) ∧ Aside0 (Kd.V (Kd.int .u64) 53 wc w.heap.size (fun k_ => (P1_0_ k_ ∨ w.heap.size ≤ k_) ∧ k_ ≠ gb543 ∧ k_ ≠ gb544 ∧ k_ ≠ gb545 ∧ k_ ≠ gb546 ∧ k_ ≠ gb551) u5 x5_1) ∧ Aside0 (Kd.V (Kd.int .u64) 53 wc w.heap.size (fun k_ => (P1_0_ k_ ∨ w.heap.size ≤ k_) ∧ k_ ≠ gb543 ∧ k_ ≠ gb544 ∧ k_ ≠ gb545 ∧ k_ ≠ gb546 ∧ k_ ≠ gb551) (.slice A1_0 l1_0.length c1_0) l1_0) ∧ Aside0 (Kd.V (Kd.int .u64) 53 wc w.heap.size (fun k_ => (P1_0_ k_ ∨ w.heap.size ≤ k_) ∧ k_ ≠ gb543 ∧ k_ ≠ gb544 ∧ k_ ≠ gb545 ∧ k_ ≠ gb546 ∧ k_ ≠ gb551) u547000 x547000_30) ∧ Aside0 (Kd.V (Kd.int .u64) 53 wc w.heap.size (fun k_ => (P1_0_ k_ ∨ w.heap.size ≤ k_) ∧ k_ ≠ gb543 ∧ k_ ≠ gb544 ∧ k_ ≠ gb545 ∧ k_ ≠ gb546 ∧ k_ ≠ gb551) (.slice Ao14 t547.length co14) t547) ∧ Aside0 (wc.heap[gb543]? = some (.cells #[(.slice (some ad556) l0_0.length c0_0), .bool a0_1] 37 (0, 0))) ∧ Aside0 (wc.heap[gb544]? = some (.cells #[(.slice A1_0 l1_0.length c1_0), .bool a1_1] 37 (0, 0))) ∧ Aside0 (wc.heap[gb545]? = some (.cells #[(.slice none 0 0), .bool false] 37 (0, 0))) ∧ Aside0 (wc.heap[gb546]? = some (.cells #[u547000, .bool x547001_30] 37 (0, 0))) ∧ Aside0 (wc.heap[gb551]? = some (.cells #[(.slice Ao14 t547.length co14), .bool t550] 37 (0, 0))) ∧ Aside0 (Below w.heap.size w wc))
       case first =>
        have H := HC31.out
        clear HC31
        by_cases c48 : (Go.bits .and .u64 (ji30) 1) = 1
        ·rw [if_pos c48] at H
         have c48b0 : ((Go.bits .and .u64 (ji30) 1) == 1) = true := beq_iff_eq.mpr c48
         have c48b1 : ((Go.bits .and .u64 (ji30) 1) != 1) = false := bne_eq_false_iff_eq.mpr c48
         clear c48
         (first | rw [c48b0] | (simp only [i64_w, i32_w]; rw [c48b0]) | skip)
         replace H := Option.bind_eq_some_iff.mp H
         obtain ⟨⟨t557, t560⟩, A490, H⟩ := H
         replace H : ((trivetref01_Add.f k1 t552 t555 t557 t560).bind fun bt561 => (trivetref01_floor.j1 k1 x5_1 x8_1 l0_0 a0_1 l1_0 a1_1 bt561.1 bt561.2 t547 t550)) = some (r1, r2) := H
         have A49 := ka A490
         clear A490
         replace H := Option.bind_eq_some_iff.mp H
         obtain ⟨⟨t561, t564⟩, A500, H⟩ := H
         replace H : (trivetref01_floor.j1 k1 x5_1 x8_1 l0_0 a0_1 l1_0 a1_1 t561 t564 t547 t550) = some (r1, r2) := H
         have A50 := ka A500
         clear A500
         have H' := ka H
         clear H
         try go_wp2
         have n0_ : Aside0 (Kd.V (Kd.int .u64) 53 ((w42.setCell ⟨gb546, 0, none⟩ (.slice Ao43 t552.length co43)).setCell ⟨gb546, 1, none⟩ (.bool t555)) w.heap.size (fun k_ => (P1_0_ k_ ∨ w.heap.size ≤ k_) ∧ k_ ≠ gb543 ∧ k_ ≠ gb544 ∧ k_ ≠ gb545 ∧ k_ ≠ gb546 ∧ k_ ≠ gb551) u5 x5_1) := ⟨kv (Kd.V_mono (Kd.V_far (p := ⟨gb546, 1, none⟩) (Kd.V_far (p := ⟨gb546, 0, none⟩) (Kd.V_mono HO_5.out (fun k_ hk => (⟨hk, hk.2.2.2.2.1⟩ : _ ∧ k_ ≠ gb546))) (fun _ hk => hk.2) (.slice Ao43 t552.length co43)) (fun _ hk => hk.2) (.bool t555)) (fun _ hk => ⟨hk.1.1, ⟨hk.1.2.1, ⟨hk.1.2.2.1, ⟨hk.1.2.2.2.1, ⟨hk.1.2.2.2.2.1, hk.1.2.2.2.2.2⟩⟩⟩⟩⟩))⟩
         have n1_ : Aside0 (Kd.V (Kd.int .u64) 53 ((w42.setCell ⟨gb546, 0, none⟩ (.slice Ao43 t552.length co43)).setCell ⟨gb546, 1, none⟩ (.bool t555)) w.heap.size (fun k_ => (P1_0_ k_ ∨ w.heap.size ≤ k_) ∧ k_ ≠ gb543 ∧ k_ ≠ gb544 ∧ k_ ≠ gb545 ∧ k_ ≠ gb546 ∧ k_ ≠ gb551) (.slice A1_0 l1_0.length c1_0) l1_0) := ⟨kv (Kd.V_mono (Kd.V_far (p := ⟨gb546, 1, none⟩) (Kd.V_far (p := ⟨gb546, 0, none⟩) (Kd.V_mono HO_545000.out (fun k_ hk => (⟨hk, hk.2.2.2.2.1⟩ : _ ∧ k_ ≠ gb546))) (fun _ hk => hk.2) (.slice Ao43 t552.length co43)) (fun _ hk => hk.2) (.bool t555)) (fun _ hk => ⟨hk.1.1, ⟨hk.1.2.1, ⟨hk.1.2.2.1, ⟨hk.1.2.2.2.1, ⟨hk.1.2.2.2.2.1, hk.1.2.2.2.2.2⟩⟩⟩⟩⟩))⟩
         have n2_ : Aside0 (Kd.V (Kd.int .u64) 53 ((w42.setCell ⟨gb546, 0, none⟩ (.slice Ao43 t552.length co43)).setCell ⟨gb546, 1, none⟩ (.bool t555)) w.heap.size (fun k_ => (P1_0_ k_ ∨ w.heap.size ≤ k_) ∧ k_ ≠ gb543 ∧ k_ ≠ gb544 ∧ k_ ≠ gb545 ∧ k_ ≠ gb546 ∧ k_ ≠ gb551) (.slice Ao41 x547000_1.length co41) x547000_1) := ⟨kv (Kd.V_mono (Kd.V_far (p := ⟨gb546, 1, none⟩) (Kd.V_far (p := ⟨gb546, 0, none⟩) (Kd.V_mono HO_547000.out (fun k_ hk => (⟨hk, hk.2.2.2.2.1⟩ : _ ∧ k_ ≠ gb546))) (fun _ hk => hk.2) (.slice Ao43 t552.length co43)) (fun _ hk => hk.2) (.bool t555)) (fun _ hk => ⟨hk.1.1, ⟨hk.1.2.1, ⟨hk.1.2.2.1, ⟨hk.1.2.2.2.1, ⟨hk.1.2.2.2.2.1, hk.1.2.2.2.2.2⟩⟩⟩⟩⟩))⟩
         have n3_ : Aside0 (Kd.V (Kd.int .u64) 53 ((w42.setCell ⟨gb546, 0, none⟩ (.slice Ao43 t552.length co43)).setCell ⟨gb546, 1, none⟩ (.bool t555)) w.heap.size (fun k_ => (P1_0_ k_ ∨ w.heap.size ≤ k_) ∧ k_ ≠ gb543 ∧ k_ ≠ gb544 ∧ k_ ≠ gb545 ∧ k_ ≠ gb546 ∧ k_ ≠ gb551) (.slice Ao14 t547.length co14) t547) := ⟨kv (Kd.V_mono (Kd.V_far (p := ⟨gb546, 1, none⟩) (Kd.V_far (p := ⟨gb546, 0, none⟩) (Kd.V_mono HO_552000.out (fun k_ hk => (⟨hk, hk.2.2.2.2.1⟩ : _ ∧ k_ ≠ gb546))) (fun _ hk => hk.2) (.slice Ao43 t552.length co43)) (fun _ hk => hk.2) (.bool t555)) (fun _ hk => ⟨hk.1.1, ⟨hk.1.2.1, ⟨hk.1.2.2.1, ⟨hk.1.2.2.2.1, ⟨hk.1.2.2.2.2.1, hk.1.2.2.2.2.2⟩⟩⟩⟩⟩))⟩
         have n4_ : Aside0 (Kd.V (Kd.int .u64) 53 ((w42.setCell ⟨gb546, 0, none⟩ (.slice Ao43 t552.length co43)).setCell ⟨gb546, 1, none⟩ (.bool t555)) w.heap.size (fun k_ => (P1_0_ k_ ∨ w.heap.size ≤ k_) ∧ k_ ≠ gb543 ∧ k_ ≠ gb544 ∧ k_ ≠ gb545 ∧ k_ ≠ gb546 ∧ k_ ≠ gb551) (.slice Ao43 t552.length co43) t552) := ⟨kv (Kd.V_mono (Kd.V_far (p := ⟨gb546, 1, none⟩) (Kd.V_far (p := ⟨gb546, 0, none⟩) (Kd.V_mono HO554.out (fun k_ hk => (⟨hk, hk.2.2.2.2.1⟩ : _ ∧ k_ ≠ gb546))) (fun _ hk => hk.2) (.slice Ao43 t552.length co43)) (fun _ hk => hk.2) (.bool t555)) (fun _ hk => ⟨hk.1.1, ⟨hk.1.2.1, ⟨hk.1.2.2.1, ⟨hk.1.2.2.2.1, ⟨hk.1.2.2.2.2.1, hk.1.2.2.2.2.2⟩⟩⟩⟩⟩))⟩
         have n5_ : Aside0 (((w42.setCell ⟨gb546, 0, none⟩ (.slice Ao43 t552.length co43)).setCell ⟨gb546, 1, none⟩ (.bool t555)).heap[gb543]? = some (.cells #[.slice (some ad556) l0_0.length c0_0, .bool a0_1] 37 (0, 0))) := ⟨by (with_reducible repeat (first | apply kb1 | apply kb2 | apply kb3 | refine kb4 ?_ NB543_546.out _)); exact BK543.out⟩
         have n6_ : Aside0 (((w42.setCell ⟨gb546, 0, none⟩ (.slice Ao43 t552.length co43)).setCell ⟨gb546, 1, none⟩ (.bool t555)).heap[gb544]? = some (.cells #[.slice A1_0 l1_0.length c1_0, .bool a1_1] 37 (0, 0))) := ⟨by (with_reducible repeat (first | apply kb1 | apply kb2 | apply kb3 | refine kb4 ?_ NB544_546.out _)); exact BK544.out⟩
         have n7_ : Aside0 (((w42.setCell ⟨gb546, 0, none⟩ (.slice Ao43 t552.length co43)).setCell ⟨gb546, 1, none⟩ (.bool t555)).heap[gb545]? = some (.cells #[.slice none 0 0, .bool false] 37 (0, 0))) := ⟨by (with_reducible repeat (first | apply kb1 | apply kb2 | apply kb3 | refine kb4 ?_ NB545_546.out _)); exact BK545.out⟩
         have n8_ : Aside0 (((w42.setCell ⟨gb546, 0, none⟩ (.slice Ao43 t552.length co43)).setCell ⟨gb546, 1, none⟩ (.bool t555)).heap[gb546]? = some (.cells #[.slice Ao43 t552.length co43, .bool t555] 37 (0, 0))) := ⟨by (with_reducible repeat (first | apply kb1 | apply kb2 | apply kb3 | apply blkPut2_1 | apply blkPut2_0)); exact BK546.out⟩
         have n9_ : Aside0 (((w42.setCell ⟨gb546, 0, none⟩ (.slice Ao43 t552.length co43)).setCell ⟨gb546, 1, none⟩ (.bool t555)).heap[gb551]? = some (.cells #[.slice Ao14 t547.length co14, .bool t550] 37 (0, 0))) := ⟨by (with_reducible repeat (first | apply kb1 | apply kb2 | apply kb3 | refine kb4 ?_ NB551_546.out _)); exact BK551.out⟩
         have n10_ : Aside0 (Below w.heap.size w ((w42.setCell ⟨gb546, 0, none⟩ (.slice Ao43 t552.length co43)).setCell ⟨gb546, 1, none⟩ (.bool t555))) := ⟨by repeat (first | (with_reducible first | exact HB.out | apply kc1 | apply kc2 | apply kc3 | refine kc4 ?_ GE543.out | refine kc4 ?_ GE544.out | refine kc4 ?_ GE545.out | refine kc4 ?_ GE546.out | refine kc4 ?_ GE551.out) | exact HB.out)⟩
         (try clear HO_5)
         (try clear HO_545000)
         (try clear HO_547000)
         (try clear HO_552000)
         (try clear HO554)
         (try clear BK543)
         (try clear BK544)
         (try clear BK545)
         (try clear BK546)
         (try clear BK551)
         (try clear HB)
         generalize ((w42.setCell ⟨gb546, 0, none⟩ (.slice Ao43 t552.length co43)).setCell ⟨gb546, 1, none⟩ (.bool t555)) = w51 at n0_ n1_ n2_ n3_ n4_ n5_ n6_ n7_ n8_ n9_ n10_ ⊢
         have HO_5 := n0_
         have HO_545000 := n1_
         have HO_547000 := n2_
         have HO_552000 := n3_
         have HO554 := n4_
         have BK543 := n5_
         have BK544 := n6_
         have BK545 := n7_
         have BK546 := n8_
         have BK551 := n9_
         have HB := n10_
         clear n0_ n1_ n2_ n3_ n4_ n5_ n6_ n7_ n8_ n9_ n10_
         replace HO_5 := ka (Kd.V_drew HO_5.out)
         replace HO_545000 := ka (Kd.V_drew HO_545000.out)
         replace HO_547000 := ka (Kd.V_drew HO_547000.out)
         replace HO_552000 := ka (Kd.V_drew HO_552000.out)
         replace HO554 := ka (Kd.V_drew HO554.out)
         replace BK543 := ka (blk_drew BK543.out)
         replace BK544 := ka (blk_drew BK544.out)
         replace BK545 := ka (blk_drew BK545.out)
         replace BK546 := ka (blk_drew BK546.out)
         replace BK551 := ka (blk_drew BK551.out)
         replace HB := ka (below_drew1 HB.out)
         refine start_ (n := 4) (S := fun w' => w'.cell? ⟨gb546, 0, none⟩ = some (.slice Ao43 t552.length co43) ∧ w'.cell? ⟨gb546, 1, none⟩ = some (.bool t555)) (ds := [3]) #[false, false, false, false] (by kernel_rfl) rfl rfl ⟨(blk_cell BK546.out 0).trans rfl, (blk_cell BK546.out 1).trans rfl⟩ (fun hHeld => ?_)
         generalize w51.drew = w52 at HO_5 HO_545000 HO_547000 HO_552000 HO554 BK543 BK544 BK545 BK546 BK551 HB hHeld ⊢
         refine take_ (i := 0) (N := some 35) (v := ?_) (a' := ?_) #[true, false, false, false] rfl rfl (by kernel_rfl) (fun _ _ _ h => h) (Or.inl ⟨by rfl, ?_⟩) hHeld ?_ ?_
         rotate_left
         ·rintro w' ⟨s0, s1⟩
          go_simp
          with_reducible rfl
         rotate_left
         ·simp only [Act.put, List.setIfInBounds_toArray, List.set_cons_zero, List.set_cons_succ, i64_w, i32_w]
          rfl
         refine one_ (i := 1) (N := some 36) #[true, true, false, false] rfl rfl (by kernel_rfl) (by decide) (fun K hK => ?_)
         refine goes_ Try.func14 (by kernel_rfl) rfl #[.int .i64 1] (by rfl) rfl rfl (by (try simp only [List.map_toArray, List.map_cons, List.map_nil]); first | done | rfl | (simp only [List.length_drop, List.length_take]; rfl)) ?_
         with_reducible refine (trivetref01_Of.calls k1 1 t557 t560 _ A49.out).mono ?_
         rintro e w53 ⟨v558, rfl, ho0, hb⟩
         refine ⟨_, rfl, ?_⟩
         replace HO_5 := kvb HO_5 hb
         replace HO_545000 := kvb HO_545000 hb
         replace HO_547000 := kvb HO_547000 hb
         replace HO_552000 := kvb HO_552000 hb
         replace HO554 := kvb HO554 hb
         have HO559 := ka (Kd.V_lower (Kd.V_mono (ok' := fun k_ => (P1_0_ k_ ∨ w.heap.size ≤ k_) ∧ k_ ≠ gb543 ∧ k_ ≠ gb544 ∧ k_ ≠ gb545 ∧ k_ ≠ gb546 ∧ k_ ≠ gb551) ho0 (fun k_ hk_ => ⟨(.inr (Nat.le_trans (below_size (kw HB.out)) hk_)), (kf BK543 hk_), (kf BK544 hk_), (kf BK545 hk_), (kf BK546 hk_), (kf BK551 hk_)⟩)) (below_size (kw HB.out)))
         replace BK543 := kbb BK543 hb
         replace BK544 := kbb BK544 hb
         replace BK545 := kbb BK545 hb
         replace BK546 := kbb BK546 hb
         replace BK551 := kbb BK551 hb
         replace HB := ka (below_step (kw HB.out) hb)
         (try clear hb)
         (try clear hb2)
         (try clear hk)
         (try clear hi)
         (try clear ho0)
         obtain ⟨Ao54, co54, eo54⟩ := Kd.V_slice HO559.out
         (first | subst eo54 | (injection eo54 with f1_ f2_ f3_; have f4_ := f1_.symm; have f5_ := f3_.symm; clear f1_ f2_ f3_; subst f4_; subst f5_))
         refine hK.out _ _ ⟨(blk_cell BK546.out 0).trans rfl, (blk_cell BK546.out 1).trans rfl⟩ (fun hHeld => ?_)
         clear hK K
         refine norm_ (a' := ?_) ?_ ?_
         rotate_left
         ·show Act.put _ (some 36) _ = _
          simp only [Act.put, List.setIfInBounds_toArray, List.set_cons_zero, List.set_cons_succ, i64_w, i32_w]
          rfl
         refine one_ (i := 2) (N := some 37) #[true, true, true, false] rfl rfl (by kernel_rfl) (by decide) (fun K hK => ?_)
         refine goes_ Try.func28 (by kernel_rfl) rfl #[.agg #[.slice Ao43 t552.length co43, .bool t555], .agg #[.slice Ao54 t557.length co54, .bool t560]] (by rfl) rfl rfl (by (try simp only [List.map_toArray, List.map_cons, List.map_nil]); first | done | rfl | (simp only [List.length_drop, List.length_take]; rfl)) ?_
         with_reducible refine (trivetref01_Add.calls k1 _ _ t552 t555 _ _ t557 t560 t561 t564 _ ?side1 ?side2 ?side3 ?side4 A50.out).mono ?_
         (case side1 => repeat (first | exact (Kd.V_reads' HO554.out).2.2 | (with_reducible refine Kd.C_alloc ?_ _) | (with_reducible refine Kd.C_drewN ?_ _) | (with_reducible refine Kd.C_drew ?_)))
         (case side2 => exact (Kd.V_reads' HO554.out).2.1)
         (case side3 => repeat (first | exact (Kd.V_reads' HO559.out).2.2 | (with_reducible refine Kd.C_alloc ?_ _) | (with_reducible refine Kd.C_drewN ?_ _) | (with_reducible refine Kd.C_drew ?_)))
         (case side4 => exact (Kd.V_reads' HO559.out).2.1)
         rintro e w55 ⟨v562, rfl, ho0, hb⟩
         refine ⟨_, rfl, ?_⟩
         replace HO_5 := kvb HO_5 hb
         replace HO_545000 := kvb HO_545000 hb
         replace HO_547000 := kvb HO_547000 hb
         replace HO_552000 := kvb HO_552000 hb
         replace HO554 := kvb HO554 hb
         replace HO559 := kvb HO559 hb
         have HO563 := ka (Kd.V_lower (Kd.V_mono (ok' := fun k_ => (P1_0_ k_ ∨ w.heap.size ≤ k_) ∧ k_ ≠ gb543 ∧ k_ ≠ gb544 ∧ k_ ≠ gb545 ∧ k_ ≠ gb546 ∧ k_ ≠ gb551) ho0 (fun k_ hk_ => ⟨(.inr (Nat.le_trans (below_size (kw HB.out)) hk_)), (kf BK543 hk_), (kf BK544 hk_), (kf BK545 hk_), (kf BK546 hk_), (kf BK551 hk_)⟩)) (below_size (kw HB.out)))
         replace BK543 := kbb BK543 hb
         replace BK544 := kbb BK544 hb
         replace BK545 := kbb BK545 hb
         replace BK546 := kbb BK546 hb
         replace BK551 := kbb BK551 hb
         replace HB := ka (below_step (kw HB.out) hb)
         (try clear hb)
         (try clear hb2)
         (try clear hk)
         (try clear hi)
         (try clear ho0)
         obtain ⟨Ao56, co56, eo56⟩ := Kd.V_slice HO563.out
         (first | subst eo56 | (injection eo56 with f1_ f2_ f3_; have f4_ := f1_.symm; have f5_ := f3_.symm; clear f1_ f2_ f3_; subst f4_; subst f5_))
         refine hK.out _ _ ⟨(blk_cell BK546.out 0).trans rfl, (blk_cell BK546.out 1).trans rfl⟩ (fun hHeld => ?_)
         clear hK K
         refine norm_ (a' := ?_) ?_ ?_
         rotate_left
         ·show Act.put _ (some 37) _ = _
          simp only [Act.put, List.setIfInBounds_toArray, List.set_cons_zero, List.set_cons_succ, i64_w, i32_w]
          rfl
         refine last_ (i := 3) (N := none) #[true, true, true, true] rfl rfl (by kernel_rfl) (by decide) (fun K hK => ?_)
         have hs57 : w55.cell? ⟨gb546, 0, none⟩ = some (.slice Ao43 t552.length co43) := (blk_cell BK546.out 0).trans rfl
         have hfs57 := blk_frozen BK546.out 0
         have hns57_0 := NB543_546.out
         have hns57_1 := NB544_546.out
         have hns57_2 := NB545_546.out
         have hns57_4 := NB551_546.out
         have hms57_0 := NB546_543.out
         have hms57_1 := NB546_544.out
         have hms57_2 := NB546_545.out
         have hms57_4 := NB546_551.out
         have hs58 : w55.cell? ⟨gb546, 1, none⟩ = some (.bool t555) := (blk_cell BK546.out 1).trans rfl
         have hfs58 := blk_frozen BK546.out 1
         have hns58_0 := NB543_546.out
         have hns58_1 := NB544_546.out
         have hns58_2 := NB545_546.out
         have hns58_4 := NB551_546.out
         have hms58_0 := NB546_543.out
         have hms58_1 := NB546_544.out
         have hms58_2 := NB546_545.out
         have hms58_4 := NB546_551.out
         refine skip_ (w1 := ?_) (by rfl) rfl ?_ ?_
         rotate_left
         ·go_simp
          rfl
         refine hK.out _ _ ?_
         clear hK K
         refine done_ (by kernel_rfl) ?_
         try go_wp2
         go_meet
         case rel => exact ⟨_, (t561), (t564), (.slice Ao56 t561.length co56), H', ⟨by have := HK1.out; first | omega | exact Nat.le_refl _⟩, ⟨kv (Kd.V_mono (Kd.V_far (p := ⟨gb546, 1, none⟩) (Kd.V_far (p := ⟨gb546, 0, none⟩) (Kd.V_mono HO_5.out (fun k_ hk => (⟨hk, hk.2.2.2.2.1⟩ : _ ∧ k_ ≠ gb546))) (fun _ hk => hk.2) (.slice Ao56 t561.length co56)) (fun _ hk => hk.2) (.bool t564)) (fun _ hk => ⟨hk.1.1, ⟨hk.1.2.1, ⟨hk.1.2.2.1, ⟨hk.1.2.2.2.1, ⟨hk.1.2.2.2.2.1, hk.1.2.2.2.2.2⟩⟩⟩⟩⟩))⟩, ⟨kv (Kd.V_mono (Kd.V_far (p := ⟨gb546, 1, none⟩) (Kd.V_far (p := ⟨gb546, 0, none⟩) (Kd.V_mono HO_545000.out (fun k_ hk => (⟨hk, hk.2.2.2.2.1⟩ : _ ∧ k_ ≠ gb546))) (fun _ hk => hk.2) (.slice Ao56 t561.length co56)) (fun _ hk => hk.2) (.bool t564)) (fun _ hk => ⟨hk.1.1, ⟨hk.1.2.1, ⟨hk.1.2.2.1, ⟨hk.1.2.2.2.1, ⟨hk.1.2.2.2.2.1, hk.1.2.2.2.2.2⟩⟩⟩⟩⟩))⟩, ⟨kv (Kd.V_mono (Kd.V_far (p := ⟨gb546, 1, none⟩) (Kd.V_far (p := ⟨gb546, 0, none⟩) (Kd.V_mono HO563.out (fun k_ hk => (⟨hk, hk.2.2.2.2.1⟩ : _ ∧ k_ ≠ gb546))) (fun _ hk => hk.2) (.slice Ao56 t561.length co56)) (fun _ hk => hk.2) (.bool t564)) (fun _ hk => ⟨hk.1.1, ⟨hk.1.2.1, ⟨hk.1.2.2.1, ⟨hk.1.2.2.2.1, ⟨hk.1.2.2.2.2.1, hk.1.2.2.2.2.2⟩⟩⟩⟩⟩))⟩, ⟨kv (Kd.V_mono (Kd.V_far (p := ⟨gb546, 1, none⟩) (Kd.V_far (p := ⟨gb546, 0, none⟩) (Kd.V_mono HO_552000.out (fun k_ hk => (⟨hk, hk.2.2.2.2.1⟩ : _ ∧ k_ ≠ gb546))) (fun _ hk => hk.2) (.slice Ao56 t561.length co56)) (fun _ hk => hk.2) (.bool t564)) (fun _ hk => ⟨hk.1.1, ⟨hk.1.2.1, ⟨hk.1.2.2.1, ⟨hk.1.2.2.2.1, ⟨hk.1.2.2.2.2.1, hk.1.2.2.2.2.2⟩⟩⟩⟩⟩))⟩, ⟨by (with_reducible repeat (first | apply kb1 | apply kb2 | apply kb3 | refine kb4 ?_ NB543_546.out _)); exact BK543.out⟩, ⟨by (with_reducible repeat (first | apply kb1 | apply kb2 | apply kb3 | refine kb4 ?_ NB544_546.out _)); exact BK544.out⟩, ⟨by (with_reducible repeat (first | apply kb1 | apply kb2 | apply kb3 | refine kb4 ?_ NB545_546.out _)); exact BK545.out⟩, ⟨by (with_reducible repeat (first | apply kb1 | apply kb2 | apply kb3 | apply blkPut2_1 | apply blkPut2_0)); exact BK546.out⟩, ⟨by (with_reducible repeat (first | apply kb1 | apply kb2 | apply kb3 | refine kb4 ?_ NB551_546.out _)); exact BK551.out⟩, ⟨by repeat (first | (with_reducible first | exact HB.out | apply kc1 | apply kc2 | apply kc3 | refine kc4 ?_ GE543.out | refine kc4 ?_ GE544.out | refine kc4 ?_ GE545.out | refine kc4 ?_ GE546.out | refine kc4 ?_ GE551.out) | exact HB.out)⟩⟩
        ·rw [if_neg c48] at H
         have c48b0 : ((Go.bits .and .u64 (ji30) 1) == 1) = false := beq_eq_false_iff_ne.mpr c48
         have c48b1 : ((Go.bits .and .u64 (ji30) 1) != 1) = true := bne_iff_ne.mpr c48
         (first | rw [c48b0] | (simp only [i64_w, i32_w]; rw [c48b0]) | skip)
         have H' := ka H
         clear H
         go_wp2
         go_meet
         case rel => exact ⟨_, (t552), (t555), (.slice Ao43 t552.length co43), H', ⟨by have := HK1.out; first | omega | exact Nat.le_refl _⟩, ⟨kv (Kd.V_mono (Kd.V_far (p := ⟨gb546, 1, none⟩) (Kd.V_far (p := ⟨gb546, 0, none⟩) (Kd.V_mono HO_5.out (fun k_ hk => (⟨hk, hk.2.2.2.2.1⟩ : _ ∧ k_ ≠ gb546))) (fun _ hk => hk.2) (.slice Ao43 t552.length co43)) (fun _ hk => hk.2) (.bool t555)) (fun _ hk => ⟨hk.1.1, ⟨hk.1.2.1, ⟨hk.1.2.2.1, ⟨hk.1.2.2.2.1, ⟨hk.1.2.2.2.2.1, hk.1.2.2.2.2.2⟩⟩⟩⟩⟩))⟩, ⟨kv (Kd.V_mono (Kd.V_far (p := ⟨gb546, 1, none⟩) (Kd.V_far (p := ⟨gb546, 0, none⟩) (Kd.V_mono HO_545000.out (fun k_ hk => (⟨hk, hk.2.2.2.2.1⟩ : _ ∧ k_ ≠ gb546))) (fun _ hk => hk.2) (.slice Ao43 t552.length co43)) (fun _ hk => hk.2) (.bool t555)) (fun _ hk => ⟨hk.1.1, ⟨hk.1.2.1, ⟨hk.1.2.2.1, ⟨hk.1.2.2.2.1, ⟨hk.1.2.2.2.2.1, hk.1.2.2.2.2.2⟩⟩⟩⟩⟩))⟩, ⟨kv (Kd.V_mono (Kd.V_far (p := ⟨gb546, 1, none⟩) (Kd.V_far (p := ⟨gb546, 0, none⟩) (Kd.V_mono HO554.out (fun k_ hk => (⟨hk, hk.2.2.2.2.1⟩ : _ ∧ k_ ≠ gb546))) (fun _ hk => hk.2) (.slice Ao43 t552.length co43)) (fun _ hk => hk.2) (.bool t555)) (fun _ hk => ⟨hk.1.1, ⟨hk.1.2.1, ⟨hk.1.2.2.1, ⟨hk.1.2.2.2.1, ⟨hk.1.2.2.2.2.1, hk.1.2.2.2.2.2⟩⟩⟩⟩⟩))⟩, ⟨kv (Kd.V_mono (Kd.V_far (p := ⟨gb546, 1, none⟩) (Kd.V_far (p := ⟨gb546, 0, none⟩) (Kd.V_mono HO_552000.out (fun k_ hk => (⟨hk, hk.2.2.2.2.1⟩ : _ ∧ k_ ≠ gb546))) (fun _ hk => hk.2) (.slice Ao43 t552.length co43)) (fun _ hk => hk.2) (.bool t555)) (fun _ hk => ⟨hk.1.1, ⟨hk.1.2.1, ⟨hk.1.2.2.1, ⟨hk.1.2.2.2.1, ⟨hk.1.2.2.2.2.1, hk.1.2.2.2.2.2⟩⟩⟩⟩⟩))⟩, ⟨by (with_reducible repeat (first | apply kb1 | apply kb2 | apply kb3 | refine kb4 ?_ NB543_546.out _)); exact BK543.out⟩, ⟨by (with_reducible repeat (first | apply kb1 | apply kb2 | apply kb3 | refine kb4 ?_ NB544_546.out _)); exact BK544.out⟩, ⟨by (with_reducible repeat (first | apply kb1 | apply kb2 | apply kb3 | refine kb4 ?_ NB545_546.out _)); exact BK545.out⟩, ⟨by (with_reducible repeat (first | apply kb1 | apply kb2 | apply kb3 | apply blkPut2_1 | apply blkPut2_0)); exact BK546.out⟩, ⟨by (with_reducible repeat (first | apply kb1 | apply kb2 | apply kb3 | refine kb4 ?_ NB551_546.out _)); exact BK551.out⟩, ⟨by repeat (first | (with_reducible first | exact HB.out | apply kc1 | apply kc2 | apply kc3 | refine kc4 ?_ GE543.out | refine kc4 ?_ GE544.out | refine kc4 ?_ GE545.out | refine kc4 ?_ GE546.out | refine kc4 ?_ GE551.out) | exact HB.out)⟩⟩
       case rest =>
        clear HC31
        try clear c1
        try clear c2
        try clear p2
        try clear c3
        try clear c4
        try clear p5
        try clear q5
        try clear hx5
        try clear p6
        try clear c8
        try clear c9
        try clear c10
        try clear c13
        try clear c14
        try clear c15
        try clear c16
        try clear c17
        try clear c18
        try clear c20
        try clear c21
        try clear c23
        try clear c23b0
        try clear c26
        try clear c26b0
        try clear c27
        try clear c27b0
        try clear c28
        try clear c29
        try clear c29b0
        try clear c29b1
        try clear c32
        try clear c33
        try clear c34
        try clear c35
        try clear c37
        try clear c38
        try clear c39
        try clear c45
        try clear c46
        try clear c48
        try clear c48b0
        try clear c48b1
        try clear p55
        try clear q55
        try clear hx55
        try clear hcz11
        try clear hcz19
        try clear hcz22
        try clear hcz36
        try clear hcz40
        try clear hcz44
        try clear hcz47
        try clear hx556_0
        try clear p2
        try clear p556
        try clear p6
        try clear q556
        obtain ⟨kq, x547000_30, x547001_30, u547000, HA, HJ30, HO_5, HO_545000, HO_547000, HO_552000, BK543, BK544, BK545, BK546, BK551, HB⟩ := hcut
        cases kq with
        | zero => exact absurd HA.out (by simp [trivetref01_floor.j1])
        | succ kj30 =>
         have H := HA.out
         clear HA
         simp only [trivetref01_floor.j1] at H
         replace H := Option.bind_eq_some_iff.mp H
         obtain ⟨t565, A590, H⟩ := H
         replace H : ((trivetref01_norm.f kj30 t565 false).bind fun bt568 => ((trivetref01_Cmp.f kj30 x547000_30 x547001_30 l1_0 a1_1).bind fun t572 => (if t572 ≥ 0 then ((trivetref01_Neg.f kj30 l1_0 a1_1).bind fun bt573 => ((trivetref01_Add.f kj30 x547000_30 x547001_30 bt573.1 bt573.2).bind fun bt577 => ((trivetref01_plus.f kj30 bt568.1 (([1] : List Int))).bind fun t584 => (trivetref01_floor.l0 kj30 t584 (wrap64 (x8_1 - 1)) l0_0 a0_1 l1_0 a1_1 bt577.1 bt577.2 t547 t550)))) else (trivetref01_floor.l0 kj30 bt568.1 (wrap64 (x8_1 - 1)) l0_0 a0_1 l1_0 a1_1 x547000_30 x547001_30 t547 t550)))) = some (r1, r2) := H
         have A59 := ka A590
         clear A590
         replace H := Option.bind_eq_some_iff.mp H
         obtain ⟨⟨t568, t571⟩, A600, H⟩ := H
         replace H : ((trivetref01_Cmp.f kj30 x547000_30 x547001_30 l1_0 a1_1).bind fun t572 => (if t572 ≥ 0 then ((trivetref01_Neg.f kj30 l1_0 a1_1).bind fun bt573 => ((trivetref01_Add.f kj30 x547000_30 x547001_30 bt573.1 bt573.2).bind fun bt577 => ((trivetref01_plus.f kj30 t568 (([1] : List Int))).bind fun t584 => (trivetref01_floor.l0 kj30 t584 (wrap64 (x8_1 - 1)) l0_0 a0_1 l1_0 a1_1 bt577.1 bt577.2 t547 t550)))) else (trivetref01_floor.l0 kj30 t568 (wrap64 (x8_1 - 1)) l0_0 a0_1 l1_0 a1_1 x547000_30 x547001_30 t547 t550))) = some (r1, r2) := H
         have A60 := ka A600
         clear A600
         replace H := Option.bind_eq_some_iff.mp H
         obtain ⟨t572, A610, H⟩ := H
         replace H : (if t572 ≥ 0 then ((trivetref01_Neg.f kj30 l1_0 a1_1).bind fun bt573 => ((trivetref01_Add.f kj30 x547000_30 x547001_30 bt573.1 bt573.2).bind fun bt577 => ((trivetref01_plus.f kj30 t568 (([1] : List Int))).bind fun t584 => (trivetref01_floor.l0 kj30 t584 (wrap64 (x8_1 - 1)) l0_0 a0_1 l1_0 a1_1 bt577.1 bt577.2 t547 t550)))) else (trivetref01_floor.l0 kj30 t568 (wrap64 (x8_1 - 1)) l0_0 a0_1 l1_0 a1_1 x547000_30 x547001_30 t547 t550)) = some (r1, r2) := H
         have A61 := ka A610
         clear A610
         by_cases c62 : t572 ≥ 0
         ·rw [if_pos c62] at H
          have c62b0 : decide (0 ≤ t572) = true := decide_eq_true c62
          clear c62
          replace H := Option.bind_eq_some_iff.mp H
          obtain ⟨⟨t573, t576⟩, A630, H⟩ := H
          replace H : ((trivetref01_Add.f kj30 x547000_30 x547001_30 t573 t576).bind fun bt577 => ((trivetref01_plus.f kj30 t568 (([1] : List Int))).bind fun t584 => (trivetref01_floor.l0 kj30 t584 (wrap64 (x8_1 - 1)) l0_0 a0_1 l1_0 a1_1 bt577.1 bt577.2 t547 t550))) = some (r1, r2) := H
          have A63 := ka A630
          clear A630
          replace H := Option.bind_eq_some_iff.mp H
          obtain ⟨⟨t577, t580⟩, A640, H⟩ := H
          replace H : ((trivetref01_plus.f kj30 t568 (([1] : List Int))).bind fun t584 => (trivetref01_floor.l0 kj30 t584 (wrap64 (x8_1 - 1)) l0_0 a0_1 l1_0 a1_1 t577 t580 t547 t550)) = some (r1, r2) := H
          have A64 := ka A640
          clear A640
          obtain ⟨y581, hy581⟩ : ∃ y_ : List Int, y_ = (([1] : List Int)) := ⟨_, rfl⟩
          replace H : ((trivetref01_plus.f kj30 t568 y581).bind fun t584 => (trivetref01_floor.l0 kj30 t584 (wrap64 (x8_1 - 1)) l0_0 a0_1 l1_0 a1_1 t577 t580 t547 t550)) = some (r1, r2) := by first | (rw [hy581]; with_reducible exact H) | (have H2_ := (Option.bind_some _ _).symm.trans H; rw [hy581]; with_reducible exact H2_) | (have H2_ := (Option.bind_some _ _).symm.trans H; with_reducible exact H2_) | with_reducible exact H | (rw [hy581]; exact H) | exact H
          have Ny581 := ka hy581
          clear hy581
          replace H := Option.bind_eq_some_iff.mp H
          obtain ⟨t584, A650, H⟩ := H
          replace H : (trivetref01_floor.l0 kj30 t584 (wrap64 (x8_1 - 1)) l0_0 a0_1 l1_0 a1_1 t577 t580 t547 t550) = some (r1, r2) := H
          have A65 := ka A650
          clear A650
          have H' := ka H
          clear H
          obtain ⟨Ao66, co66, eo66⟩ := Kd.V_slice HO_5.out
          subst eo66
          try go_wp2_with (first | ((with_reducible refine gate_callee (f := 24) rfl ?_); refine kg (some 40) rfl rfl Try.func24 (by kernel_rfl) rfl #[.slice Ao66 x5_1.length co66, .slice Ao66 x5_1.length co66] rfl ?_; (with_reducible refine (trivetref01_plus.calls kj30 _ _ x5_1 _ _ x5_1 t565 _ ?side1 ?side2 ?side3 ?side4 A59.out).mono ?_); (case side1 => repeat (first | exact (Kd.V_reads' HO_5.out).2.2 | (with_reducible refine Kd.C_alloc ?_ _) | (with_reducible refine Kd.C_drewN ?_ _) | (with_reducible refine Kd.C_drew ?_))); (case side2 => exact (Kd.V_reads' HO_5.out).2.1); (case side3 => repeat (first | exact (Kd.V_reads' HO_5.out).2.2 | (with_reducible refine Kd.C_alloc ?_ _) | (with_reducible refine Kd.C_drewN ?_ _) | (with_reducible refine Kd.C_drew ?_))); (case side4 => exact (Kd.V_reads' HO_5.out).2.1); rintro e w67 ⟨v566, rfl, ho0, hb⟩; refine ⟨_, rfl, ?_⟩; replace HO_5 := ka (Kd.V_elder' (kv HO_5.out) (Kd.R_base ho0) hb); replace HO_545000 := ka (Kd.V_elder' (kv HO_545000.out) (Kd.R_base ho0) hb); replace HO_547000 := ka (Kd.V_elder' (kv HO_547000.out) (Kd.R_base ho0) hb); replace HO_552000 := ka (Kd.V_elder' (kv HO_552000.out) (Kd.R_base ho0) hb); have HO567 := ka (Kd.R_lower (Kd.R_newM (M := fun k_ => (w.heap.size ≤ k_)) ho0 (below_size (kw HB.out)) (fun k_ h_ => h_)) (below_size (kw HB.out))); replace BK543 := kbb BK543 hb; replace BK544 := kbb BK544 hb; replace BK545 := kbb BK545 hb; replace BK546 := kbb BK546 hb; replace BK551 := kbb BK551 hb; replace HB := ka (below_step (kw HB.out) hb); (try clear hb); (try clear hb2); (try clear hk); (try clear hi); (try clear ho0); obtain ⟨Ao68, co68, eo68⟩ := Kd.R_slice HO567.out; subst eo68) | ((with_reducible refine gate_callee (f := 25) rfl ?_); refine kg (some 41) rfl rfl Try.func25 (by kernel_rfl) rfl #[.slice Ao68 t565.length co68, .bool false] rfl ?_; (with_reducible refine (trivetref01_norm.calls kj30 (fun k_ => some k_ = (.slice Ao68 t565.length co68 : Value).ownBlock) _ _ t565 false t568 t571 _ ?side1 A60.out).mono ?_); (case side1 => exact Kd.R_V (Kd.R_tight rfl (Kd.R_types (Kd.R_types (Kd.R_types (Kd.R_types (Kd.R_types (HO567.out) BK543.out (by decide)) BK544.out (by decide)) BK545.out (by decide)) BK546.out (by decide)) BK551.out (by decide)))); rintro e w69 ⟨v569, rfl, ho0, hb⟩; refine ⟨_, rfl, ?_⟩; replace HO_5 := kvb HO_5 hb; replace HO_545000 := kvb HO_545000 hb; replace HO_547000 := kvb HO_547000 hb; replace HO_552000 := kvb HO_552000 hb; have HO570 := ka (Kd.V_lower (Kd.V_mono (ok' := fun k_ => (P1_0_ k_ ∨ w.heap.size ≤ k_) ∧ k_ ≠ gb543 ∧ k_ ≠ gb544 ∧ k_ ≠ gb545 ∧ k_ ≠ gb546 ∧ k_ ≠ gb551) ho0 (fun k_ hk_ => ⟨Or.elim hk_ (fun hs_ => (.inr (((Kd.R_types (Kd.R_types (Kd.R_types (Kd.R_types (Kd.R_types (HO567.out) BK543.out (by decide)) BK544.out (by decide)) BK545.out (by decide)) BK546.out (by decide)) BK551.out (by decide)).1 k_ hs_.symm).1.1.1.1.1.1))) (fun hn_ => (.inr (Nat.le_trans (below_size (kw HB.out)) hn_))), Or.elim hk_ (fun hs_ => ((Kd.R_types (Kd.R_types (Kd.R_types (Kd.R_types (Kd.R_types (HO567.out) BK543.out (by decide)) BK544.out (by decide)) BK545.out (by decide)) BK546.out (by decide)) BK551.out (by decide)).1 k_ hs_.symm).1.1.1.1.2) (fun hn_ => (kf BK543 hn_)), Or.elim hk_ (fun hs_ => ((Kd.R_types (Kd.R_types (Kd.R_types (Kd.R_types (Kd.R_types (HO567.out) BK543.out (by decide)) BK544.out (by decide)) BK545.out (by decide)) BK546.out (by decide)) BK551.out (by decide)).1 k_ hs_.symm).1.1.1.2) (fun hn_ => (kf BK544 hn_)), Or.elim hk_ (fun hs_ => ((Kd.R_types (Kd.R_types (Kd.R_types (Kd.R_types (Kd.R_types (HO567.out) BK543.out (by decide)) BK544.out (by decide)) BK545.out (by decide)) BK546.out (by decide)) BK551.out (by decide)).1 k_ hs_.symm).1.1.2) (fun hn_ => (kf BK545 hn_)), Or.elim hk_ (fun hs_ => ((Kd.R_types (Kd.R_types (Kd.R_types (Kd.R_types (Kd.R_types (HO567.out) BK543.out (by decide)) BK544.out (by decide)) BK545.out (by decide)) BK546.out (by decide)) BK551.out (by decide)).1 k_ hs_.symm).1.2) (fun hn_ => (kf BK546 hn_)), Or.elim hk_ (fun hs_ => ((Kd.R_types (Kd.R_types (Kd.R_types (Kd.R_types (Kd.R_types (HO567.out) BK543.out (by decide)) BK544.out (by decide)) BK545.out (by decide)) BK546.out (by decide)) BK551.out (by decide)).1 k_ hs_.symm).2) (fun hn_ => (kf BK551 hn_))⟩)) (below_size (kw HB.out))); replace HO567 := ka (Kd.R_below (kr HO567.out) hb); replace BK543 := kbb BK543 hb; replace BK544 := kbb BK544 hb; replace BK545 := kbb BK545 hb; replace BK546 := kbb BK546 hb; replace BK551 := kbb BK551 hb; replace HB := ka (below_step (kw HB.out) hb); (try clear hb); (try clear hb2); (try clear hk); (try clear hi); (try clear ho0); have hnb70 := NB546_543.out; have hnc70 := NB543_546.out; have hnb71 := NB546_544.out; have hnc71 := NB544_546.out; have hnb72 := NB546_545.out; have hnc72 := NB545_546.out; have hnb73 := NB546_551.out; have hnc73 := NB551_546.out; have hcz74 := blkAll2 BK546.out; have hnb75 := NB544_543.out; have hnc75 := NB543_544.out; have hnb76 := NB544_545.out; have hnc76 := NB545_544.out; have hnb77 := NB544_551.out; have hnc77 := NB551_544.out; have hcz78 := blkAll2 BK544.out; obtain ⟨Ao79, co79, eo79⟩ := Kd.V_slice HO_547000.out; subst eo79) | ((with_reducible refine gate_callee (f := 29) rfl ?_); refine kg (some 45) rfl rfl Try.func29 (by kernel_rfl) rfl #[.agg #[.slice Ao79 x547000_30.length co79, .bool x547001_30], .agg #[.slice A1_0 l1_0.length c1_0, .bool a1_1]] rfl ?_; (with_reducible refine (trivetref01_Cmp.calls kj30 _ _ x547000_30 x547001_30 _ _ l1_0 a1_1 t572 _ ?side1 ?side2 ?side3 ?side4 A61.out).mono ?_); (case side1 => repeat (first | exact (Kd.V_reads' HO_547000.out).2.2 | (with_reducible refine Kd.C_alloc ?_ _) | (with_reducible refine Kd.C_drewN ?_ _) | (with_reducible refine Kd.C_drew ?_))); (case side2 => exact (Kd.V_reads' HO_547000.out).2.1); (case side3 => repeat (first | exact (Kd.V_reads' HO_545000.out).2.2 | (with_reducible refine Kd.C_alloc ?_ _) | (with_reducible refine Kd.C_drewN ?_ _) | (with_reducible refine Kd.C_drew ?_))); (case side4 => exact (Kd.V_reads' HO_545000.out).2.1); rintro e w80 ⟨rfl, hb⟩; refine ⟨_, rfl, ?_⟩; replace HO_5 := kvb HO_5 hb; replace HO_545000 := kvb HO_545000 hb; replace HO_547000 := kvb HO_547000 hb; replace HO_552000 := kvb HO_552000 hb; replace HO567 := ka (Kd.R_below (kr HO567.out) hb); replace HO570 := kvb HO570 hb; replace BK543 := kbb BK543 hb; replace BK544 := kbb BK544 hb; replace BK545 := kbb BK545 hb; replace BK546 := kbb BK546 hb; replace BK551 := kbb BK551 hb; replace HB := ka (below_step (kw HB.out) hb); (try clear hb); (try clear hb2); (try clear hk); (try clear hi)))
          replace HO_5 := ka (Kd.V_drew HO_5.out)
          replace HO_545000 := ka (Kd.V_drew HO_545000.out)
          replace HO_547000 := ka (Kd.V_drew HO_547000.out)
          replace HO_552000 := ka (Kd.V_drew HO_552000.out)
          replace HO567 := ka (Kd.R_drew HO567.out)
          replace HO570 := ka (Kd.V_drew HO570.out)
          replace BK543 := ka (blk_drew BK543.out)
          replace BK544 := ka (blk_drew BK544.out)
          replace BK545 := ka (blk_drew BK545.out)
          replace BK546 := ka (blk_drew BK546.out)
          replace BK551 := ka (blk_drew BK551.out)
          replace HB := ka (below_drew1 HB.out)
          refine start_ (n := 5) (S := fun w' => w'.cell? ⟨gb546, 0, none⟩ = some (.slice Ao79 x547000_30.length co79) ∧ w'.cell? ⟨gb546, 1, none⟩ = some (.bool x547001_30) ∧ w'.cell? ⟨gb544, 0, none⟩ = some (.slice A1_0 l1_0.length c1_0) ∧ w'.cell? ⟨gb544, 1, none⟩ = some (.bool a1_1)) (ds := [4]) #[false, false, false, false, false] (by kernel_rfl) rfl rfl ⟨(blk_cell BK546.out 0).trans rfl, (blk_cell BK546.out 1).trans rfl, (blk_cell BK544.out 0).trans rfl, (blk_cell BK544.out 1).trans rfl⟩ (fun hHeld => ?_)
          generalize w80.drew = w81 at HO_5 HO_545000 HO_547000 HO_552000 HO567 HO570 BK543 BK544 BK545 BK546 BK551 HB hHeld ⊢
          refine take_ (i := 0) (N := some 47) (v := ?_) (a' := ?_) #[true, false, false, false, false] rfl rfl (by kernel_rfl) (fun _ _ _ h => h) (Or.inl ⟨by rfl, ?_⟩) hHeld ?_ ?_
          rotate_left
          ·rintro w' ⟨s0, s1, s2, s3⟩
           go_simp
           with_reducible rfl
          rotate_left
          ·simp only [Act.put, List.setIfInBounds_toArray, List.set_cons_zero, List.set_cons_succ, i64_w, i32_w]
           rfl
          refine take_ (i := 1) (N := some 48) (v := ?_) (a' := ?_) #[true, true, false, false, false] rfl rfl (by kernel_rfl) (fun _ _ _ h => h) (Or.inl ⟨by rfl, ?_⟩) hHeld ?_ ?_
          rotate_left
          ·rintro w' ⟨s0, s1, s2, s3⟩
           go_simp
           with_reducible rfl
          rotate_left
          ·simp only [Act.put, List.setIfInBounds_toArray, List.set_cons_zero, List.set_cons_succ, i64_w, i32_w]
           rfl
          refine one_ (i := 2) (N := some 49) #[true, true, true, false, false] rfl rfl (by kernel_rfl) (by decide) (fun K hK => ?_)
          refine goes_ Try.func26 (by kernel_rfl) rfl #[.agg #[.slice A1_0 l1_0.length c1_0, .bool a1_1]] (by rfl) rfl rfl (by (try simp only [List.map_toArray, List.map_cons, List.map_nil]); first | done | rfl | (simp only [List.length_drop, List.length_take]; rfl)) ?_
          with_reducible refine (trivetref01_Neg.calls kj30 (fun k_ => (((P1_0_ k_ ∨ w.heap.size ≤ k_) ∧ (k_ ≠ gb543 ∧ (k_ ≠ gb544 ∧ (k_ ≠ gb545 ∧ (k_ ≠ gb546 ∧ k_ ≠ gb551))))) ∧ some k_ ≠ (.slice Ao68 t565.length co68 : Value).ownBlock)) _ _ l1_0 a1_1 t573 t576 _ ?side1 A63.out).mono ?_
          (case side1 => exact HO_545000.out)
          rintro e w82 ⟨v574, rfl, ho0, hb⟩
          refine ⟨_, rfl, ?_⟩
          replace HO_5 := kvb HO_5 hb
          replace HO_545000 := kvb HO_545000 hb
          replace HO_547000 := kvb HO_547000 hb
          replace HO_552000 := kvb HO_552000 hb
          replace HO570 := kvb HO570 hb
          have HO575 := ka (Kd.V_lower (Kd.V_mono (ok' := fun k_ => (P1_0_ k_ ∨ w.heap.size ≤ k_) ∧ some k_ ≠ (.slice Ao68 t565.length co68 : Value).ownBlock ∧ k_ ≠ gb543 ∧ k_ ≠ gb544 ∧ k_ ≠ gb545 ∧ k_ ≠ gb546 ∧ k_ ≠ gb551) ho0 (fun k_ hk_ => ⟨Or.elim hk_ (fun hs_ => hs_.1.1) (fun hn_ => (.inr (Nat.le_trans (below_size (kw HB.out)) hn_))), Or.elim hk_ (fun hs_ => hs_.2) (fun hn_ => (Kd.fresh' (Kd.R_lt (kr HO567.out)) k_ hn_)), Or.elim hk_ (fun hs_ => hs_.1.2.1) (fun hn_ => (kf BK543 hn_)), Or.elim hk_ (fun hs_ => hs_.1.2.2.1) (fun hn_ => (kf BK544 hn_)), Or.elim hk_ (fun hs_ => hs_.1.2.2.2.1) (fun hn_ => (kf BK545 hn_)), Or.elim hk_ (fun hs_ => hs_.1.2.2.2.2.1) (fun hn_ => (kf BK546 hn_)), Or.elim hk_ (fun hs_ => hs_.1.2.2.2.2.2) (fun hn_ => (kf BK551 hn_))⟩)) (below_size (kw HB.out)))
          replace HO567 := ka (Kd.R_below (kr HO567.out) hb)
          replace BK543 := kbb BK543 hb
          replace BK544 := kbb BK544 hb
          replace BK545 := kbb BK545 hb
          replace BK546 := kbb BK546 hb
          replace BK551 := kbb BK551 hb
          replace HB := ka (below_step (kw HB.out) hb)
          (try clear hb)
          (try clear hb2)
          (try clear hk)
          (try clear hi)
          (try clear ho0)
          obtain ⟨Ao83, co83, eo83⟩ := Kd.V_slice HO575.out
          (first | subst eo83 | (injection eo83 with f1_ f2_ f3_; have f4_ := f1_.symm; have f5_ := f3_.symm; clear f1_ f2_ f3_; subst f4_; subst f5_))
          refine hK.out _ _ ⟨(blk_cell BK546.out 0).trans rfl, (blk_cell BK546.out 1).trans rfl, (blk_cell BK544.out 0).trans rfl, (blk_cell BK544.out 1).trans rfl⟩ (fun hHeld => ?_)
          clear hK K
          refine norm_ (a' := ?_) ?_ ?_
          rotate_left
          ·show Act.put _ (some 49) _ = _
           simp only [Act.put, List.setIfInBounds_toArray, List.set_cons_zero, List.set_cons_succ, i64_w, i32_w]
           rfl
          refine one_ (i := 3) (N := some 50) #[true, true, true, true, false] rfl rfl (by kernel_rfl) (by decide) (fun K hK => ?_)
          refine goes_ Try.func28 (by kernel_rfl) rfl #[.agg #[.slice Ao79 x547000_30.length co79, .bool x547001_30], .agg #[.slice Ao83 t573.length co83, .bool t576]] (by rfl) rfl rfl (by (try simp only [List.map_toArray, List.map_cons, List.map_nil]); first | done | rfl | (simp only [List.length_drop, List.length_take]; rfl)) ?_
          with_reducible refine (trivetref01_Add.calls kj30 _ _ x547000_30 x547001_30 _ _ t573 t576 t577 t580 _ ?side1 ?side2 ?side3 ?side4 A64.out).mono ?_
          (case side1 => repeat (first | exact (Kd.V_reads' HO_547000.out).2.2 | (with_reducible refine Kd.C_alloc ?_ _) | (with_reducible refine Kd.C_drewN ?_ _) | (with_reducible refine Kd.C_drew ?_)))
          (case side2 => exact (Kd.V_reads' HO_547000.out).2.1)
          (case side3 => repeat (first | exact (Kd.V_reads' HO575.out).2.2 | (with_reducible refine Kd.C_alloc ?_ _) | (with_reducible refine Kd.C_drewN ?_ _) | (with_reducible refine Kd.C_drew ?_)))
          (case side4 => exact (Kd.V_reads' HO575.out).2.1)
          rintro e w84 ⟨v578, rfl, ho0, hb⟩
          refine ⟨_, rfl, ?_⟩
          replace HO_5 := kvb HO_5 hb
          replace HO_545000 := kvb HO_545000 hb
          replace HO_547000 := kvb HO_547000 hb
          replace HO_552000 := kvb HO_552000 hb
          replace HO570 := kvb HO570 hb
          replace HO575 := kvb HO575 hb
          have HO579 := ka (Kd.V_lower (Kd.V_mono (ok' := fun k_ => (P1_0_ k_ ∨ w.heap.size ≤ k_) ∧ some k_ ≠ (.slice Ao68 t565.length co68 : Value).ownBlock ∧ k_ ≠ gb543 ∧ k_ ≠ gb544 ∧ k_ ≠ gb545 ∧ k_ ≠ gb546 ∧ k_ ≠ gb551) ho0 (fun k_ hk_ => ⟨(.inr (Nat.le_trans (below_size (kw HB.out)) hk_)), (Kd.fresh' (Kd.R_lt (kr HO567.out)) k_ hk_), (kf BK543 hk_), (kf BK544 hk_), (kf BK545 hk_), (kf BK546 hk_), (kf BK551 hk_)⟩)) (below_size (kw HB.out)))
          replace HO567 := ka (Kd.R_below (kr HO567.out) hb)
          replace BK543 := kbb BK543 hb
          replace BK544 := kbb BK544 hb
          replace BK545 := kbb BK545 hb
          replace BK546 := kbb BK546 hb
          replace BK551 := kbb BK551 hb
          replace HB := ka (below_step (kw HB.out) hb)
          (try clear hb)
          (try clear hb2)
          (try clear hk)
          (try clear hi)
          (try clear ho0)
          obtain ⟨Ao85, co85, eo85⟩ := Kd.V_slice HO579.out
          (first | subst eo85 | (injection eo85 with f1_ f2_ f3_; have f4_ := f1_.symm; have f5_ := f3_.symm; clear f1_ f2_ f3_; subst f4_; subst f5_))
          refine hK.out _ _ ⟨(blk_cell BK546.out 0).trans rfl, (blk_cell BK546.out 1).trans rfl, (blk_cell BK544.out 0).trans rfl, (blk_cell BK544.out 1).trans rfl⟩ (fun hHeld => ?_)
          clear hK K
          refine norm_ (a' := ?_) ?_ ?_
          rotate_left
          ·show Act.put _ (some 50) _ = _
           simp only [Act.put, List.setIfInBounds_toArray, List.set_cons_zero, List.set_cons_succ, i64_w, i32_w]
           rfl
          refine last_ (i := 4) (N := none) #[true, true, true, true, true] rfl rfl (by kernel_rfl) (by decide) (fun K hK => ?_)
          have hs86 : w84.cell? ⟨gb546, 0, none⟩ = some (.slice Ao79 x547000_30.length co79) := (blk_cell BK546.out 0).trans rfl
          have hfs86 := blk_frozen BK546.out 0
          have hns86_0 := NB543_546.out
          have hns86_1 := NB544_546.out
          have hns86_2 := NB545_546.out
          have hns86_4 := NB551_546.out
          have hms86_0 := NB546_543.out
          have hms86_1 := NB546_544.out
          have hms86_2 := NB546_545.out
          have hms86_4 := NB546_551.out
          have hs87 : w84.cell? ⟨gb546, 1, none⟩ = some (.bool x547001_30) := (blk_cell BK546.out 1).trans rfl
          have hfs87 := blk_frozen BK546.out 1
          have hns87_0 := NB543_546.out
          have hns87_1 := NB544_546.out
          have hns87_2 := NB545_546.out
          have hns87_4 := NB551_546.out
          have hms87_0 := NB546_543.out
          have hms87_1 := NB546_544.out
          have hms87_2 := NB546_545.out
          have hms87_4 := NB546_551.out
          refine skip_ (w1 := ?_) (by rfl) rfl ?_ ?_
          rotate_left
          ·go_simp
           rfl
          refine hK.out _ _ ?_
          clear hK K
          refine done_ (by kernel_rfl) ?_
          try go_wp2_with (first | ((with_reducible refine gate_dst (N := 52) rfl ?_); (try (refine gate_guard (by rfl) ?_; dsimp only)); refine Kd.R_lit (Kd.int .u64) _ 53 ?hg (N := 52) ?hd (xs := ([1] : List Int)) (inner := [.int .u64 1]) (ok := fun _ => True) (okp := fun _ => True) ?hr ?hp (fun _ hk => hk) trivial (Below.refl _ _) (Nat.le_refl _) (by simp) ?_; (case hd => rfl); (case hg => rfl); (case hr => first | (go_simp; done) | (go_simp; rfl)); (case hp => exact (Reps.one (show Kd.M (Kd.int .u64) _ _ _ 1 [.int .u64 1] from rfl) (Reps.none _ _))); intro v582 w88 ho89 hb hg_ hnew_; clear hg_ hnew_; (first | rw [← Ny581.out] at ho89 | (simp only [Int.reduceToNat] at ho89; rw [← Ny581.out] at ho89)); replace HO_5 := ka (Kd.V_elder' (kv ((Kd.V_mono (Kd.V_far (p := ⟨gb546, 1, none⟩) (Kd.V_far (p := ⟨gb546, 0, none⟩) (Kd.V_mono HO_5.out (fun k_ hk => (⟨hk, hk.1.2.2.2.2.1⟩ : _ ∧ k_ ≠ gb546))) (fun _ hk => hk.2) (.slice Ao85 t577.length co85)) (fun _ hk => hk.2) (.bool t580)) (fun _ h_ => h_.1)))) (Kd.R_base ho89) hb); replace HO_545000 := ka (Kd.V_elder' (kv ((Kd.V_mono (Kd.V_far (p := ⟨gb546, 1, none⟩) (Kd.V_far (p := ⟨gb546, 0, none⟩) (Kd.V_mono HO_545000.out (fun k_ hk => (⟨hk, hk.1.2.2.2.2.1⟩ : _ ∧ k_ ≠ gb546))) (fun _ hk => hk.2) (.slice Ao85 t577.length co85)) (fun _ hk => hk.2) (.bool t580)) (fun _ h_ => h_.1)))) (Kd.R_base ho89) hb); replace HO_547000 := ka (Kd.V_elder' (kv ((Kd.V_mono (Kd.V_far (p := ⟨gb546, 1, none⟩) (Kd.V_far (p := ⟨gb546, 0, none⟩) (Kd.V_mono HO_547000.out (fun k_ hk => (⟨hk, hk.1.2.2.2.2.1⟩ : _ ∧ k_ ≠ gb546))) (fun _ hk => hk.2) (.slice Ao85 t577.length co85)) (fun _ hk => hk.2) (.bool t580)) (fun _ h_ => h_.1)))) (Kd.R_base ho89) hb); replace HO_552000 := ka (Kd.V_elder' (kv ((Kd.V_mono (Kd.V_far (p := ⟨gb546, 1, none⟩) (Kd.V_far (p := ⟨gb546, 0, none⟩) (Kd.V_mono HO_552000.out (fun k_ hk => (⟨hk, hk.1.2.2.2.2.1⟩ : _ ∧ k_ ≠ gb546))) (fun _ hk => hk.2) (.slice Ao85 t577.length co85)) (fun _ hk => hk.2) (.bool t580)) (fun _ h_ => h_.1)))) (Kd.R_base ho89) hb); replace HO570 := ka (Kd.V_elder' (kv ((Kd.V_mono (Kd.V_far (p := ⟨gb546, 1, none⟩) (Kd.V_far (p := ⟨gb546, 0, none⟩) (Kd.V_mono HO570.out (fun k_ hk => (⟨hk, hk.2.2.2.2.1⟩ : _ ∧ k_ ≠ gb546))) (fun _ hk => hk.2) (.slice Ao85 t577.length co85)) (fun _ hk => hk.2) (.bool t580)) (fun _ h_ => h_.1)))) (Kd.R_base ho89) hb); replace HO575 := ka (Kd.V_elder' (kv ((Kd.V_mono (Kd.V_far (p := ⟨gb546, 1, none⟩) (Kd.V_far (p := ⟨gb546, 0, none⟩) (Kd.V_mono HO575.out (fun k_ hk => (⟨hk, hk.2.2.2.2.2.1⟩ : _ ∧ k_ ≠ gb546))) (fun _ hk => hk.2) (.slice Ao85 t577.length co85)) (fun _ hk => hk.2) (.bool t580)) (fun _ h_ => h_.1)))) (Kd.R_base ho89) hb); replace HO579 := ka (Kd.V_elder' (kv ((Kd.V_mono (Kd.V_far (p := ⟨gb546, 1, none⟩) (Kd.V_far (p := ⟨gb546, 0, none⟩) (Kd.V_mono HO579.out (fun k_ hk => (⟨hk, hk.2.2.2.2.2.1⟩ : _ ∧ k_ ≠ gb546))) (fun _ hk => hk.2) (.slice Ao85 t577.length co85)) (fun _ hk => hk.2) (.bool t580)) (fun _ h_ => h_.1)))) (Kd.R_base ho89) hb); have HO583 := ka (Kd.R_lower (Kd.R_new' (Kd.R_newM (M := fun k_ => (w.heap.size ≤ k_)) ho89 (below_size (kw HB.out)) (fun k_ h_ => h_)) (Kd.R_lt (kr ((Kd.R_mono (Kd.R_far (p := ⟨gb546, 1, none⟩) (Kd.R_far (p := ⟨gb546, 0, none⟩) (Kd.R_types HO567.out BK546.out (by decide)) (fun _ hk => hk.2) (.slice Ao85 t577.length co85)) (fun _ hk => hk.2) (.bool t580)) (fun _ h_ => h_.1)))))) (below_size (kw HB.out))); replace HO567 := ka (Kd.R_elder' (kr ((Kd.R_mono (Kd.R_far (p := ⟨gb546, 1, none⟩) (Kd.R_far (p := ⟨gb546, 0, none⟩) (Kd.R_types HO567.out BK546.out (by decide)) (fun _ hk => hk.2) (.slice Ao85 t577.length co85)) (fun _ hk => hk.2) (.bool t580)) (fun _ h_ => h_.1)))) (Kd.R_base ho89) hb); replace BK543 := ka (blk_below (g := gb543) (o := .cells #[.slice (some ad556) l0_0.length c0_0, .bool a0_1] 37 (0, 0)) (by (with_reducible repeat (first | apply kb1 | apply kb2 | apply kb3 | refine kb4 ?_ NB543_546.out _)); exact BK543.out) hb); replace BK544 := ka (blk_below (g := gb544) (o := .cells #[.slice A1_0 l1_0.length c1_0, .bool a1_1] 37 (0, 0)) (by (with_reducible repeat (first | apply kb1 | apply kb2 | apply kb3 | refine kb4 ?_ NB544_546.out _)); exact BK544.out) hb); replace BK545 := ka (blk_below (g := gb545) (o := .cells #[.slice none 0 0, .bool false] 37 (0, 0)) (by (with_reducible repeat (first | apply kb1 | apply kb2 | apply kb3 | refine kb4 ?_ NB545_546.out _)); exact BK545.out) hb); replace BK546 := ka (blk_below (g := gb546) (o := .cells #[.slice Ao85 t577.length co85, .bool t580] 37 (0, 0)) (by (with_reducible repeat (first | apply kb1 | apply kb2 | apply kb3 | apply blkPut2_1 | apply blkPut2_0)); exact BK546.out) hb); replace BK551 := ka (blk_below (g := gb551) (o := .cells #[.slice Ao14 t547.length co14, .bool t550] 37 (0, 0)) (by (with_reducible repeat (first | apply kb1 | apply kb2 | apply kb3 | refine kb4 ?_ NB551_546.out _)); exact BK551.out) hb); replace HB := ka (below_step (kw HB.out) hb); clear hb ho89; obtain ⟨Ao90, co90, eo90⟩ := Kd.V_slice HO570.out; subst eo90; obtain ⟨Ao91, co91, eo91⟩ := Kd.R_slice HO583.out; subst eo91) | ((with_reducible refine gate_callee (f := 24) rfl ?_); refine kg (some 53) rfl rfl Try.func24 (by kernel_rfl) rfl #[.slice Ao90 t568.length co90, .slice Ao91 y581.length co91] rfl ?_; (with_reducible refine (trivetref01_plus.calls kj30 _ _ t568 _ _ y581 t584 _ ?side1 ?side2 ?side3 ?side4 A65.out).mono ?_); (case side1 => repeat (first | exact (Kd.V_reads' HO570.out).2.2 | (with_reducible refine Kd.C_alloc ?_ _) | (with_reducible refine Kd.C_drewN ?_ _) | (with_reducible refine Kd.C_drew ?_))); (case side2 => exact (Kd.V_reads' HO570.out).2.1); (case side3 => repeat (first | exact (Kd.R_reads' HO583.out).2.2 | (with_reducible refine Kd.C_alloc ?_ _) | (with_reducible refine Kd.C_drewN ?_ _) | (with_reducible refine Kd.C_drew ?_))); (case side4 => exact (Kd.R_reads' HO583.out).2.1); rintro e w92 ⟨v585, rfl, ho0, hb⟩; refine ⟨_, rfl, ?_⟩; replace HO_5 := ka (Kd.V_elder' (kv HO_5.out) (Kd.R_base ho0) hb); replace HO_545000 := ka (Kd.V_elder' (kv HO_545000.out) (Kd.R_base ho0) hb); replace HO_547000 := ka (Kd.V_elder' (kv HO_547000.out) (Kd.R_base ho0) hb); replace HO_552000 := ka (Kd.V_elder' (kv HO_552000.out) (Kd.R_base ho0) hb); replace HO570 := ka (Kd.V_elder' (kv HO570.out) (Kd.R_base ho0) hb); replace HO575 := ka (Kd.V_elder' (kv HO575.out) (Kd.R_base ho0) hb); replace HO579 := ka (Kd.V_elder' (kv HO579.out) (Kd.R_base ho0) hb); have HO586 := ka (Kd.R_lower (Kd.R_new' (Kd.R_new' (Kd.R_newM (M := fun k_ => (w.heap.size ≤ k_)) ho0 (below_size (kw HB.out)) (fun k_ h_ => h_)) (Kd.R_lt (kr HO567.out))) (Kd.R_lt (kr HO583.out))) (below_size (kw HB.out))); replace HO567 := ka (Kd.R_elder' (kr HO567.out) (Kd.R_base ho0) hb); replace HO583 := ka (Kd.R_elder' (kr HO583.out) (Kd.R_base ho0) hb); replace BK543 := kbb BK543 hb; replace BK544 := kbb BK544 hb; replace BK545 := kbb BK545 hb; replace BK546 := kbb BK546 hb; replace BK551 := kbb BK551 hb; replace HB := ka (below_step (kw HB.out) hb); (try clear hb); (try clear hb2); (try clear hk); (try clear hi); (try clear ho0)))
          go_roundg kj30
          case measure => have := HK1.out; have := HJ30.out; omega
          case rel => exact ⟨(t584), (wrap64 (x8_1 - 1)), (t577), (t580), (.slice Ao85 t577.length co85), (by first | rfl | (simp; done) | (simp [*]; done)), H', ⟨by have := HK1.out; have := HJ30.out; omega⟩, ⟨(by (first | refine vMine ?_ | refine vMine0 ?_); exact Kd.R_V (kr (Kd.R_mono (Kd.R_types (Kd.R_types (Kd.R_types (Kd.R_types (Kd.R_types HO586.out BK543.out (by decide)) BK544.out (by decide)) BK545.out (by decide)) BK546.out (by decide)) BK551.out (by decide)) (fun _ hk => ⟨hk.1.1.1.1.1.1.1.1, ⟨hk.1.1.1.1.2, ⟨hk.1.1.1.2, ⟨hk.1.1.2, ⟨hk.1.2, hk.2⟩⟩⟩⟩⟩))))⟩, ⟨kv (Kd.V_mono HO_545000.out (fun _ hk => ⟨hk.1.1.1.1, ⟨hk.1.1.1.2.1, ⟨hk.1.1.1.2.2.1, ⟨hk.1.1.1.2.2.2.1, ⟨hk.1.1.1.2.2.2.2.1, hk.1.1.1.2.2.2.2.2⟩⟩⟩⟩⟩))⟩, ⟨kv (Kd.V_mono HO579.out (fun _ hk => ⟨hk.1.1.1, ⟨hk.1.1.2.2.1, ⟨hk.1.1.2.2.2.1, ⟨hk.1.1.2.2.2.2.1, ⟨hk.1.1.2.2.2.2.2.1, hk.1.1.2.2.2.2.2.2⟩⟩⟩⟩⟩))⟩, ⟨kv (Kd.V_mono HO_552000.out (fun _ hk => ⟨hk.1.1.1.1, ⟨hk.1.1.1.2.1, ⟨hk.1.1.1.2.2.1, ⟨hk.1.1.1.2.2.2.1, ⟨hk.1.1.1.2.2.2.2.1, hk.1.1.1.2.2.2.2.2⟩⟩⟩⟩⟩))⟩, ⟨by (with_reducible repeat (first | apply kb1 | apply kb2 | apply kb3)); exact BK543.out⟩, ⟨by (with_reducible repeat (first | apply kb1 | apply kb2 | apply kb3)); exact BK544.out⟩, ⟨by (with_reducible repeat (first | apply kb1 | apply kb2 | apply kb3)); exact BK545.out⟩, ⟨by (with_reducible repeat (first | apply kb1 | apply kb2 | apply kb3)); exact BK546.out⟩, ⟨by (with_reducible repeat (first | apply kb1 | apply kb2 | apply kb3)); exact BK551.out⟩, ⟨by repeat (first | (with_reducible first | exact HB.out | apply kc1 | apply kc2 | apply kc3 | refine kc4 ?_ GE543.out | refine kc4 ?_ GE544.out | refine kc4 ?_ GE545.out | refine kc4 ?_ GE546.out | refine kc4 ?_ GE551.out) | exact HB.out)⟩⟩
         ·rw [if_neg c62] at H
          have c62b0 : decide (0 ≤ t572) = false := decide_eq_false c62
          clear c62
          have H' := ka H
          clear H
          obtain ⟨Ao93, co93, eo93⟩ := Kd.V_slice HO_5.out
          subst eo93
          go_wp2_with (first | ((with_reducible refine gate_callee (f := 24) rfl ?_); refine kg (some 40) rfl rfl Try.func24 (by kernel_rfl) rfl #[.slice Ao93 x5_1.length co93, .slice Ao93 x5_1.length co93] rfl ?_; (with_reducible refine (trivetref01_plus.calls kj30 _ _ x5_1 _ _ x5_1 t565 _ ?side1 ?side2 ?side3 ?side4 A59.out).mono ?_); (case side1 => repeat (first | exact (Kd.V_reads' HO_5.out).2.2 | (with_reducible refine Kd.C_alloc ?_ _) | (with_reducible refine Kd.C_drewN ?_ _) | (with_reducible refine Kd.C_drew ?_))); (case side2 => exact (Kd.V_reads' HO_5.out).2.1); (case side3 => repeat (first | exact (Kd.V_reads' HO_5.out).2.2 | (with_reducible refine Kd.C_alloc ?_ _) | (with_reducible refine Kd.C_drewN ?_ _) | (with_reducible refine Kd.C_drew ?_))); (case side4 => exact (Kd.V_reads' HO_5.out).2.1); rintro e w94 ⟨v566, rfl, ho0, hb⟩; refine ⟨_, rfl, ?_⟩; replace HO_5 := ka (Kd.V_elder' (kv HO_5.out) (Kd.R_base ho0) hb); replace HO_545000 := ka (Kd.V_elder' (kv HO_545000.out) (Kd.R_base ho0) hb); replace HO_547000 := ka (Kd.V_elder' (kv HO_547000.out) (Kd.R_base ho0) hb); replace HO_552000 := ka (Kd.V_elder' (kv HO_552000.out) (Kd.R_base ho0) hb); have HO567 := ka (Kd.R_lower (Kd.R_newM (M := fun k_ => (w.heap.size ≤ k_)) ho0 (below_size (kw HB.out)) (fun k_ h_ => h_)) (below_size (kw HB.out))); replace BK543 := kbb BK543 hb; replace BK544 := kbb BK544 hb; replace BK545 := kbb BK545 hb; replace BK546 := kbb BK546 hb; replace BK551 := kbb BK551 hb; replace HB := ka (below_step (kw HB.out) hb); (try clear hb); (try clear hb2); (try clear hk); (try clear hi); (try clear ho0); obtain ⟨Ao95, co95, eo95⟩ := Kd.R_slice HO567.out; subst eo95) | ((with_reducible refine gate_callee (f := 25) rfl ?_); refine kg (some 41) rfl rfl Try.func25 (by kernel_rfl) rfl #[.slice Ao95 t565.length co95, .bool false] rfl ?_; (with_reducible refine (trivetref01_norm.calls kj30 (fun k_ => some k_ = (.slice Ao95 t565.length co95 : Value).ownBlock) _ _ t565 false t568 t571 _ ?side1 A60.out).mono ?_); (case side1 => exact Kd.R_V (Kd.R_tight rfl (Kd.R_types (Kd.R_types (Kd.R_types (Kd.R_types (Kd.R_types (HO567.out) BK543.out (by decide)) BK544.out (by decide)) BK545.out (by decide)) BK546.out (by decide)) BK551.out (by decide)))); rintro e w96 ⟨v569, rfl, ho0, hb⟩; refine ⟨_, rfl, ?_⟩; replace HO_5 := kvb HO_5 hb; replace HO_545000 := kvb HO_545000 hb; replace HO_547000 := kvb HO_547000 hb; replace HO_552000 := kvb HO_552000 hb; have HO570 := ka (Kd.V_lower (Kd.V_mono (ok' := fun k_ => (P1_0_ k_ ∨ w.heap.size ≤ k_) ∧ k_ ≠ gb543 ∧ k_ ≠ gb544 ∧ k_ ≠ gb545 ∧ k_ ≠ gb546 ∧ k_ ≠ gb551) ho0 (fun k_ hk_ => ⟨Or.elim hk_ (fun hs_ => (.inr (((Kd.R_types (Kd.R_types (Kd.R_types (Kd.R_types (Kd.R_types (HO567.out) BK543.out (by decide)) BK544.out (by decide)) BK545.out (by decide)) BK546.out (by decide)) BK551.out (by decide)).1 k_ hs_.symm).1.1.1.1.1.1))) (fun hn_ => (.inr (Nat.le_trans (below_size (kw HB.out)) hn_))), Or.elim hk_ (fun hs_ => ((Kd.R_types (Kd.R_types (Kd.R_types (Kd.R_types (Kd.R_types (HO567.out) BK543.out (by decide)) BK544.out (by decide)) BK545.out (by decide)) BK546.out (by decide)) BK551.out (by decide)).1 k_ hs_.symm).1.1.1.1.2) (fun hn_ => (kf BK543 hn_)), Or.elim hk_ (fun hs_ => ((Kd.R_types (Kd.R_types (Kd.R_types (Kd.R_types (Kd.R_types (HO567.out) BK543.out (by decide)) BK544.out (by decide)) BK545.out (by decide)) BK546.out (by decide)) BK551.out (by decide)).1 k_ hs_.symm).1.1.1.2) (fun hn_ => (kf BK544 hn_)), Or.elim hk_ (fun hs_ => ((Kd.R_types (Kd.R_types (Kd.R_types (Kd.R_types (Kd.R_types (HO567.out) BK543.out (by decide)) BK544.out (by decide)) BK545.out (by decide)) BK546.out (by decide)) BK551.out (by decide)).1 k_ hs_.symm).1.1.2) (fun hn_ => (kf BK545 hn_)), Or.elim hk_ (fun hs_ => ((Kd.R_types (Kd.R_types (Kd.R_types (Kd.R_types (Kd.R_types (HO567.out) BK543.out (by decide)) BK544.out (by decide)) BK545.out (by decide)) BK546.out (by decide)) BK551.out (by decide)).1 k_ hs_.symm).1.2) (fun hn_ => (kf BK546 hn_)), Or.elim hk_ (fun hs_ => ((Kd.R_types (Kd.R_types (Kd.R_types (Kd.R_types (Kd.R_types (HO567.out) BK543.out (by decide)) BK544.out (by decide)) BK545.out (by decide)) BK546.out (by decide)) BK551.out (by decide)).1 k_ hs_.symm).2) (fun hn_ => (kf BK551 hn_))⟩)) (below_size (kw HB.out))); replace HO567 := ka (Kd.R_below (kr HO567.out) hb); replace BK543 := kbb BK543 hb; replace BK544 := kbb BK544 hb; replace BK545 := kbb BK545 hb; replace BK546 := kbb BK546 hb; replace BK551 := kbb BK551 hb; replace HB := ka (below_step (kw HB.out) hb); (try clear hb); (try clear hb2); (try clear hk); (try clear hi); (try clear ho0); have hnb97 := NB546_543.out; have hnc97 := NB543_546.out; have hnb98 := NB546_544.out; have hnc98 := NB544_546.out; have hnb99 := NB546_545.out; have hnc99 := NB545_546.out; have hnb100 := NB546_551.out; have hnc100 := NB551_546.out; have hcz101 := blkAll2 BK546.out; have hnb102 := NB544_543.out; have hnc102 := NB543_544.out; have hnb103 := NB544_545.out; have hnc103 := NB545_544.out; have hnb104 := NB544_551.out; have hnc104 := NB551_544.out; have hcz105 := blkAll2 BK544.out; obtain ⟨Ao106, co106, eo106⟩ := Kd.V_slice HO_547000.out; subst eo106) | ((with_reducible refine gate_callee (f := 29) rfl ?_); refine kg (some 45) rfl rfl Try.func29 (by kernel_rfl) rfl #[.agg #[.slice Ao106 x547000_30.length co106, .bool x547001_30], .agg #[.slice A1_0 l1_0.length c1_0, .bool a1_1]] rfl ?_; (with_reducible refine (trivetref01_Cmp.calls kj30 _ _ x547000_30 x547001_30 _ _ l1_0 a1_1 t572 _ ?side1 ?side2 ?side3 ?side4 A61.out).mono ?_); (case side1 => repeat (first | exact (Kd.V_reads' HO_547000.out).2.2 | (with_reducible refine Kd.C_alloc ?_ _) | (with_reducible refine Kd.C_drewN ?_ _) | (with_reducible refine Kd.C_drew ?_))); (case side2 => exact (Kd.V_reads' HO_547000.out).2.1); (case side3 => repeat (first | exact (Kd.V_reads' HO_545000.out).2.2 | (with_reducible refine Kd.C_alloc ?_ _) | (with_reducible refine Kd.C_drewN ?_ _) | (with_reducible refine Kd.C_drew ?_))); (case side4 => exact (Kd.V_reads' HO_545000.out).2.1); rintro e w107 ⟨rfl, hb⟩; refine ⟨_, rfl, ?_⟩; replace HO_5 := kvb HO_5 hb; replace HO_545000 := kvb HO_545000 hb; replace HO_547000 := kvb HO_547000 hb; replace HO_552000 := kvb HO_552000 hb; replace HO567 := ka (Kd.R_below (kr HO567.out) hb); replace HO570 := kvb HO570 hb; replace BK543 := kbb BK543 hb; replace BK544 := kbb BK544 hb; replace BK545 := kbb BK545 hb; replace BK546 := kbb BK546 hb; replace BK551 := kbb BK551 hb; replace HB := ka (below_step (kw HB.out) hb); (try clear hb); (try clear hb2); (try clear hk); (try clear hi)))
          go_roundg kj30
          case measure => have := HK1.out; have := HJ30.out; omega
          case rel => exact ⟨(t568), (wrap64 (x8_1 - 1)), (x547000_30), (x547001_30), (.slice Ao106 x547000_30.length co106), (by first | rfl | (simp; done) | (simp [*]; done)), H', ⟨by have := HK1.out; have := HJ30.out; omega⟩, ⟨kv HO570.out⟩, ⟨kv (Kd.V_mono HO_545000.out (fun _ hk => ⟨hk.1.1, ⟨hk.1.2.1, ⟨hk.1.2.2.1, ⟨hk.1.2.2.2.1, ⟨hk.1.2.2.2.2.1, hk.1.2.2.2.2.2⟩⟩⟩⟩⟩))⟩, ⟨kv (Kd.V_mono HO_547000.out (fun _ hk => ⟨hk.1.1, ⟨hk.1.2.1, ⟨hk.1.2.2.1, ⟨hk.1.2.2.2.1, ⟨hk.1.2.2.2.2.1, hk.1.2.2.2.2.2⟩⟩⟩⟩⟩))⟩, ⟨kv (Kd.V_mono HO_552000.out (fun _ hk => ⟨hk.1.1, ⟨hk.1.2.1, ⟨hk.1.2.2.1, ⟨hk.1.2.2.2.1, ⟨hk.1.2.2.2.2.1, hk.1.2.2.2.2.2⟩⟩⟩⟩⟩))⟩, ⟨by (with_reducible repeat (first | apply kb1 | apply kb2 | apply kb3)); exact BK543.out⟩, ⟨by (with_reducible repeat (first | apply kb1 | apply kb2 | apply kb3)); exact BK544.out⟩, ⟨by (with_reducible repeat (first | apply kb1 | apply kb2 | apply kb3)); exact BK545.out⟩, ⟨by (with_reducible repeat (first | apply kb1 | apply kb2 | apply kb3)); exact BK546.out⟩, ⟨by (with_reducible repeat (first | apply kb1 | apply kb2 | apply kb3)); exact BK551.out⟩, ⟨by repeat (first | (with_reducible first | exact HB.out | apply kc1 | apply kc2 | apply kc3 | refine kc4 ?_ GE543.out | refine kc4 ?_ GE544.out | refine kc4 ?_ GE545.out | refine kc4 ?_ GE546.out | refine kc4 ?_ GE551.out) | exact HB.out)⟩⟩
      ·rw [if_neg c29] at H
       exact absurd H (by simp)
     ·rw [if_neg c27] at H
      exact absurd H (by simp)
    ·rw [if_neg c26] at H
     exact absurd H (by simp)
   ·rw [if_neg c23] at H
    have c23b0 : decide (0 ≤ x8_1) = false := decide_eq_false c23
    clear c23
    replace H := Option.bind_eq_some_iff.mp H
    obtain ⟨⟨t587, t590⟩, A1080, H⟩ := H
    replace H : (if a0_1 = true then (trivetref01_floor.j2 k1 (decide ((x547000_1.length : Int) > 0)) t587 t590) else (trivetref01_floor.j2 k1 false t587 t590)) = some (r1, r2) := H
    have A108 := ka A1080
    clear A1080
    have HC109 := ka H
    clear H
    have hnb110 := NB543_544.out
    have hnc110 := NB544_543.out
    have hnb111 := NB543_545.out
    have hnc111 := NB545_543.out
    have hnb112 := NB543_546.out
    have hnc112 := NB546_543.out
    have hnb113 := NB543_551.out
    have hnc113 := NB551_543.out
    have hcz114 := blkAll2 BK543.out
    obtain ⟨Ao115, co115, eo115⟩ := Kd.V_slice HO_5.out
    subst eo115
    go_upto_region 15 with (first | ((with_reducible refine gate_callee (f := 25) rfl ?_); refine kg (some 57) rfl rfl Try.func25 (by kernel_rfl) rfl #[.slice Ao115 x5_1.length co115, .bool a0_1] rfl ?_; (with_reducible refine (trivetref01_norm.calls k1 (fun k_ => ((P1_0_ k_ ∨ w.heap.size ≤ k_) ∧ (k_ ≠ gb543 ∧ (k_ ≠ gb544 ∧ (k_ ≠ gb545 ∧ (k_ ≠ gb546 ∧ k_ ≠ gb551)))))) _ _ x5_1 a0_1 t587 t590 _ ?side1 A108.out).mono ?_); (case side1 => exact HO_5.out); rintro e w116 ⟨v588, rfl, ho0, hb⟩; refine ⟨_, rfl, ?_⟩; replace HO_5 := kvb HO_5 hb; replace HO_545000 := kvb HO_545000 hb; replace HO_547000 := kvb HO_547000 hb; replace HO_552000 := kvb HO_552000 hb; have HO589 := ka (Kd.V_lower (Kd.V_mono (ok' := fun k_ => (P1_0_ k_ ∨ w.heap.size ≤ k_) ∧ k_ ≠ gb543 ∧ k_ ≠ gb544 ∧ k_ ≠ gb545 ∧ k_ ≠ gb546 ∧ k_ ≠ gb551) ho0 (fun k_ hk_ => ⟨Or.elim hk_ (fun hs_ => hs_.1) (fun hn_ => (.inr (Nat.le_trans (below_size (kw HB.out)) hn_))), Or.elim hk_ (fun hs_ => hs_.2.1) (fun hn_ => (kf BK543 hn_)), Or.elim hk_ (fun hs_ => hs_.2.2.1) (fun hn_ => (kf BK544 hn_)), Or.elim hk_ (fun hs_ => hs_.2.2.2.1) (fun hn_ => (kf BK545 hn_)), Or.elim hk_ (fun hs_ => hs_.2.2.2.2.1) (fun hn_ => (kf BK546 hn_)), Or.elim hk_ (fun hs_ => hs_.2.2.2.2.2) (fun hn_ => (kf BK551 hn_))⟩)) (below_size (kw HB.out))); replace BK543 := kbb BK543 hb; replace BK544 := kbb BK544 hb; replace BK545 := kbb BK545 hb; replace BK546 := kbb BK546 hb; replace BK551 := kbb BK551 hb; replace HB := ka (below_step (kw HB.out) hb); (try clear hb); (try clear hb2); (try clear hk); (try clear hi); (try clear ho0)) | ((with_reducible refine gate_dst (N := 9) rfl ?_); (try (refine gate_guard (by rfl) ?_; dsimp only)); refine kx (N := 9) (cs := #[.slice none 0 0, .bool false]) (t := 37) ?_; intro gb591 hg w117 hbox hb; have n0_ := ka (Kd.V_below (Kd.V_elderB (kv HO_5.out) gb591 (Nat.le_of_eq hg.symm)) hb); have n1_ := ka (Kd.V_below (Kd.V_elderB (kv HO_545000.out) gb591 (Nat.le_of_eq hg.symm)) hb); have n2_ := ka (Kd.V_below (Kd.V_elderB (kv HO_547000.out) gb591 (Nat.le_of_eq hg.symm)) hb); have n3_ := ka (Kd.V_below (Kd.V_elderB (kv HO_552000.out) gb591 (Nat.le_of_eq hg.symm)) hb); have n4_ := ka (Kd.V_below (Kd.V_elderB (kv HO589.out) gb591 (Nat.le_of_eq hg.symm)) hb); have n5_ := ka (blk_below (g := gb543) (kz BK543.out) hb); have n6_ := ka (blk_below (g := gb544) (kz BK544.out) hb); have n7_ := ka (blk_below (g := gb545) (kz BK545.out) hb); have n8_ := ka (blk_below (g := gb546) (kz BK546.out) hb); have n9_ := ka (blk_below (g := gb551) (kz BK551.out) hb); have n10_ := ka (below_step (kw HB.out) hb); have n11_ := ka (hbox); have n12_ := ka ((by rw [hg]; exact (below_size (kw HB.out)) : w.heap.size ≤ gb591)); have n13_ := n12_; have n14_ := ka ((by rw [hg]; exact Nat.ne_of_lt (blk_lt (g := gb543) (kz BK543.out)) : gb543 ≠ gb591)); have n15_ := ka n14_.out.symm; have n16_ := ka ((by rw [hg]; exact Nat.ne_of_lt (blk_lt (g := gb544) (kz BK544.out)) : gb544 ≠ gb591)); have n17_ := ka n16_.out.symm; have n18_ := ka ((by rw [hg]; exact Nat.ne_of_lt (blk_lt (g := gb545) (kz BK545.out)) : gb545 ≠ gb591)); have n19_ := ka n18_.out.symm; have n20_ := ka ((by rw [hg]; exact Nat.ne_of_lt (blk_lt (g := gb546) (kz BK546.out)) : gb546 ≠ gb591)); have n21_ := ka n20_.out.symm; have n22_ := ka ((by rw [hg]; exact Nat.ne_of_lt (blk_lt (g := gb551) (kz BK551.out)) : gb551 ≠ gb591)); have n23_ := ka n22_.out.symm; clear HO_5; clear HO_545000; clear HO_547000; clear HO_552000; clear HO589; clear BK543; clear BK544; clear BK545; clear BK546; clear BK551; clear HB; have HO_5 := n0_; have HO_545000 := n1_; have HO_547000 := n2_; have HO_552000 := n3_; have HO589 := n4_; have BK543 := n5_; have BK544 := n6_; have BK545 := n7_; have BK546 := n8_; have BK551 := n9_; have HB := n10_; have BK591 := n11_; have GW591 := n12_; have GE591 := n13_; have NB543_591 := n14_; have NB591_543 := n15_; have NB544_591 := n16_; have NB591_544 := n17_; have NB545_591 := n18_; have NB591_545 := n19_; have NB546_591 := n20_; have NB591_546 := n21_; have NB551_591 := n22_; have NB591_551 := n23_; clear n0_ n1_ n2_ n3_ n4_ n5_ n6_ n7_ n8_ n9_ n10_ n11_ n12_ n13_ n14_ n15_ n16_ n17_ n18_ n19_ n20_ n21_ n22_ n23_; clear hb hbox hg; obtain ⟨Ao118, co118, eo118⟩ := Kd.V_slice HO589.out; subst eo118; have hnb119 := NB591_543.out; have hnc119 := NB543_591.out; have hnb120 := NB591_544.out; have hnc120 := NB544_591.out; have hnb121 := NB591_545.out; have hnc121 := NB545_591.out; have hnb122 := NB591_546.out; have hnc122 := NB546_591.out; have hnb123 := NB591_551.out; have hnc123 := NB551_591.out; have hcz124 := blkAll2 BK591.out))
    (try simp only [Act.put, List.setIfInBounds_toArray, List.set_cons_zero, List.set_cons_succ])
    go_cut [65] (fun v65 wc => ∃ (kq : Nat) (x65_108 : Bool), v65 = .bool x65_108 ∧ Aside0 (trivetref01_floor.j2 kq x65_108 t587 t590 = some (r1, r2)) ∧ Aside0 (kq ≤ k1) ∧ Aside0 (Kd.V (Kd.int .u64) 53 wc w.heap.size (fun k_ => (P1_0_ k_ ∨ w.heap.size ≤ k_) ∧ k_ ≠ gb543 ∧ k_ ≠ gb544 ∧ k_ ≠ gb545 ∧ k_ ≠ gb546 ∧ k_ ≠ gb551 ∧ k_ ≠ gb591) (.slice A1_0 l1_0.length c1_0) l1_0) ∧ Aside0 (Kd.V (Kd.int .u64) 53 wc w.heap.size (fun k_ => (P1_0_ k_ ∨ w.heap.size ≤ k_) ∧ k_ ≠ gb543 ∧ k_ ≠ gb544 ∧ k_ ≠ gb545 ∧ k_ ≠ gb546 ∧ k_ ≠ gb551 ∧ k_ ≠ gb591) u547000 x547000_1) ∧ Aside0 (Kd.V (Kd.int .u64) 53 wc w.heap.size (fun k_ => (P1_0_ k_ ∨ w.heap.size ≤ k_) ∧ k_ ≠ gb543 ∧ k_ ≠ gb544 ∧ k_ ≠ gb545 ∧ k_ ≠ gb546 ∧ k_ ≠ gb551 ∧ k_ ≠ gb591) (.slice Ao14 t547.length co14) t547) ∧ Aside0 (Kd.V (Kd.int .u64) 53 wc w.heap.size (fun k_ => (P1_0_ k_ ∨ w.heap.size ≤ k_) ∧ k_ ≠ gb543 ∧ k_ ≠ gb544 ∧ k_ ≠ gb545 ∧ k_ ≠ gb546 ∧ k_ ≠ gb551 ∧ k_ ≠ gb591) (.slice Ao118 t587.length co118) t587) ∧ Aside0 (wc.heap[gb543]? = some (.cells #[(.slice A0_0 l0_0.length c0_0), .bool a0_1] 37 (0, 0))) ∧ Aside0 (wc.heap[gb544]? = some (.cells #[(.slice A1_0 l1_0.length c1_0), .bool a1_1] 37 (0, 0))) ∧ Aside0 (wc.heap[gb545]? = some (.cells #[(.slice none 0 0), .bool false] 37 (0, 0))) ∧ Aside0 (wc.heap[gb546]? = some (.cells #[u547000, .bool x547001_1] 37 (0, 0))) ∧ Aside0 (wc.heap[gb551]? = some (.cells #[(.slice Ao14 t547.length co14), .bool t550] 37 (0, 0))) ∧ Aside0 (wc.heap[gb591]? = some (.cells #[(.slice Ao118 t587.length co118), .bool t590] 37 (0, 0))) ∧ Aside0 (Below w.heap.size w wc))
    case first =>
     have H := HC109.out
     clear HC109
     by_cases c125 : a0_1 = true
     ·subst c125
      have H1 : (trivetref01_floor.j2 k1 (decide ((x547000_1.length : Int) > 0)) t587 t590) = some (r1, r2) := by rw [if_pos rfl] at H; exact H
      clear H
      have H := H1
      clear H1
      have H' := ka H
      clear H
      have hnb126 := NB543_544.out
      have hnc126 := NB544_543.out
      have hnb127 := NB543_545.out
      have hnc127 := NB545_543.out
      have hnb128 := NB543_546.out
      have hnc128 := NB546_543.out
      have hnb129 := NB543_551.out
      have hnc129 := NB551_543.out
      have hnb130 := NB543_591.out
      have hnc130 := NB591_543.out
      have hcz131 := blkAll2 BK543.out
      have hnb132 := NB546_544.out
      have hnc132 := NB544_546.out
      have hnb133 := NB546_545.out
      have hnc133 := NB545_546.out
      have hnb134 := NB546_551.out
      have hnc134 := NB551_546.out
      have hnb135 := NB546_591.out
      have hnc135 := NB591_546.out
      have hcz136 := blkAll2 BK546.out
      obtain ⟨Ao137, co137, eo137⟩ := Kd.V_slice HO_547000.out
      subst eo137
      go_wp2
      go_meet
      case rel => exact ⟨_, (decide ((x547000_1.length : Int) > 0)), (by first | rfl | (simp; done) | (simp [*]; done)), H', ⟨by have := HK1.out; first | omega | exact Nat.le_refl _⟩, ⟨kv (Kd.V_mono (Kd.V_far (p := ⟨gb591, 1, none⟩) (Kd.V_far (p := ⟨gb591, 0, none⟩) (Kd.V_mono HO_545000.out (fun k_ hk => (⟨hk, hk.2⟩ : _ ∧ k_ ≠ gb591))) (fun _ hk => hk.2) (.slice Ao118 t587.length co118)) (fun _ hk => hk.2) (.bool t590)) (fun _ hk => ⟨hk.1.1.1, ⟨hk.1.1.2.1, ⟨hk.1.1.2.2.1, ⟨hk.1.1.2.2.2.1, ⟨hk.1.1.2.2.2.2.1, ⟨hk.1.1.2.2.2.2.2, hk.1.2⟩⟩⟩⟩⟩⟩))⟩, ⟨kv (Kd.V_mono (Kd.V_far (p := ⟨gb591, 1, none⟩) (Kd.V_far (p := ⟨gb591, 0, none⟩) (Kd.V_mono HO_547000.out (fun k_ hk => (⟨hk, hk.2⟩ : _ ∧ k_ ≠ gb591))) (fun _ hk => hk.2) (.slice Ao118 t587.length co118)) (fun _ hk => hk.2) (.bool t590)) (fun _ hk => ⟨hk.1.1.1, ⟨hk.1.1.2.1, ⟨hk.1.1.2.2.1, ⟨hk.1.1.2.2.2.1, ⟨hk.1.1.2.2.2.2.1, ⟨hk.1.1.2.2.2.2.2, hk.1.2⟩⟩⟩⟩⟩⟩))⟩, ⟨kv (Kd.V_mono (Kd.V_far (p := ⟨gb591, 1, none⟩) (Kd.V_far (p := ⟨gb591, 0, none⟩) (Kd.V_mono HO_552000.out (fun k_ hk => (⟨hk, hk.2⟩ : _ ∧ k_ ≠ gb591))) (fun _ hk => hk.2) (.slice Ao118 t587.length co118)) (fun _ hk => hk.2) (.bool t590)) (fun _ hk => ⟨hk.1.1.1, ⟨hk.1.1.2.1, ⟨hk.1.1.2.2.1, ⟨hk.1.1.2.2.2.1, ⟨hk.1.1.2.2.2.2.1, ⟨hk.1.1.2.2.2.2.2, hk.1.2⟩⟩⟩⟩⟩⟩))⟩, ⟨kv (Kd.V_mono (Kd.V_far (p := ⟨gb591, 1, none⟩) (Kd.V_far (p := ⟨gb591, 0, none⟩) (Kd.V_mono HO589.out (fun k_ hk => (⟨hk, hk.2⟩ : _ ∧ k_ ≠ gb591))) (fun _ hk => hk.2) (.slice Ao118 t587.length co118)) (fun _ hk => hk.2) (.bool t590)) (fun _ hk => ⟨hk.1.1.1, ⟨hk.1.1.2.1, ⟨hk.1.1.2.2.1, ⟨hk.1.1.2.2.2.1, ⟨hk.1.1.2.2.2.2.1, ⟨hk.1.1.2.2.2.2.2, hk.1.2⟩⟩⟩⟩⟩⟩))⟩, ⟨by (with_reducible repeat (first | apply kb1 | apply kb2 | apply kb3 | refine kb4 ?_ NB543_591.out _)); exact BK543.out⟩, ⟨by (with_reducible repeat (first | apply kb1 | apply kb2 | apply kb3 | refine kb4 ?_ NB544_591.out _)); exact BK544.out⟩, ⟨by (with_reducible repeat (first | apply kb1 | apply kb2 | apply kb3 | refine kb4 ?_ NB545_591.out _)); exact BK545.out⟩, ⟨by (with_reducible repeat (first | apply kb1 | apply kb2 | apply kb3 | refine kb4 ?_ NB546_591.out _)); exact BK546.out⟩, ⟨by (with_reducible repeat (first | apply kb1 | apply kb2 | apply kb3 | refine kb4 ?_ NB551_591.out _)); exact BK551.out⟩, ⟨by (with_reducible repeat (first | apply kb1 | apply kb2 | apply kb3 | apply blkPut2_1 | apply blkPut2_0)); exact BK591.out⟩, ⟨by repeat (first | (with_reducible first | exact HB.out | apply kc1 | apply kc2 | apply kc3 | refine kc4 ?_ GE543.out | refine kc4 ?_ GE544.out | refine kc4 ?_ GE545.out | refine kc4 ?_ GE546.out | refine kc4 ?_ GE551.out | refine kc4 ?_ GE591.out) | exact HB.out)⟩⟩
     ·replace c125 := Bool.eq_false_iff.mpr c125
      subst c125
      have H1 : (trivetref01_floor.j2 k1 false t587 t590) = some (r1, r2) := by rw [if_neg (show ¬ (false = true) by decide)] at H; exact H
      clear H
      have H := H1
      clear H1
      have H' := ka H
      clear H
      have hnb138 := NB543_544.out
      have hnc138 := NB544_543.out
      have hnb139 := NB543_545.out
      have hnc139 := NB545_543.out
      have hnb140 := NB543_546.out
      have hnc140 := NB546_543.out
      have hnb141 := NB543_551.out
      have hnc141 := NB551_543.out
      have hnb142 := NB543_591.out
      have hnc142 := NB591_543.out
      have hcz143 := blkAll2 BK543.out
      go_wp2
      go_meet
      case rel => exact ⟨_, (false), (by first | rfl | (simp; done) | (simp [*]; done)), H', ⟨by have := HK1.out; first | omega | exact Nat.le_refl _⟩, ⟨kv (Kd.V_mono (Kd.V_far (p := ⟨gb591, 1, none⟩) (Kd.V_far (p := ⟨gb591, 0, none⟩) (Kd.V_mono HO_545000.out (fun k_ hk => (⟨hk, hk.2⟩ : _ ∧ k_ ≠ gb591))) (fun _ hk => hk.2) (.slice Ao118 t587.length co118)) (fun _ hk => hk.2) (.bool t590)) (fun _ hk => ⟨hk.1.1.1, ⟨hk.1.1.2.1, ⟨hk.1.1.2.2.1, ⟨hk.1.1.2.2.2.1, ⟨hk.1.1.2.2.2.2.1, ⟨hk.1.1.2.2.2.2.2, hk.1.2⟩⟩⟩⟩⟩⟩))⟩, ⟨kv (Kd.V_mono (Kd.V_far (p := ⟨gb591, 1, none⟩) (Kd.V_far (p := ⟨gb591, 0, none⟩) (Kd.V_mono HO_547000.out (fun k_ hk => (⟨hk, hk.2⟩ : _ ∧ k_ ≠ gb591))) (fun _ hk => hk.2) (.slice Ao118 t587.length co118)) (fun _ hk => hk.2) (.bool t590)) (fun _ hk => ⟨hk.1.1.1, ⟨hk.1.1.2.1, ⟨hk.1.1.2.2.1, ⟨hk.1.1.2.2.2.1, ⟨hk.1.1.2.2.2.2.1, ⟨hk.1.1.2.2.2.2.2, hk.1.2⟩⟩⟩⟩⟩⟩))⟩, ⟨kv (Kd.V_mono (Kd.V_far (p := ⟨gb591, 1, none⟩) (Kd.V_far (p := ⟨gb591, 0, none⟩) (Kd.V_mono HO_552000.out (fun k_ hk => (⟨hk, hk.2⟩ : _ ∧ k_ ≠ gb591))) (fun _ hk => hk.2) (.slice Ao118 t587.length co118)) (fun _ hk => hk.2) (.bool t590)) (fun _ hk => ⟨hk.1.1.1, ⟨hk.1.1.2.1, ⟨hk.1.1.2.2.1, ⟨hk.1.1.2.2.2.1, ⟨hk.1.1.2.2.2.2.1, ⟨hk.1.1.2.2.2.2.2, hk.1.2⟩⟩⟩⟩⟩⟩))⟩, ⟨kv (Kd.V_mono (Kd.V_far (p := ⟨gb591, 1, none⟩) (Kd.V_far (p := ⟨gb591, 0, none⟩) (Kd.V_mono HO589.out (fun k_ hk => (⟨hk, hk.2⟩ : _ ∧ k_ ≠ gb591))) (fun _ hk => hk.2) (.slice Ao118 t587.length co118)) (fun _ hk => hk.2) (.bool t590)) (fun _ hk => ⟨hk.1.1.1, ⟨hk.1.1.2.1, ⟨hk.1.1.2.2.1, ⟨hk.1.1.2.2.2.1, ⟨hk.1.1.2.2.2.2.1, ⟨hk.1.1.2.2.2.2.2, hk.1.2⟩⟩⟩⟩⟩⟩))⟩, ⟨by (with_reducible repeat (first | apply kb1 | apply kb2 | apply kb3 | refine kb4 ?_ NB543_591.out _)); exact BK543.out⟩, ⟨by (with_reducible repeat (first | apply kb1 | apply kb2 | apply kb3 | refine kb4 ?_ NB544_591.out _)); exact BK544.out⟩, ⟨by (with_reducible repeat (first | apply kb1 | apply kb2 | apply kb3 | refine kb4 ?_ NB545_591.out _)); exact BK545.out⟩, ⟨by (with_reducible repeat (first | apply kb1 | apply kb2 | apply kb3 | refine kb4 ?_ NB546_591.out _)); exact BK546.out⟩, ⟨by (with_reducible repeat (first | apply kb1 | apply kb2 | apply kb3 | refine kb4 ?_ NB551_591.out _)); exact BK551.out⟩, ⟨by (with_reducible repeat (first | apply kb1 | apply kb2 | apply kb3 | apply blkPut2_1 | apply blkPut2_0)); exact BK591.out⟩, ⟨by repeat (first | (with_reducible first | exact HB.out | apply kc1 | apply kc2 | apply kc3 | refine kc4 ?_ GE543.out | refine kc4 ?_ GE544.out | refine kc4 ?_ GE545.out | refine kc4 ?_ GE546.out | refine kc4 ?_ GE551.out | refine kc4 ?_ GE591.out) | exact HB.out)⟩⟩
    case rest =>
     clear HC109
     try clear c1
     try clear c2
     try clear p2
     try clear c3
     try clear c4
     try clear p5
     try clear q5
     try clear hx5
     try clear c6
     try clear p6
     try clear c7
     try clear c8
     try clear c9
     try clear c10
     try clear c11
     try clear c12
     try clear c13
     try clear c14
     try clear c15
     try clear c16
     try clear c17
     try clear c18
     try clear c20
     try clear c21
     try clear c23
     try clear c23b0
     try clear c24
     try clear c25
     try clear c26
     try clear c26b0
     try clear c27
     try clear c27b0
     try clear c28
     try clear c29
     try clear c29b0
     try clear c29b1
     try clear c32
     try clear c33
     try clear c34
     try clear c35
     try clear c37
     try clear c38
     try clear c39
     try clear c45
     try clear c46
     try clear c48
     try clear c48b0
     try clear c48b1
     try clear p55
     try clear q55
     try clear hx55
     try clear c62
     try clear c62b0
     try clear p64
     try clear c70
     try clear c71
     try clear c72
     try clear c73
     try clear c75
     try clear c76
     try clear c77
     try clear c97
     try clear c98
     try clear c99
     try clear c100
     try clear c102
     try clear c103
     try clear c104
     try clear c110
     try clear c111
     try clear c112
     try clear c113
     try clear c119
     try clear c120
     try clear c121
     try clear c122
     try clear c123
     try clear c125
     try clear c126
     try clear c127
     try clear c128
     try clear c129
     try clear c130
     try clear c132
     try clear c133
     try clear c134
     try clear c135
     try clear c138
     try clear c139
     try clear c140
     try clear c141
     try clear c142
     try clear hcz101
     try clear hcz105
     try clear hcz114
     try clear hcz11
     try clear hcz124
     try clear hcz131
     try clear hcz136
     try clear hcz143
     try clear hcz19
     try clear hcz22
     try clear hcz36
     try clear hcz40
     try clear hcz44
     try clear hcz47
     try clear hcz74
     try clear hcz78
     try clear hx556_0
     try clear p2
     try clear p5
     try clear p55
     try clear p556
     try clear p6
     try clear q5
     try clear q55
     try clear q556
     obtain ⟨kq, x65_108, rfl, HA, HJ108, HO_545000, HO_547000, HO_552000, HO_592000, BK543, BK544, BK545, BK546, BK551, BK591, HB⟩ := hcut
     cases kq with
     | zero => exact absurd HA.out (by simp [trivetref01_floor.j2])
     | succ kj108 =>
      have H := HA.out
      clear HA
      simp only [trivetref01_floor.j2] at H
      by_cases c144 : x65_108 = true
      ·subst c144
       have H1 : ((trivetref01_Of.f kj108 (-1)).bind fun bt592 => ((trivetref01_Add.f kj108 t587 t590 bt592.1 bt592.2).bind fun bt596 => (some (bt596.1, bt596.2)))) = some (r1, r2) := by rw [if_pos rfl] at H; exact H
       clear H
       have H := H1
       clear H1
       replace H := Option.bind_eq_some_iff.mp H
       obtain ⟨⟨t592, t595⟩, A1450, H⟩ := H
       replace H : ((trivetref01_Add.f kj108 t587 t590 t592 t595).bind fun bt596 => (some (bt596.1, bt596.2))) = some (r1, r2) := H
       have A145 := ka A1450
       clear A1450
       replace H := Option.bind_eq_some_iff.mp H
       obtain ⟨⟨t596, t599⟩, A1460, H⟩ := H
       replace H : (some (t596, t599)) = some (r1, r2) := H
       have A146 := ka A1460
       clear A1460
       simp only [Option.some.injEq, Prod.mk.injEq] at H
       obtain ⟨rfl, rfl⟩ := H
       try go_wp2
       replace HO_545000 := ka (Kd.V_drew HO_545000.out)
       replace HO_547000 := ka (Kd.V_drew HO_547000.out)
       replace HO_552000 := ka (Kd.V_drew HO_552000.out)
       replace HO_592000 := ka (Kd.V_drew HO_592000.out)
       replace BK543 := ka (blk_drew BK543.out)
       replace BK544 := ka (blk_drew BK544.out)
       replace BK545 := ka (blk_drew BK545.out)
       replace BK546 := ka (blk_drew BK546.out)
       replace BK551 := ka (blk_drew BK551.out)
       replace BK591 := ka (blk_drew BK591.out)
       replace HB := ka (below_drew1 HB.out)
       refine start_ (n := 4) (S := fun w' => w'.cell? ⟨gb591, 0, none⟩ = some (.slice Ao118 t587.length co118) ∧ w'.cell? ⟨gb591, 1, none⟩ = some (.bool t590)) (ds := [3]) #[false, false, false, false] (by kernel_rfl) rfl rfl ⟨(blk_cell BK591.out 0).trans rfl, (blk_cell BK591.out 1).trans rfl⟩ (fun hHeld => ?_)
       generalize wc.drew = w147 at HO_545000 HO_547000 HO_552000 HO_592000 BK543 BK544 BK545 BK546 BK551 BK591 HB hHeld ⊢
       refine take_ (i := 0) (N := some 66) (v := ?_) (a' := ?_) #[true, false, false, false] rfl rfl (by kernel_rfl) (fun _ _ _ h => h) (Or.inl ⟨by rfl, ?_⟩) hHeld ?_ ?_
       rotate_left
       ·rintro w' ⟨s0, s1⟩
        go_simp
        with_reducible rfl
       rotate_left
       ·simp only [Act.put, List.setIfInBounds_toArray, List.set_cons_zero, List.set_cons_succ, i64_w, i32_w]
        rfl
       refine one_ (i := 1) (N := some 67) #[true, true, false, false] rfl rfl (by kernel_rfl) (by decide) (fun K hK => ?_)
       refine goes_ Try.func14 (by kernel_rfl) rfl #[.int .i64 (-1)] (by rfl) rfl rfl (by (try simp only [List.map_toArray, List.map_cons, List.map_nil]); first | done | rfl | (simp only [List.length_drop, List.length_take]; rfl)) ?_
       with_reducible refine (trivetref01_Of.calls kj108 (-1) t592 t595 _ A145.out).mono ?_
       rintro e w148 ⟨v593, rfl, ho0, hb⟩
       refine ⟨_, rfl, ?_⟩
       replace HO_545000 := kvb HO_545000 hb
       replace HO_547000 := kvb HO_547000 hb
       replace HO_552000 := kvb HO_552000 hb
       replace HO_592000 := kvb HO_592000 hb
       have HO594 := ka (Kd.V_lower (Kd.V_mono (ok' := fun k_ => (P1_0_ k_ ∨ w.heap.size ≤ k_) ∧ k_ ≠ gb543 ∧ k_ ≠ gb544 ∧ k_ ≠ gb545 ∧ k_ ≠ gb546 ∧ k_ ≠ gb551 ∧ k_ ≠ gb591) ho0 (fun k_ hk_ => ⟨(.inr (Nat.le_trans (below_size (kw HB.out)) hk_)), (kf BK543 hk_), (kf BK544 hk_), (kf BK545 hk_), (kf BK546 hk_), (kf BK551 hk_), (kf BK591 hk_)⟩)) (below_size (kw HB.out)))
       replace BK543 := kbb BK543 hb
       replace BK544 := kbb BK544 hb
       replace BK545 := kbb BK545 hb
       replace BK546 := kbb BK546 hb
       replace BK551 := kbb BK551 hb
       replace BK591 := kbb BK591 hb
       replace HB := ka (below_step (kw HB.out) hb)
       (try clear hb)
       (try clear hb2)
       (try clear hk)
       (try clear hi)
       (try clear ho0)
       obtain ⟨Ao149, co149, eo149⟩ := Kd.V_slice HO594.out
       (first | subst eo149 | (injection eo149 with f1_ f2_ f3_; have f4_ := f1_.symm; have f5_ := f3_.symm; clear f1_ f2_ f3_; subst f4_; subst f5_))
       refine hK.out _ _ ⟨(blk_cell BK591.out 0).trans rfl, (blk_cell BK591.out 1).trans rfl⟩ (fun hHeld => ?_)
       clear hK K
       refine norm_ (a' := ?_) ?_ ?_
       rotate_left
       ·show Act.put _ (some 67) _ = _
        simp only [Act.put, List.setIfInBounds_toArray, List.set_cons_zero, List.set_cons_succ, i64_w, i32_w]
        rfl
       refine one_ (i := 2) (N := some 68) #[true, true, true, false] rfl rfl (by kernel_rfl) (by decide) (fun K hK => ?_)
       refine goes_ Try.func28 (by kernel_rfl) rfl #[.agg #[.slice Ao118 t587.length co118, .bool t590], .agg #[.slice Ao149 t592.length co149, .bool t595]] (by rfl) rfl rfl (by (try simp only [List.map_toArray, List.map_cons, List.map_nil]); first | done | rfl | (simp only [List.length_drop, List.length_take]; rfl)) ?_
       with_reducible refine (trivetref01_Add.calls kj108 _ _ t587 t590 _ _ t592 t595 t596 t599 _ ?side1 ?side2 ?side3 ?side4 A146.out).mono ?_
       (case side1 => repeat (first | exact (Kd.V_reads' HO_592000.out).2.2 | (with_reducible refine Kd.C_alloc ?_ _) | (with_reducible refine Kd.C_drewN ?_ _) | (with_reducible refine Kd.C_drew ?_)))
       (case side2 => exact (Kd.V_reads' HO_592000.out).2.1)
       (case side3 => repeat (first | exact (Kd.V_reads' HO594.out).2.2 | (with_reducible refine Kd.C_alloc ?_ _) | (with_reducible refine Kd.C_drewN ?_ _) | (with_reducible refine Kd.C_drew ?_)))
       (case side4 => exact (Kd.V_reads' HO594.out).2.1)
       rintro e w150 ⟨v597, rfl, ho0, hb⟩
       refine ⟨_, rfl, ?_⟩
       replace HO_545000 := kvb HO_545000 hb
       replace HO_547000 := kvb HO_547000 hb
       replace HO_552000 := kvb HO_552000 hb
       replace HO_592000 := kvb HO_592000 hb
       replace HO594 := kvb HO594 hb
       have HO598 := ka (Kd.V_lower (Kd.V_mono (ok' := fun k_ => (P1_0_ k_ ∨ w.heap.size ≤ k_) ∧ k_ ≠ gb543 ∧ k_ ≠ gb544 ∧ k_ ≠ gb545 ∧ k_ ≠ gb546 ∧ k_ ≠ gb551 ∧ k_ ≠ gb591) ho0 (fun k_ hk_ => ⟨(.inr (Nat.le_trans (below_size (kw HB.out)) hk_)), (kf BK543 hk_), (kf BK544 hk_), (kf BK545 hk_), (kf BK546 hk_), (kf BK551 hk_), (kf BK591 hk_)⟩)) (below_size (kw HB.out)))
       replace BK543 := kbb BK543 hb
       replace BK544 := kbb BK544 hb
       replace BK545 := kbb BK545 hb
       replace BK546 := kbb BK546 hb
       replace BK551 := kbb BK551 hb
       replace BK591 := kbb BK591 hb
       replace HB := ka (below_step (kw HB.out) hb)
       (try clear hb)
       (try clear hb2)
       (try clear hk)
       (try clear hi)
       (try clear ho0)
       obtain ⟨Ao151, co151, eo151⟩ := Kd.V_slice HO598.out
       (first | subst eo151 | (injection eo151 with f1_ f2_ f3_; have f4_ := f1_.symm; have f5_ := f3_.symm; clear f1_ f2_ f3_; subst f4_; subst f5_))
       refine hK.out _ _ ⟨(blk_cell BK591.out 0).trans rfl, (blk_cell BK591.out 1).trans rfl⟩ (fun hHeld => ?_)
       clear hK K
       refine norm_ (a' := ?_) ?_ ?_
       rotate_left
       ·show Act.put _ (some 68) _ = _
        simp only [Act.put, List.setIfInBounds_toArray, List.set_cons_zero, List.set_cons_succ, i64_w, i32_w]
        rfl
       refine last_ (i := 3) (N := none) #[true, true, true, true] rfl rfl (by kernel_rfl) (by decide) (fun K hK => ?_)
       have hs152 : w150.cell? ⟨gb591, 0, none⟩ = some (.slice Ao118 t587.length co118) := (blk_cell BK591.out 0).trans rfl
       have hfs152 := blk_frozen BK591.out 0
       have hns152_0 := NB543_591.out
       have hns152_1 := NB544_591.out
       have hns152_2 := NB545_591.out
       have hns152_3 := NB546_591.out
       have hns152_4 := NB551_591.out
       have hms152_0 := NB591_543.out
       have hms152_1 := NB591_544.out
       have hms152_2 := NB591_545.out
       have hms152_3 := NB591_546.out
       have hms152_4 := NB591_551.out
       have hs153 : w150.cell? ⟨gb591, 1, none⟩ = some (.bool t590) := (blk_cell BK591.out 1).trans rfl
       have hfs153 := blk_frozen BK591.out 1
       have hns153_0 := NB543_591.out
       have hns153_1 := NB544_591.out
       have hns153_2 := NB545_591.out
       have hns153_3 := NB546_591.out
       have hns153_4 := NB551_591.out
       have hms153_0 := NB591_543.out
       have hms153_1 := NB591_544.out
       have hms153_2 := NB591_545.out
       have hms153_3 := NB591_546.out
       have hms153_4 := NB591_551.out
       refine skip_ (w1 := ?_) (by rfl) rfl ?_ ?_
       rotate_left
       ·go_simp
        rfl
       refine hK.out _ _ ?_
       clear hK K
       refine done_ (by kernel_rfl) ?_
       have hnb154 := NB591_543.out
       have hnc154 := NB543_591.out
       have hnb155 := NB591_544.out
       have hnc155 := NB544_591.out
       have hnb156 := NB591_545.out
       have hnc156 := NB545_591.out
       have hnb157 := NB591_546.out
       have hnc157 := NB546_591.out
       have hnb158 := NB591_551.out
       have hnc158 := NB551_591.out
       have hcz159 := blkAll2 BK591.out
       have hnb160 := NB545_543.out
       have hnc160 := NB543_545.out
       have hnb161 := NB545_544.out
       have hnc161 := NB544_545.out
       have hnb162 := NB545_546.out
       have hnc162 := NB546_545.out
       have hnb163 := NB545_551.out
       have hnc163 := NB551_545.out
       have hcz164 := blkAll2 BK545.out
       try go_wp2
       refine bodyPost_ret (results_cell_row rfl _ _ gb545 37 #[.slice Ao151 t596.length co151, .bool t599] (0, 0) _ rfl (by (with_reducible repeat (first | apply kb1 | apply kb2 | apply kb3 | apply blkPut2_1 | apply blkPut2_0 | refine kb4 ?_ NB545_591.out _)); exact BK545.out) Try.underlying37 rfl (by kernel_rfl)) rfl ?_
       exact ⟨_, by first | rfl | (simp [errW_none, errW_some] <;> rfl) | (simp [*, errW_none, errW_some] <;> rfl), by (with_reducible repeat (first | apply Kd.V_alloc | apply Kd.V_drewN | apply Kd.V_drew)); exact Kd.V_mono (Kd.V_far (p := ⟨gb545, 1, none⟩) (Kd.V_far (p := ⟨gb545, 0, none⟩) (Kd.V_far (p := ⟨gb591, 1, none⟩) (Kd.V_far (p := ⟨gb591, 0, none⟩) (Kd.V_mono (Kd.V_mono HO598.out (fun k_ hk => (⟨hk, hk.2.2.2.2.2.2⟩ : _ ∧ k_ ≠ gb591))) (fun k_ hk => (⟨hk, hk.1.2.2.2.1⟩ : _ ∧ k_ ≠ gb545))) (fun _ hk => hk.1.2) (.slice Ao151 t596.length co151)) (fun _ hk => hk.1.2) (.bool t599)) (fun _ hk => hk.2) (.slice Ao151 t596.length co151)) (fun _ hk => hk.2) (.bool t599)) (fun _ hk => hk.1.1.1), by repeat (first | (with_reducible first | exact HB.out | apply kc1 | apply kc2 | apply kc3 | refine kc4 ?_ GE543.out | refine kc4 ?_ GE544.out | refine kc4 ?_ GE545.out | refine kc4 ?_ GE546.out | refine kc4 ?_ GE551.out | refine kc4 ?_ GE591.out) | exact HB.out)⟩
      ·replace c144 := Bool.eq_false_iff.mpr c144
       subst c144
       have H1 : (some (t587, t590)) = some (r1, r2) := by rw [if_neg (show ¬ (false = true) by decide)] at H; exact H
       clear H
       have H := H1
       clear H1
       simp only [Option.some.injEq, Prod.mk.injEq] at H
       obtain ⟨rfl, rfl⟩ := H
       have hnb165 := NB591_543.out
       have hnc165 := NB543_591.out
       have hnb166 := NB591_544.out
       have hnc166 := NB544_591.out
       have hnb167 := NB591_545.out
       have hnc167 := NB545_591.out
       have hnb168 := NB591_546.out
       have hnc168 := NB546_591.out
       have hnb169 := NB591_551.out
       have hnc169 := NB551_591.out
       have hcz170 := blkAll2 BK591.out
       have hnb171 := NB545_543.out
       have hnc171 := NB543_545.out
       have hnb172 := NB545_544.out
       have hnc172 := NB544_545.out
       have hnb173 := NB545_546.out
       have hnc173 := NB546_545.out
       have hnb174 := NB545_551.out
       have hnc174 := NB551_545.out
       have hcz175 := blkAll2 BK545.out
       go_wp2
       refine bodyPost_ret (results_cell_row rfl _ _ gb545 37 #[.slice Ao118 t587.length co118, .bool t590] (0, 0) _ rfl (by (with_reducible repeat (first | apply kb1 | apply kb2 | apply kb3 | apply blkPut2_1 | apply blkPut2_0)); exact BK545.out) Try.underlying37 rfl (by kernel_rfl)) rfl ?_
       exact ⟨_, by first | rfl | (simp [errW_none, errW_some] <;> rfl) | (simp [*, errW_none, errW_some] <;> rfl), by (with_reducible repeat (first | apply Kd.V_alloc | apply Kd.V_drewN | apply Kd.V_drew)); exact Kd.V_mono (Kd.V_far (p := ⟨gb545, 1, none⟩) (Kd.V_far (p := ⟨gb545, 0, none⟩) (Kd.V_mono HO_592000.out (fun k_ hk => (⟨hk, hk.2.2.2.1⟩ : _ ∧ k_ ≠ gb545))) (fun _ hk => hk.2) (.slice Ao118 t587.length co118)) (fun _ hk => hk.2) (.bool t590)) (fun _ hk => hk.1.1), by repeat (first | (with_reducible first | exact HB.out | apply kc1 | apply kc2 | apply kc3 | refine kc4 ?_ GE543.out | refine kc4 ?_ GE544.out | refine kc4 ?_ GE545.out | refine kc4 ?_ GE546.out | refine kc4 ?_ GE551.out | refine kc4 ?_ GE591.out) | exact HB.out)⟩

end Go.Proofs.Ytonjhfneeejdaaa.P
