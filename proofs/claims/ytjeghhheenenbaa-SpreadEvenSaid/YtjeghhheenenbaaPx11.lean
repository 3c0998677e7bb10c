-- Written by a program of this session out of the translation of the seat: Lean functions and the proofs that the Go functions come to them.
import Derived.Test.YtjeghhheenenbaaPx0
import Derived.Test.YtjeghhheenenbaaPx6
import Derived.Test.YtjeghhheenenbaaPx7
namespace Go.Proofs.Ytjeghhheenenbaa.P
open Go.RowKit Go.Proofs.YtjeghhheenenbaaW.PrintWords Go.Proofs.YtjeghhheenenbaaW.PrintLast Go.Proofs.YtjeghhheenenbaaW.PrintMore
attribute [local go_sem] max2_int min2_int max_two min_two max_three min_three max_four min_four   -- for this text's walks alone
set_option linter.unusedVariables false
set_option linter.unusedSimpArgs false

/-! ### trivetlaw16_SpreadEven: function 5 -/
mutual
def trivetlaw16_SpreadEven.j0 : Nat → Bool → Bool → Int → Int → Int → Int → List Int → Option (Bool)
 | 0, _, _, _, _, _, _, _ => none
 | k + 1, x7, x33, x571000, x571001, x571002, x571003, x571004 => if x33 = true then (some x7) else (trivetlaw16_SpreadEven.l0 k x7 0 x571000 x571001 x571002 x571003 x571004)
def trivetlaw16_SpreadEven.l0 : Nat → Bool → Int → Int → Int → Int → Int → List Int → Option (Bool)
 | 0, _, _, _, _, _, _, _ => none
 | k + 1, x7, x10, x571000, x571001, x571002, x571003, x571004 => if x10 < (x571004.length : Int) then (trivetlaw16_SpreadEven.l1 k x7 x10 0 x571000 x571001 x571002 x571003 x571004) else (some x7)
def trivetlaw16_SpreadEven.l1 : Nat → Bool → Int → Int → Int → Int → Int → Int → List Int → Option (Bool)
 | 0, _, _, _, _, _, _, _, _ => none
 | k + 1, x7, x10, x11, x571000, x571001, x571002, x571003, x571004 => if x11 < (x571004.length : Int) then (if 0 ≤ x10 then (if x10 < (x571004.length : Int) then (if 0 ≤ x11 then (if (wrap64 ((rd x571004 x10) - (rd x571004 x11))) > 2 then (none) else (trivetlaw16_SpreadEven.l1 k x7 x10 (wrap64 (x11 + 1)) x571000 x571001 x571002 x571003 x571004)) else (none)) else (none)) else (none)) else (trivetlaw16_SpreadEven.l0 k x7 (wrap64 (x10 + 1)) x571000 x571001 x571002 x571003 x571004)
end
def trivetlaw16_SpreadEven.f (k : Nat) (a0_0 : Int) (a0_1 : Int) (a0_2 : Int) (a0_3 : Int) (a0_4 : Int) (l0_5 : List Int) (a1 : Int) (a2 : Bool) : Option (Bool) := (trivetlaw16_up.f k).bind fun t561 => ((spread_Of.f k a0_0 a0_1 a0_2 a0_3 a0_4 l0_5 a1 a2).bind fun bt562 => (if bt562.2.2.2.2.2.isNone = true then (if bt562.2.2.1 > 0 then (trivetlaw16_SpreadEven.j0 k t561 (decide (bt562.2.2.1 < a0_1)) bt562.1 bt562.2.1 bt562.2.2.1 bt562.2.2.2.1 bt562.2.2.2.2.1) else (trivetlaw16_SpreadEven.j0 k t561 false bt562.1 bt562.2.1 bt562.2.2.1 bt562.2.2.2.1 bt562.2.2.2.2.1)) else (trivetlaw16_SpreadEven.j0 k t561 true bt562.1 bt562.2.1 bt562.2.2.1 bt562.2.2.2.1 bt562.2.2.2.2.1)))
theorem trivetlaw16_SpreadEven.mono_l : ∀ k, (∀ y0 y1 y2 y3 y4 y5 y6, LeO (trivetlaw16_SpreadEven.j0 k y0 y1 y2 y3 y4 y5 y6) (trivetlaw16_SpreadEven.j0 (k + 1) y0 y1 y2 y3 y4 y5 y6)) ∧ (∀ y0 y1 y2 y3 y4 y5 y6, LeO (trivetlaw16_SpreadEven.l0 k y0 y1 y2 y3 y4 y5 y6) (trivetlaw16_SpreadEven.l0 (k + 1) y0 y1 y2 y3 y4 y5 y6)) ∧ (∀ y0 y1 y2 y3 y4 y5 y6 y7, LeO (trivetlaw16_SpreadEven.l1 k y0 y1 y2 y3 y4 y5 y6 y7) (trivetlaw16_SpreadEven.l1 (k + 1) y0 y1 y2 y3 y4 y5 y6 y7))
 | 0 => ⟨fun _ _ _ _ _ _ _ r h => by simp [trivetlaw16_SpreadEven.j0] at h, fun _ _ _ _ _ _ _ r h => by simp [trivetlaw16_SpreadEven.l0] at h, fun _ _ _ _ _ _ _ _ r h => by simp [trivetlaw16_SpreadEven.l1] at h⟩
 | k + 1 => by
  obtain ⟨ih0, ih1, ih2⟩ := trivetlaw16_SpreadEven.mono_l k
  refine ⟨?_, ?_, ?_⟩
  ·intro y0 y1 y2 y3 y4 y5 y6
   unfold trivetlaw16_SpreadEven.j0
   repeat' first
   | (with_reducible exact ih0 _ _ _ _ _ _ _)
   | (with_reducible exact ih1 _ _ _ _ _ _ _)
   | (with_reducible exact ih2 _ _ _ _ _ _ _ _)
   | (with_reducible exact spread_Of.mono _ _ _ _ _ _ _ _ _)
   | (with_reducible exact trivetlaw16_up.mono _)
   | (with_reducible exact LeO.refl _)
   | (with_reducible exact LeO.none _)
   | (with_reducible refine LeO.ite ?_ ?_)
   | (with_reducible refine LeO.bind ?_ (fun _ => ?_))
   | exact ih0 _ _ _ _ _ _ _
   | exact ih1 _ _ _ _ _ _ _
   | exact ih2 _ _ _ _ _ _ _ _
   | exact spread_Of.mono _ _ _ _ _ _ _ _ _
   | exact trivetlaw16_up.mono _
   | exact LeO.none _
   | refine LeO.ite ?_ ?_
   | refine LeO.bind ?_ (fun _ => ?_)
  ·intro y0 y1 y2 y3 y4 y5 y6
   unfold trivetlaw16_SpreadEven.l0
   repeat' first
   | (with_reducible exact ih0 _ _ _ _ _ _ _)
   | (with_reducible exact ih1 _ _ _ _ _ _ _)
   | (with_reducible exact ih2 _ _ _ _ _ _ _ _)
   | (with_reducible exact spread_Of.mono _ _ _ _ _ _ _ _ _)
   | (with_reducible exact trivetlaw16_up.mono _)
   | (with_reducible exact LeO.refl _)
   | (with_reducible exact LeO.none _)
   | (with_reducible refine LeO.ite ?_ ?_)
   | (with_reducible refine LeO.bind ?_ (fun _ => ?_))
   | exact ih0 _ _ _ _ _ _ _
   | exact ih1 _ _ _ _ _ _ _
   | exact ih2 _ _ _ _ _ _ _ _
   | exact spread_Of.mono _ _ _ _ _ _ _ _ _
   | exact trivetlaw16_up.mono _
   | exact LeO.none _
   | refine LeO.ite ?_ ?_
   | refine LeO.bind ?_ (fun _ => ?_)
  ·intro y0 y1 y2 y3 y4 y5 y6 y7
   unfold trivetlaw16_SpreadEven.l1
   repeat' first
   | (with_reducible exact ih0 _ _ _ _ _ _ _)
   | (with_reducible exact ih1 _ _ _ _ _ _ _)
   | (with_reducible exact ih2 _ _ _ _ _ _ _ _)
   | (with_reducible exact spread_Of.mono _ _ _ _ _ _ _ _ _)
   | (with_reducible exact trivetlaw16_up.mono _)
   | (with_reducible exact LeO.refl _)
   | (with_reducible exact LeO.none _)
   | (with_reducible refine LeO.ite ?_ ?_)
   | (with_reducible refine LeO.bind ?_ (fun _ => ?_))
   | exact ih0 _ _ _ _ _ _ _
   | exact ih1 _ _ _ _ _ _ _
   | exact ih2 _ _ _ _ _ _ _ _
   | exact spread_Of.mono _ _ _ _ _ _ _ _ _
   | exact trivetlaw16_up.mono _
   | exact LeO.none _
   | refine LeO.ite ?_ ?_
   | refine LeO.bind ?_ (fun _ => ?_)
theorem trivetlaw16_SpreadEven.mono : ∀ a0 a1 a2 a3 a4 a5 a6 a7 k, LeO (trivetlaw16_SpreadEven.f k a0 a1 a2 a3 a4 a5 a6 a7) (trivetlaw16_SpreadEven.f (k + 1) a0 a1 a2 a3 a4 a5 a6 a7) := by
 intro a0 a1 a2 a3 a4 a5 a6 a7 k
 obtain ⟨ih0, ih1, ih2⟩ := trivetlaw16_SpreadEven.mono_l k
 unfold trivetlaw16_SpreadEven.f
 repeat' first
   | (with_reducible exact ih0 _ _ _ _ _ _ _)
   | (with_reducible exact ih1 _ _ _ _ _ _ _)
   | (with_reducible exact ih2 _ _ _ _ _ _ _ _)
   | (with_reducible exact spread_Of.mono _ _ _ _ _ _ _ _ _)
   | (with_reducible exact trivetlaw16_up.mono _)
   | (with_reducible exact LeO.refl _)
   | (with_reducible exact LeO.none _)
   | (with_reducible refine LeO.ite ?_ ?_)
   | (with_reducible refine LeO.bind ?_ (fun _ => ?_))
   | exact ih0 _ _ _ _ _ _ _
   | exact ih1 _ _ _ _ _ _ _
   | exact ih2 _ _ _ _ _ _ _ _
   | exact spread_Of.mono _ _ _ _ _ _ _ _ _
   | exact trivetlaw16_up.mono _
   | exact LeO.none _
   | refine LeO.ite ?_ ?_
   | refine LeO.bind ?_ (fun _ => ?_)
set_option maxHeartbeats 8000000 in
set_option maxRecDepth 100000 in
theorem trivetlaw16_SpreadEven.calls (k : Nat) (a0_0 : Int) (a0_1 : Int) (a0_2 : Int) (a0_3 : Int) (a0_4 : Int) (A0_5 : Option Addr) (c0_5 : Nat) (l0_5 : List Int) (a1 : Int) (a2 : Bool) (r : Bool) (w : World) (hr0_5 : Kd.C (Kd.int .i64) w A0_5 l0_5.length l0_5) (hc0_5 : l0_5.length ≤ c0_5) (h : trivetlaw16_SpreadEven.f k a0_0 a0_1 a0_2 a0_3 a0_4 l0_5 a1 a2 = some r) :
  Calls Try.prog 5 #[.agg #[.int .i64 a0_0, .int .i64 a0_1, .int .i64 a0_2, .int .i64 a0_3, .int .i64 a0_4, .slice A0_5 l0_5.length c0_5], .int .i64 a1, .bool a2] w fun e w' => e = .returned (.bool r) ∧ Below w.heap.size w w' := by
 have hu24 := Try.underlying24
 have hu27 := Try.underlying27
 have hu29 := Try.underlying29
 have hu34 := Try.underlying34
 have HR0_5 := ka hr0_5
 have HC0_5 := ka hc0_5
 clear hr0_5 hc0_5
 have HB := ka (Below.refl w.heap.size w)
 have H : ((trivetlaw16_up.f k).bind fun t561 => ((spread_Of.f k a0_0 a0_1 a0_2 a0_3 a0_4 l0_5 a1 a2).bind fun bt562 => (if bt562.2.2.2.2.2.isNone = true then (if bt562.2.2.1 > 0 then (trivetlaw16_SpreadEven.j0 k t561 (decide (bt562.2.2.1 < a0_1)) bt562.1 bt562.2.1 bt562.2.2.1 bt562.2.2.2.1 bt562.2.2.2.2.1) else (trivetlaw16_SpreadEven.j0 k t561 false bt562.1 bt562.2.1 bt562.2.2.1 bt562.2.2.2.1 bt562.2.2.2.2.1)) else (trivetlaw16_SpreadEven.j0 k t561 true bt562.1 bt562.2.1 bt562.2.2.1 bt562.2.2.2.1 bt562.2.2.2.2.1)))) = some r := h
 clear h
 replace H := Option.bind_eq_some_iff.mp H
 obtain ⟨t561, A40, H⟩ := H
 replace H : ((spread_Of.f k a0_0 a0_1 a0_2 a0_3 a0_4 l0_5 a1 a2).bind fun bt562 => (if bt562.2.2.2.2.2.isNone = true then (if bt562.2.2.1 > 0 then (trivetlaw16_SpreadEven.j0 k t561 (decide (bt562.2.2.1 < a0_1)) bt562.1 bt562.2.1 bt562.2.2.1 bt562.2.2.2.1 bt562.2.2.2.2.1) else (trivetlaw16_SpreadEven.j0 k t561 false bt562.1 bt562.2.1 bt562.2.2.1 bt562.2.2.2.1 bt562.2.2.2.2.1)) else (trivetlaw16_SpreadEven.j0 k t561 true bt562.1 bt562.2.1 bt562.2.2.1 bt562.2.2.2.1 bt562.2.2.2.2.1))) = some r := H
 have A4 := ka A40
 clear A40
 replace H := Option.bind_eq_some_iff.mp H
 obtain ⟨⟨t562, t563, t564, t565, t566, t569⟩, A50, H⟩ := H
 replace H : (if t569.isNone = true then (if t564 > 0 then (trivetlaw16_SpreadEven.j0 k t561 (decide (t564 < a0_1)) t562 t563 t564 t565 t566) else (trivetlaw16_SpreadEven.j0 k t561 false t562 t563 t564 t565 t566)) else (trivetlaw16_SpreadEven.j0 k t561 true t562 t563 t564 t565 t566)) = some r := H
 have A5 := ka A50
 clear A50
 have HC6 := ka H
 clear H
 go_enter Try.func5, Try.ntmps5
 go_upto_region 3 with (first | ((with_reducible refine gate_dst (N := 3) rfl ?_); refine kx (N := 3) (cs := #[.int .i64 a0_0, .int .i64 a0_1, .int .i64 a0_2, .int .i64 a0_3, .int .i64 a0_4, .slice A0_5 l0_5.length c0_5]) (t := 24) ?_; intro gb560 hg w7 hbox hb; have n0_ := ka (below_step (kw HB.out) hb); have n1_ := ka (hbox); have n2_ := ka ((by rw [hg]; exact (below_size (kw HB.out)) : w.heap.size ≤ gb560)); have n3_ := n2_; clear HB; have HB := n0_; have BK560 := n1_; have GW560 := n2_; have GE560 := n3_; clear n0_ n1_ n2_ n3_; clear hb hbox hg) | (go_at_call 8; (with_reducible refine (trivetlaw16_up.calls k  t561 _ A4.out).mono ?_); rintro e w8 ⟨rfl, hb⟩; replace BK560 := kbb BK560 hb; replace HB := ka (below_step (kw HB.out) hb); (try clear hb); (try clear hb2); (try clear hk); (try clear hi); have hcz9 := blkAll6 BK560.out) | (go_at_call 9; (with_reducible refine (spread_Of.calls k a0_0 a0_1 a0_2 a0_3 a0_4 _ _ l0_5 a1 a2 t562 t563 t564 t565 t566 t569 _ ?side1 ?side2 A5.out).mono ?_); (case side1 => repeat (first | exact (Kd.C_below HR0_5.out HB.out) | (with_reducible refine Kd.C_alloc ?_ _) | (with_reducible refine Kd.C_drewN ?_ _) | (with_reducible refine Kd.C_drew ?_))); (case side2 => exact HC0_5.out); rintro e w10 ⟨v567, rfl, ho0, hb⟩; have HO568 := ka (Kd.R_lower ho0 (below_size (kw HB.out))); replace BK560 := kbb BK560 hb; replace HB := ka (below_step (kw HB.out) hb); (try clear hb); (try clear hb2); (try clear hk); (try clear hi); (try clear ho0); (try simp only [errW_none, errW_some])) | ((with_reducible refine gate_dst (N := 8) rfl ?_); refine kx (N := 8) (cs := #[.int .i64 0, .int .i64 0, .int .i64 0, .int .i64 0, .slice none 0 0]) (t := 27) ?_; intro gb570 hg w11 hbox hb; have n0_ := ka (Kd.R_below (kr HO568.out) hb); have n1_ := ka (blk_below (g := gb560) (kz BK560.out) hb); have n2_ := ka (below_step (kw HB.out) hb); have n3_ := ka (hbox); have n4_ := ka ((by rw [hg]; exact (below_size (kw HB.out)) : w.heap.size ≤ gb570)); have n5_ := n4_; have n6_ := ka ((by rw [hg]; exact Nat.ne_of_lt (blk_lt (g := gb560) (kz BK560.out)) : gb560 ≠ gb570)); have n7_ := ka n6_.out.symm; clear HO568; clear BK560; clear HB; have HO568 := n0_; have BK560 := n1_; have HB := n2_; have BK570 := n3_; have GW570 := n4_; have GE570 := n5_; have NB560_570 := n6_; have NB570_560 := n7_; clear n0_ n1_ n2_ n3_ n4_ n5_ n6_ n7_; clear hb hbox hg; have hnb12 := NB570_560.out; have hnc12 := NB560_570.out; have hcz13 := blkAll5 BK570.out; obtain ⟨Ao14, co14, eo14⟩ := Kd.R_slice HO568.out; subst eo14))
 repeat (go_quiet (first | ((with_reducible refine gate_dst (N := 3) rfl ?_); refine kx (N := 3) (cs := #[.int .i64 a0_0, .int .i64 a0_1, .int .i64 a0_2, .int .i64 a0_3, .int .i64 a0_4, .slice A0_5 l0_5.length c0_5]) (t := 24) ?_; intro gb560 hg w7 hbox hb; have n0_ := ka (below_step (kw HB.out) hb); have n1_ := ka (hbox); have n2_ := ka ((by rw [hg]; exact (below_size (kw HB.out)) : w.heap.size ≤ gb560)); have n3_ := n2_; clear HB; have HB := n0_; have BK560 := n1_; have GW560 := n2_; have GE560 := n3_; clear n0_ n1_ n2_ n3_; clear hb hbox hg) | (go_at_call 8; (with_reducible refine (trivetlaw16_up.calls k  t561 _ A4.out).mono ?_); rintro e w8 ⟨rfl, hb⟩; replace BK560 := kbb BK560 hb; replace HB := ka (below_step (kw HB.out) hb); (try clear hb); (try clear hb2); (try clear hk); (try clear hi); have hcz9 := blkAll6 BK560.out) | (go_at_call 9; (with_reducible refine (spread_Of.calls k a0_0 a0_1 a0_2 a0_3 a0_4 _ _ l0_5 a1 a2 t562 t563 t564 t565 t566 t569 _ ?side1 ?side2 A5.out).mono ?_); (case side1 => repeat (first | exact (Kd.C_below HR0_5.out HB.out) | (with_reducible refine Kd.C_alloc ?_ _) | (with_reducible refine Kd.C_drewN ?_ _) | (with_reducible refine Kd.C_drew ?_))); (case side2 => exact HC0_5.out); rintro e w10 ⟨v567, rfl, ho0, hb⟩; have HO568 := ka (Kd.R_lower ho0 (below_size (kw HB.out))); replace BK560 := kbb BK560 hb; replace HB := ka (below_step (kw HB.out) hb); (try clear hb); (try clear hb2); (try clear hk); (try clear hi); (try clear ho0); (try simp only [errW_none, errW_some])) | ((with_reducible refine gate_dst (N := 8) rfl ?_); refine kx (N := 8) (cs := #[.int .i64 0, .int .i64 0, .int .i64 0, .int .i64 0, .slice none 0 0]) (t := 27) ?_; intro gb570 hg w11 hbox hb; have n0_ := ka (Kd.R_below (kr HO568.out) hb); have n1_ := ka (blk_below (g := gb560) (kz BK560.out) hb); have n2_ := ka (below_step (kw HB.out) hb); have n3_ := ka (hbox); have n4_ := ka ((by rw [hg]; exact (below_size (kw HB.out)) : w.heap.size ≤ gb570)); have n5_ := n4_; have n6_ := ka ((by rw [hg]; exact Nat.ne_of_lt (blk_lt (g := gb560) (kz BK560.out)) : gb560 ≠ gb570)); have n7_ := ka n6_.out.symm; clear HO568; clear BK560; clear HB; have HO568 := n0_; have BK560 := n1_; have HB := n2_; have BK570 := n3_; have GW570 := n4_; have GE570 := n5_; have NB560_570 := n6_; have NB570_560 := n7_; clear n0_ n1_ n2_ n3_ n4_ n5_ n6_ n7_; clear hb hbox hg; have hnb12 := NB570_560.out; have hnc12 := NB560_570.out; have hcz13 := blkAll5 BK570.out; obtain ⟨Ao14, co14, eo14⟩ := Kd.R_slice HO568.out; subst eo14)); go_upto_region 3 with (first | ((with_reducible refine gate_dst (N := 3) rfl ?_); refine kx (N := 3) (cs := #[.int .i64 a0_0, .int .i64 a0_1, .int .i64 a0_2, .int .i64 a0_3, .int .i64 a0_4, .slice A0_5 l0_5.length c0_5]) (t := 24) ?_; intro gb560 hg w7 hbox hb; have n0_ := ka (below_step (kw HB.out) hb); have n1_ := ka (hbox); have n2_ := ka ((by rw [hg]; exact (below_size (kw HB.out)) : w.heap.size ≤ gb560)); have n3_ := n2_; clear HB; have HB := n0_; have BK560 := n1_; have GW560 := n2_; have GE560 := n3_; clear n0_ n1_ n2_ n3_; clear hb hbox hg) | (go_at_call 8; (with_reducible refine (trivetlaw16_up.calls k  t561 _ A4.out).mono ?_); rintro e w8 ⟨rfl, hb⟩; replace BK560 := kbb BK560 hb; replace HB := ka (below_step (kw HB.out) hb); (try clear hb); (try clear hb2); (try clear hk); (try clear hi); have hcz9 := blkAll6 BK560.out) | (go_at_call 9; (with_reducible refine (spread_Of.calls k a0_0 a0_1 a0_2 a0_3 a0_4 _ _ l0_5 a1 a2 t562 t563 t564 t565 t566 t569 _ ?side1 ?side2 A5.out).mono ?_); (case side1 => repeat (first | exact (Kd.C_below HR0_5.out HB.out) | (with_reducible refine Kd.C_alloc ?_ _) | (with_reducible refine Kd.C_drewN ?_ _) | (with_reducible refine Kd.C_drew ?_))); (case side2 => exact HC0_5.out); rintro e w10 ⟨v567, rfl, ho0, hb⟩; have HO568 := ka (Kd.R_lower ho0 (below_size (kw HB.out))); replace BK560 := kbb BK560 hb; replace HB := ka (below_step (kw HB.out) hb); (try clear hb); (try clear hb2); (try clear hk); (try clear hi); (try clear ho0); (try simp only [errW_none, errW_some])) | ((with_reducible refine gate_dst (N := 8) rfl ?_); refine kx (N := 8) (cs := #[.int .i64 0, .int .i64 0, .int .i64 0, .int .i64 0, .slice none 0 0]) (t := 27) ?_; intro gb570 hg w11 hbox hb; have n0_ := ka (Kd.R_below (kr HO568.out) hb); have n1_ := ka (blk_below (g := gb560) (kz BK560.out) hb); have n2_ := ka (below_step (kw HB.out) hb); have n3_ := ka (hbox); have n4_ := ka ((by rw [hg]; exact (below_size (kw HB.out)) : w.heap.size ≤ gb570)); have n5_ := n4_; have n6_ := ka ((by rw [hg]; exact Nat.ne_of_lt (blk_lt (g := gb560) (kz BK560.out)) : gb560 ≠ gb570)); have n7_ := ka n6_.out.symm; clear HO568; clear BK560; clear HB; have HO568 := n0_; have BK560 := n1_; have HB := n2_; have BK570 := n3_; have GW570 := n4_; have GE570 := n5_; have NB560_570 := n6_; have NB570_560 := n7_; clear n0_ n1_ n2_ n3_ n4_ n5_ n6_ n7_; clear hb hbox hg; have hnb12 := NB570_560.out; have hnc12 := NB560_570.out; have hcz13 := blkAll5 BK570.out; obtain ⟨Ao14, co14, eo14⟩ := Kd.R_slice HO568.out; subst eo14)))
 (try simp only [Act.put, List.setIfInBounds_toArray, List.set_cons_zero, List.set_cons_succ])
 go_cut [33] (fun v33 wc => ∃ (kq : Nat) (x33_5 : Bool), v33 = .bool x33_5 ∧ Aside0 (trivetlaw16_SpreadEven.j0 kq t561 x33_5 t562 t563 t564 t565 t566 = some r) ∧ Aside0 (kq ≤ k) ∧ Aside0 (Kd.R (Kd.int .i64) 2 wc w.heap.size (fun _ => True) (.slice Ao14 t566.length co14) t566) ∧ Aside0 (wc.heap[gb560]? = some (.cells #[.int .i64 a0_0, .int .i64 a0_1, .int .i64 a0_2, .int .i64 a0_3, .int .i64 a0_4, (.slice A0_5 l0_5.length c0_5)] 24 (0, 0))) ∧ Aside0 (wc.heap[gb570]? = some (.cells #[.int .i64 t562, .int .i64 t563, .int .i64 t564, .int .i64 t565, (.slice Ao14 t566.length co14)] 27 (0, 0))) ∧ Aside0 (Below w.heap.size w wc))
 case first =>
  have H := HC6.out
  clear HC6
  rcases t569 with _ | q571
  ·have H1 : (if t564 > 0 then (trivetlaw16_SpreadEven.j0 k t561 (decide (t564 < a0_1)) t562 t563 t564 t565 t566) else (trivetlaw16_SpreadEven.j0 k t561 false t562 t563 t564 t565 t566)) = some r := by rw [if_pos (show (none : Option Int).isNone = true by rfl)] at H; exact H
   clear H
   have H := H1
   clear H1
   try simp only [errW_none, errW_some]
   by_cases c15 : t564 > 0
   ·rw [if_pos c15] at H
    have c15b0 : decide (0 < t564) = true := decide_eq_true c15
    clear c15
    (first | rw [c15b0] | (simp only [i64_w, i32_w]; rw [c15b0]) | skip)
    have H' := ka H
    clear H
    have hnb16 := NB570_560.out
    have hnc16 := NB560_570.out
    have hcz17 := blkAll5 BK570.out
    have hcz18 := blkAll6 BK560.out
    go_wp2
    repeat (go_quiet (fail); try go_wp2)
    go_meet
    case rel => exact ⟨_, (decide (t564 < a0_1)), (by first | rfl | (simp; done) | (simp [*]; done)), H', ⟨by first | omega | exact Nat.le_refl _⟩, ⟨kr (Kd.R_mono (Kd.R_far (p := ⟨gb570, 4, none⟩) (Kd.R_far (p := ⟨gb570, 3, none⟩) (Kd.R_far (p := ⟨gb570, 2, none⟩) (Kd.R_far (p := ⟨gb570, 1, none⟩) (Kd.R_far (p := ⟨gb570, 0, none⟩) (Kd.R_types HO568.out BK570.out (by decide)) (fun _ hk => hk.2) (.int .i64 t562)) (fun _ hk => hk.2) (.int .i64 t563)) (fun _ hk => hk.2) (.int .i64 t564)) (fun _ hk => hk.2) (.int .i64 t565)) (fun _ hk => hk.2) (.slice Ao14 t566.length co14)) (fun _ hk => trivial))⟩, ⟨by (with_reducible repeat (first | apply kb1 | apply kb2 | apply kb3 | refine kb4 ?_ NB560_570.out _)); exact BK560.out⟩, ⟨by (with_reducible repeat (first | apply kb1 | apply kb2 | apply kb3 | apply blkPut5_4 | apply blkPut5_3 | apply blkPut5_2 | apply blkPut5_1 | apply blkPut5_0)); exact BK570.out⟩, ⟨by repeat (first | (with_reducible first | exact HB.out | apply kc1 | apply kc2 | apply kc3 | refine kc4 ?_ GE560.out | refine kc4 ?_ GE570.out) | exact HB.out)⟩⟩
   ·rw [if_neg c15] at H
    have c15b0 : decide (0 < t564) = false := decide_eq_false c15
    clear c15
    (first | rw [c15b0] | (simp only [i64_w, i32_w]; rw [c15b0]) | skip)
    have H' := ka H
    clear H
    have hnb19 := NB570_560.out
    have hnc19 := NB560_570.out
    have hcz20 := blkAll5 BK570.out
    go_wp2
    repeat (go_quiet (fail); try go_wp2)
    go_meet
    case rel => exact ⟨_, (false), (by first | rfl | (simp; done) | (simp [*]; done)), H', ⟨by first | omega | exact Nat.le_refl _⟩, ⟨kr (Kd.R_mono (Kd.R_far (p := ⟨gb570, 4, none⟩) (Kd.R_far (p := ⟨gb570, 3, none⟩) (Kd.R_far (p := ⟨gb570, 2, none⟩) (Kd.R_far (p := ⟨gb570, 1, none⟩) (Kd.R_far (p := ⟨gb570, 0, none⟩) (Kd.R_types HO568.out BK570.out (by decide)) (fun _ hk => hk.2) (.int .i64 t562)) (fun _ hk => hk.2) (.int .i64 t563)) (fun _ hk => hk.2) (.int .i64 t564)) (fun _ hk => hk.2) (.int .i64 t565)) (fun _ hk => hk.2) (.slice Ao14 t566.length co14)) (fun _ hk => trivial))⟩, ⟨by (with_reducible repeat (first | apply kb1 | apply kb2 | apply kb3 | refine kb4 ?_ NB560_570.out _)); exact BK560.out⟩, ⟨by (with_reducible repeat (first | apply kb1 | apply kb2 | apply kb3 | apply blkPut5_4 | apply blkPut5_3 | apply blkPut5_2 | apply blkPut5_1 | apply blkPut5_0)); exact BK570.out⟩, ⟨by repeat (first | (with_reducible first | exact HB.out | apply kc1 | apply kc2 | apply kc3 | refine kc4 ?_ GE560.out | refine kc4 ?_ GE570.out) | exact HB.out)⟩⟩
  ·have H1 : (trivetlaw16_SpreadEven.j0 k t561 true t562 t563 t564 t565 t566) = some r := by rw [if_neg (show ¬ (some q571).isNone = true by simp)] at H; exact H
   clear H
   have H := H1
   clear H1
   try simp only [errW_none, errW_some]
   have H' := ka H
   clear H
   go_wp2
   repeat (go_quiet (fail); try go_wp2)
   go_meet
   case rel => exact ⟨_, (true), (by first | rfl | (simp; done) | (simp [*]; done)), H', ⟨by first | omega | exact Nat.le_refl _⟩, ⟨kr (Kd.R_mono (Kd.R_far (p := ⟨gb570, 4, none⟩) (Kd.R_far (p := ⟨gb570, 3, none⟩) (Kd.R_far (p := ⟨gb570, 2, none⟩) (Kd.R_far (p := ⟨gb570, 1, none⟩) (Kd.R_far (p := ⟨gb570, 0, none⟩) (Kd.R_types HO568.out BK570.out (by decide)) (fun _ hk => hk.2) (.int .i64 t562)) (fun _ hk => hk.2) (.int .i64 t563)) (fun _ hk => hk.2) (.int .i64 t564)) (fun _ hk => hk.2) (.int .i64 t565)) (fun _ hk => hk.2) (.slice Ao14 t566.length co14)) (fun _ hk => trivial))⟩, ⟨by (with_reducible repeat (first | apply kb1 | apply kb2 | apply kb3 | refine kb4 ?_ NB560_570.out _)); exact BK560.out⟩, ⟨by (with_reducible repeat (first | apply kb1 | apply kb2 | apply kb3 | apply blkPut5_4 | apply blkPut5_3 | apply blkPut5_2 | apply blkPut5_1 | apply blkPut5_0)); exact BK570.out⟩, ⟨by repeat (first | (with_reducible first | exact HB.out | apply kc1 | apply kc2 | apply kc3 | refine kc4 ?_ GE560.out | refine kc4 ?_ GE570.out) | exact HB.out)⟩⟩
 case rest =>
  clear HC6
  try clear c1
  try clear p2
  try clear c5
  try clear q5
  try clear c12
  try clear c15
  try clear c15b0
  try clear c16
  try clear c19
  try clear hcz13
  try clear hcz17
  try clear hcz18
  try clear hcz20
  try clear hcz9
  try clear q571
  obtain ⟨kq, x33_5, rfl, HA, HJ5, HO_571004, BK560, BK570, HB⟩ := hcut
  cases kq with
  | zero => exact absurd HA.out (by simp [trivetlaw16_SpreadEven.j0])
  | succ kj5 =>
   have H := HA.out
   clear HA
   simp only [trivetlaw16_SpreadEven.j0] at H
   by_cases c21 : x33_5 = true
   ·subst c21
    have H1 : (some t561) = some r := by rw [if_pos rfl] at H; exact H
    clear H
    have H := H1
    clear H1
    obtain rfl := Option.some.inj H
    go_wp2
    repeat (go_quiet (fail); try go_wp2)
    go_ret
    exact ⟨by first | rfl | (simp [errW_none, errW_some] <;> rfl) | (simp [*, errW_none, errW_some] <;> rfl), by repeat (first | (with_reducible first | exact HB.out | apply kc1 | apply kc2 | apply kc3 | refine kc4 ?_ GE560.out | refine kc4 ?_ GE570.out) | exact HB.out)⟩
   ·replace c21 := Bool.eq_false_iff.mpr c21
    subst c21
    have H1 : (trivetlaw16_SpreadEven.l0 kj5 t561 0 t562 t563 t564 t565 t566) = some r := by rw [if_neg (show ¬ (false = true) by decide)] at H; exact H
    clear H
    have H := H1
    clear H1
    have H' := ka H
    clear H
    go_wp2
    repeat (go_quiet (fail); try go_wp2)
    (try simp only [Act.put, List.setIfInBounds_toArray, List.set_cons_zero, List.set_cons_succ])
    go_loopg [10] kj5 (fun kq v10 w' => ∃ (x10_2 : Int), v10 = .int .i64 x10_2 ∧ Aside0 (trivetlaw16_SpreadEven.l0 kq t561 x10_2 t562 t563 t564 t565 t566 = some r) ∧ Aside0 (kq ≤ kj5) ∧ Aside0 (Kd.R (Kd.int .i64) 2 w' w.heap.size (fun _ => True) (.slice Ao14 t566.length co14) t566) ∧ Aside0 (w'.heap[gb560]? = some (.cells #[.int .i64 a0_0, .int .i64 a0_1, .int .i64 a0_2, .int .i64 a0_3, .int .i64 a0_4, (.slice A0_5 l0_5.length c0_5)] 24 (0, 0))) ∧ Aside0 (w'.heap[gb570]? = some (.cells #[.int .i64 t562, .int .i64 t563, .int .i64 t564, .int .i64 t565, (.slice Ao14 t566.length co14)] 27 (0, 0))) ∧ Aside0 (Below w.heap.size w w'))
    case atStart => exact ⟨(0), (by first | rfl | (simp; done) | (simp [*]; done)), H', ⟨Nat.le_refl _⟩, ⟨kr HO_571004.out⟩, ⟨by (with_reducible repeat (first | apply kb1 | apply kb2 | apply kb3)); exact BK560.out⟩, ⟨by (with_reducible repeat (first | apply kb1 | apply kb2 | apply kb3)); exact BK570.out⟩, ⟨by repeat (first | (with_reducible first | exact HB.out | apply kc1 | apply kc2 | apply kc3 | refine kc4 ?_ GE560.out | refine kc4 ?_ GE570.out) | exact HB.out)⟩⟩
    case round =>
     clear H'
     try clear c1
     try clear c2
     try clear p2
     try clear c5
     try clear q5
     try clear c12
     try clear c15
     try clear c15b0
     try clear c16
     try clear c19
     try clear c21
     try clear hcz13
     try clear hcz17
     try clear hcz18
     try clear hcz20
     try clear hcz9
     try clear p2
     try clear q5
     try clear q571
     obtain ⟨x10_2, rfl, HA, HK2, HO_571004, BK560, BK570, HB⟩ := hrel
     cases gk with
     | zero => exact absurd HA.out (by simp [trivetlaw16_SpreadEven.l0])
     | succ k2 =>
      have H := HA.out
      clear HA
      simp only [trivetlaw16_SpreadEven.l0] at H
      by_cases c22 : x10_2 < (t566.length : Int)
      ·rw [if_pos c22] at H
       have c22b0 : decide (x10_2 < (t566.length : Int)) = true := decide_eq_true c22
       clear c22
       have H' := ka H
       clear H
       have hnb23 := NB570_560.out
       have hnc23 := NB560_570.out
       have hcz24 := blkAll5 BK570.out
       go_wp2
       repeat (go_quiet (fail); try go_wp2)
       (try simp only [Act.put, List.setIfInBounds_toArray, List.set_cons_zero, List.set_cons_succ])
       go_loopg [11] k2 (fun kq v11 w' => ∃ (x11_3 : Int), v11 = .int .i64 x11_3 ∧ Aside0 (trivetlaw16_SpreadEven.l1 kq t561 x10_2 x11_3 t562 t563 t564 t565 t566 = some r) ∧ Aside0 (kq ≤ k2) ∧ Aside0 (Kd.R (Kd.int .i64) 2 w' w.heap.size (fun _ => True) (.slice Ao14 t566.length co14) t566) ∧ Aside0 (w'.heap[gb560]? = some (.cells #[.int .i64 a0_0, .int .i64 a0_1, .int .i64 a0_2, .int .i64 a0_3, .int .i64 a0_4, (.slice A0_5 l0_5.length c0_5)] 24 (0, 0))) ∧ Aside0 (w'.heap[gb570]? = some (.cells #[.int .i64 t562, .int .i64 t563, .int .i64 t564, .int .i64 t565, (.slice Ao14 t566.length co14)] 27 (0, 0))) ∧ Aside0 (Below w.heap.size w w'))
       case atStart => exact ⟨(0), (by first | rfl | (simp; done) | (simp [*]; done)), H', ⟨Nat.le_refl _⟩, ⟨kr HO_571004.out⟩, ⟨by (with_reducible repeat (first | apply kb1 | apply kb2 | apply kb3)); exact BK560.out⟩, ⟨by (with_reducible repeat (first | apply kb1 | apply kb2 | apply kb3)); exact BK570.out⟩, ⟨by repeat (first | (with_reducible first | exact HB.out | apply kc1 | apply kc2 | apply kc3 | refine kc4 ?_ GE560.out | refine kc4 ?_ GE570.out) | exact HB.out)⟩⟩
       case round =>
        clear H'
        try clear c1
        try clear c2
        try clear p2
        try clear c5
        try clear q5
        try clear c12
        try clear c15
        try clear c15b0
        try clear c16
        try clear c19
        try clear c21
        try clear c22
        try clear c22b0
        try clear c23
        try clear hcz13
        try clear hcz17
        try clear hcz18
        try clear hcz20
        try clear hcz24
        try clear hcz9
        try clear p2
        try clear q5
        try clear q571
        obtain ⟨x11_3, rfl, HA, HK3, HO_571004, BK560, BK570, HB⟩ := hrel
        cases gk with
        | zero => exact absurd HA.out (by simp [trivetlaw16_SpreadEven.l1])
        | succ k3 =>
         have H := HA.out
         clear HA
         simp only [trivetlaw16_SpreadEven.l1] at H
         by_cases c25 : x11_3 < (t566.length : Int)
         ·rw [if_pos c25] at H
          have c25b0 : decide (x11_3 < (t566.length : Int)) = true := decide_eq_true c25
          clear c25
          by_cases c26 : 0 ≤ x10_2
          ·rw [if_pos c26] at H
           have c26b0 : decide (0 ≤ x10_2) = true := decide_eq_true c26
           clear c26
           by_cases c27 : x10_2 < (t566.length : Int)
           ·rw [if_pos c27] at H
            have c27b0 : decide (x10_2 < (t566.length : Int)) = true := decide_eq_true c27
            clear c27
            by_cases c28 : 0 ≤ x11_3
            ·rw [if_pos c28] at H
             have c28b0 : decide (0 ≤ x11_3) = true := decide_eq_true c28
             clear c28
             by_cases c29 : (wrap64 ((rd t566 x10_2) - (rd t566 x11_3))) > 2
             ·rw [if_pos c29] at H
              exact absurd H (by simp)
             ·rw [if_neg c29] at H
              have c29b0 : decide (2 < (wrap64 ((rd t566 x10_2) - (rd t566 x11_3)))) = false := decide_eq_false c29
              clear c29
              have H' := ka H
              clear H
              have hnb30 := NB570_560.out
              have hnc30 := NB560_570.out
              have hcz31 := blkAll5 BK570.out
              have p572 : 0 ≤ (x10_2 : Int) := of_decide_eq_true (by first | (with_reducible assumption) | assumption)
              have q572 : x10_2 < (t566.length : Int) := of_decide_eq_true (by first | (with_reducible assumption) | assumption)
              obtain ⟨ad572, e572, hx572_0⟩ := Kd.at_int (Kd.R_reads' HO_571004.out).2.2 x10_2 p572 q572
              cases e572
              replace p572 := eq_true p572
              replace q572 := eq_true q572
              have p573 : 0 ≤ (x11_3 : Int) := of_decide_eq_true (by first | (with_reducible assumption) | assumption)
              have q573 : x11_3 < (t566.length : Int) := of_decide_eq_true (by first | (with_reducible assumption) | assumption)
              obtain ⟨ad573, e573, hx573_0⟩ := Kd.at_int (Kd.R_reads' HO_571004.out).2.2 x11_3 p573 q573
              obtain rfl : ad572 = ad573 := (by injection e573)
              replace p573 := eq_true p573
              replace q573 := eq_true q573
              go_wp2
              repeat (go_quiet (fail); try go_wp2)
              go_roundg k3
              case measure => have := HJ5.out; have := HK2.out; have := HK3.out; omega
              case rel => exact ⟨(wrap64 (x11_3 + 1)), (by first | rfl | (simp; done) | (simp [*]; done)), H', ⟨by have := HJ5.out; have := HK2.out; have := HK3.out; omega⟩, ⟨kr HO_571004.out⟩, ⟨by (with_reducible repeat (first | apply kb1 | apply kb2 | apply kb3)); exact BK560.out⟩, ⟨by (with_reducible repeat (first | apply kb1 | apply kb2 | apply kb3)); exact BK570.out⟩, ⟨by repeat (first | (with_reducible first | exact HB.out | apply kc1 | apply kc2 | apply kc3 | refine kc4 ?_ GE560.out | refine kc4 ?_ GE570.out) | exact HB.out)⟩⟩
            ·rw [if_neg c28] at H
             exact absurd H (by simp)
           ·rw [if_neg c27] at H
            exact absurd H (by simp)
          ·rw [if_neg c26] at H
           exact absurd H (by simp)
         ·rw [if_neg c25] at H
          have c25b0 : decide (x11_3 < (t566.length : Int)) = false := decide_eq_false c25
          clear c25
          have H' := ka H
          clear H
          have hnb32 := NB570_560.out
          have hnc32 := NB560_570.out
          have hcz33 := blkAll5 BK570.out
          go_wp2
          repeat (go_quiet (fail); try go_wp2)
          go_roundg k3
          case measure => have := HJ5.out; have := HK2.out; have := HK3.out; omega
          case rel => exact ⟨(wrap64 (x10_2 + 1)), (by first | rfl | (simp; done) | (simp [*]; done)), H', ⟨by have := HJ5.out; have := HK2.out; have := HK3.out; omega⟩, ⟨kr HO_571004.out⟩, ⟨by (with_reducible repeat (first | apply kb1 | apply kb2 | apply kb3)); exact BK560.out⟩, ⟨by (with_reducible repeat (first | apply kb1 | apply kb2 | apply kb3)); exact BK570.out⟩, ⟨by repeat (first | (with_reducible first | exact HB.out | apply kc1 | apply kc2 | apply kc3 | refine kc4 ?_ GE560.out | refine kc4 ?_ GE570.out) | exact HB.out)⟩⟩
      ·rw [if_neg c22] at H
       have c22b0 : decide (x10_2 < (t566.length : Int)) = false := decide_eq_false c22
       clear c22
       obtain rfl := Option.some.inj H
       have hnb34 := NB570_560.out
       have hnc34 := NB560_570.out
       have hcz35 := blkAll5 BK570.out
       go_wp2
       repeat (go_quiet (fail); try go_wp2)
       go_ret
       exact ⟨by first | rfl | (simp [errW_none, errW_some] <;> rfl) | (simp [*, errW_none, errW_some] <;> rfl), by repeat (first | (with_reducible first | exact HB.out | apply kc1 | apply kc2 | apply kc3 | refine kc4 ?_ GE560.out | refine kc4 ?_ GE570.out) | exact HB.out)⟩

/-- THE ONE PURE STATEMENT of trivetlaw16_SpreadEven: yours. -/
def trivetlaw16_SpreadEven.Pure : Prop := ∀ (a0_0 : Int) (a0_1 : Int) (a0_2 : Int) (a0_3 : Int) (a0_4 : Int) (l0_5 : List Int) (a1 : Int) (a2 : Bool), (Lit.int .i64 a0_0).wf = true → (Lit.int .i64 a0_1).wf = true → (Lit.int .i64 a0_2).wf = true → (Lit.int .i64 a0_3).wf = true → (Lit.int .i64 a0_4).wf = true → l0_5.length ≤ maxLen → l0_5.length * 8 ≤ 140737488351232 → (∀ x ∈ l0_5, (Lit.int .i64 x).wf = true) → (Lit.int .i64 a1).wf = true → ∃ k, trivetlaw16_SpreadEven.f k a0_0 a0_1 a0_2 a0_3 a0_4 l0_5 a1 a2 = some true
theorem trivetlaw16_SpreadEven.walk (P : trivetlaw16_SpreadEven.Pure) (a0_0 : Int) (a0_1 : Int) (a0_2 : Int) (a0_3 : Int) (a0_4 : Int) (a0_5 : Option Addr) (len0_5 cap0_5 : Nat) (z0_5 : List Int) (a1 : Int) (a2 : Bool) (w : World) (w0_0 : (Lit.int .i64 a0_0).wf = true) (w0_1 : (Lit.int .i64 a0_1).wf = true) (w0_2 : (Lit.int .i64 a0_2).wf = true) (w0_3 : (Lit.int .i64 a0_3).wf = true) (w0_4 : (Lit.int .i64 a0_4).wf = true) (w0_5 : (a0_5 = none ∧ len0_5 = 0 ∧ cap0_5 = 0 ∧ z0_5 = []) ∨ ∃ x, a0_5 = some x ∧ len0_5 ≤ cap0_5 ∧ cap0_5 ≤ maxLen ∧ z0_5.length = cap0_5 ∧ (∀ i, i < z0_5.length → w.cell? (x.add i) = some (.int .i64 (z0_5.getD i 0))) ∧ ∀ n ∈ z0_5, (Lit.int .i64 n).wf = true) (y0_5 : len0_5 * 8 ≤ 140737488351232) (w1 : (Lit.int .i64 a1).wf = true) :
  Calls Try.prog 5 #[.agg #[.int .i64 a0_0, .int .i64 a0_1, .int .i64 a0_2, .int .i64 a0_3, .int .i64 a0_4, .slice a0_5 len0_5 cap0_5], .int .i64 a1, .bool a2] w fun e w' => e = .returned (.bool true) ∧ Below w.heap.size w w' := by
 obtain ⟨l0_5, rfl, hr0_5, hm0_5, hw0_5, hc0_5⟩ := ReadsInt.ofRowC w0_5
 obtain ⟨k, h⟩ := P a0_0 a0_1 a0_2 a0_3 a0_4 l0_5 a1 a2 w0_0 w0_1 w0_2 w0_3 w0_4 hm0_5 y0_5 hw0_5 w1
 refine (trivetlaw16_SpreadEven.calls k a0_0 a0_1 a0_2 a0_3 a0_4 _ _ l0_5 a1 a2 true w (Kd.C_of_reads (d := (0 : Int)) (h1 := fun _ => rfl) hr0_5) hc0_5 h).mono ?_
 rintro e w' ⟨rfl, hd⟩
 exact ⟨rfl, hd⟩

end Go.Proofs.Ytjeghhheenenbaa.P
