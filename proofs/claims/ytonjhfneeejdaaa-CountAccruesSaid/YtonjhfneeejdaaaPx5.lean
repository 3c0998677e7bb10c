-- Written by a program of this session out of the translation of the seat: Lean functions and the proofs that the Go functions come to them.
import Derived.Test.YtonjhfneeejdaaaPx0
import Derived.Test.YtonjhfneeejdaaaPx4
namespace Go.Proofs.Ytonjhfneeejdaaa.P
open Go.RowKit Go.Proofs.YtonjhfneeejdaaaW.PrintWords Go.Proofs.YtonjhfneeejdaaaW.PrintLast Go.Proofs.YtonjhfneeejdaaaW.PrintMore
attribute [local go_sem] max2_int min2_int max_two min_two max_three min_three max_four min_four   -- for this text's walks alone
set_option linter.unusedVariables false
set_option linter.unusedSimpArgs false

/-! ### trivetref01_Mul: function 13 -/
mutual
def trivetref01_Mul.l0 : Nat → List Int → Int → List Int → Bool → List Int → Bool → Option (List Int × Bool)
 | 0, _, _, _, _, _, _ => none
 | k + 1, x5, x6, x458000, x458001, x459000, x459001 => if x6 < (x458000.length : Int) then (if 0 ≤ x6 then (if (x6 : Int).toNat ≤ 35184372088832 then (trivetref01_Mul.l1 k x5 x6 (List.replicate (x6 : Int).toNat 0) 0 0 x458000 x458001 x459000 x459001) else (none)) else (none)) else ((trivetref01_norm.f k x5 (!(x458001 == x459001))).bind fun bt460 => (some (bt460.1, bt460.2)))
def trivetref01_Mul.l1 : Nat → List Int → Int → List Int → Int → Int → List Int → Bool → List Int → Bool → Option (List Int × Bool)
 | 0, _, _, _, _, _, _, _, _, _ => none
 | k + 1, x5, x6, x7, x8, x9, x458000, x458001, x459000, x459001 => if x9 < (x459000.length : Int) then (if 0 ≤ x6 then (if x6 < (x458000.length : Int) then (if 0 ≤ x9 then (if x7.length < 17592186044416 then (trivetref01_Mul.l1 k x5 x6 (x7 ++ [Int.tmod (IntKind.u64.wrap ((IntKind.u64.wrap ((rd x458000 x6) * (rd x459000 x9))) + x8)) 65536]) (IntKind.u64.wrap (Int.tdiv (IntKind.u64.wrap ((IntKind.u64.wrap ((rd x458000 x6) * (rd x459000 x9))) + x8)) 65536)) (wrap64 (x9 + 1)) x458000 x458001 x459000 x459001) else (none)) else (none)) else (none)) else (none)) else (if x7.length < 17592186044416 then ((trivetref01_plus.f k x5 (x7 ++ [x8])).bind fun t475 => (trivetref01_Mul.l0 k t475 (wrap64 (x6 + 1)) x458000 x458001 x459000 x459001)) else (none))
end
def trivetref01_Mul.f (k : Nat) (l0_0 : List Int) (a0_1 : Bool) (l1_0 : List Int) (a1_1 : Bool) : Option (List Int × Bool) := trivetref01_Mul.l0 k ([] : List Int) 0 l0_0 a0_1 l1_0 a1_1
theorem trivetref01_Mul.mono_l : ∀ k, (∀ y0 y1 y2 y3 y4 y5, LeO (trivetref01_Mul.l0 k y0 y1 y2 y3 y4 y5) (trivetref01_Mul.l0 (k + 1) y0 y1 y2 y3 y4 y5)) ∧ (∀ y0 y1 y2 y3 y4 y5 y6 y7 y8, LeO (trivetref01_Mul.l1 k y0 y1 y2 y3 y4 y5 y6 y7 y8) (trivetref01_Mul.l1 (k + 1) y0 y1 y2 y3 y4 y5 y6 y7 y8))
 | 0 => ⟨fun _ _ _ _ _ _ r h => by simp [trivetref01_Mul.l0] at h, fun _ _ _ _ _ _ _ _ _ r h => by simp [trivetref01_Mul.l1] at h⟩
 | k + 1 => by
  obtain ⟨ih0, ih1⟩ := trivetref01_Mul.mono_l k
  refine ⟨?_, ?_⟩
  ·intro y0 y1 y2 y3 y4 y5
   unfold trivetref01_Mul.l0
   repeat' first
   | (with_reducible exact ih0 _ _ _ _ _ _)
   | (with_reducible exact ih1 _ _ _ _ _ _ _ _ _)
   | (with_reducible exact trivetref01_norm.mono _ _ _)
   | (with_reducible exact trivetref01_plus.mono _ _ _)
   | (with_reducible exact LeO.refl _)
   | (with_reducible exact LeO.none _)
   | (with_reducible refine LeO.ite ?_ ?_)
   | (with_reducible refine LeO.bind ?_ (fun _ => ?_))
   | exact ih0 _ _ _ _ _ _
   | exact ih1 _ _ _ _ _ _ _ _ _
   | exact trivetref01_norm.mono _ _ _
   | exact trivetref01_plus.mono _ _ _
   | exact LeO.none _
   | refine LeO.ite ?_ ?_
   | refine LeO.bind ?_ (fun _ => ?_)
  ·intro y0 y1 y2 y3 y4 y5 y6 y7 y8
   unfold trivetref01_Mul.l1
   repeat' first
   | (with_reducible exact ih0 _ _ _ _ _ _)
   | (with_reducible exact ih1 _ _ _ _ _ _ _ _ _)
   | (with_reducible exact trivetref01_norm.mono _ _ _)
   | (with_reducible exact trivetref01_plus.mono _ _ _)
   | (with_reducible exact LeO.refl _)
   | (with_reducible exact LeO.none _)
   | (with_reducible refine LeO.ite ?_ ?_)
   | (with_reducible refine LeO.bind ?_ (fun _ => ?_))
   | exact ih0 _ _ _ _ _ _
   | exact ih1 _ _ _ _ _ _ _ _ _
   | exact trivetref01_norm.mono _ _ _
   | exact trivetref01_plus.mono _ _ _
   | exact LeO.none _
   | refine LeO.ite ?_ ?_
   | refine LeO.bind ?_ (fun _ => ?_)
theorem trivetref01_Mul.mono : ∀ a0 a1 a2 a3 k, LeO (trivetref01_Mul.f k a0 a1 a2 a3) (trivetref01_Mul.f (k + 1) a0 a1 a2 a3) := by
 intro a0 a1 a2 a3 k
 obtain ⟨ih0, ih1⟩ := trivetref01_Mul.mono_l k
 unfold trivetref01_Mul.f
 repeat' first
   | (with_reducible exact ih0 _ _ _ _ _ _)
   | (with_reducible exact ih1 _ _ _ _ _ _ _ _ _)
   | (with_reducible exact trivetref01_norm.mono _ _ _)
   | (with_reducible exact trivetref01_plus.mono _ _ _)
   | (with_reducible exact LeO.refl _)
   | (with_reducible exact LeO.none _)
   | (with_reducible refine LeO.ite ?_ ?_)
   | (with_reducible refine LeO.bind ?_ (fun _ => ?_))
   | exact ih0 _ _ _ _ _ _
   | exact ih1 _ _ _ _ _ _ _ _ _
   | exact trivetref01_norm.mono _ _ _
   | exact trivetref01_plus.mono _ _ _
   | exact LeO.none _
   | refine LeO.ite ?_ ?_
   | refine LeO.bind ?_ (fun _ => ?_)
set_option maxHeartbeats 8000000 in
set_option maxRecDepth 100000 in
theorem trivetref01_Mul.calls (k : Nat) (A0_0 : Option Addr) (c0_0 : Nat) (l0_0 : List Int) (a0_1 : Bool) (A1_0 : Option Addr) (c1_0 : Nat) (l1_0 : List Int) (a1_1 : Bool) (r1 : List Int) (r2 : Bool) (w : World) (hr0_0 : Kd.C (Kd.int .u64) w A0_0 l0_0.length l0_0) (hc0_0 : l0_0.length ≤ c0_0) (hr1_0 : Kd.C (Kd.int .u64) w A1_0 l1_0.length l1_0) (hc1_0 : l1_0.length ≤ c1_0) (h : trivetref01_Mul.f k l0_0 a0_1 l1_0 a1_1 = some (r1, r2)) :
  Calls Try.prog 13 #[.agg #[.slice A0_0 l0_0.length c0_0, .bool a0_1], .agg #[.slice A1_0 l1_0.length c1_0, .bool a1_1]] w fun e w' => ∃ v0_ : Value, e = .returned (.agg #[v0_, .bool r2]) ∧ Kd.V (Kd.int .u64) 53 w' w.heap.size (fun k_ => (w.heap.size ≤ k_)) v0_ r1 ∧ Below w.heap.size w w' := by
 have hu37 := Try.underlying37
 have HR0_0 := ka hr0_0
 have HC0_0 := ka hc0_0
 clear hr0_0 hc0_0
 have HR1_0 := ka hr1_0
 have HC1_0 := ka hc1_0
 clear hr1_0 hc1_0
 have HB := ka (Below.refl w.heap.size w)
 have H : (trivetref01_Mul.l0 k ([] : List Int) 0 l0_0 a0_1 l1_0 a1_1) = some (r1, r2) := h
 clear h
 have H' := ka H
 clear H
 go_enter Try.func13, Try.ntmps13
 go_wp2_with (first | ((with_reducible refine gate_dst (N := 2) rfl ?_); refine kx (N := 2) (cs := #[.slice A0_0 l0_0.length c0_0, .bool a0_1]) (t := 37) ?_; intro gb457 hg w3 hbox hb; have n0_ := ka (below_step (kw HB.out) hb); have n1_ := ka (hbox); have n2_ := ka ((by rw [hg]; exact (below_size (kw HB.out)) : w.heap.size ≤ gb457)); have n3_ := n2_; clear HB; have HB := n0_; have BK457 := n1_; have GW457 := n2_; have GE457 := n3_; clear n0_ n1_ n2_ n3_; clear hb hbox hg) | ((with_reducible refine gate_dst (N := 3) rfl ?_); refine kx (N := 3) (cs := #[.slice A1_0 l1_0.length c1_0, .bool a1_1]) (t := 37) ?_; intro gb458 hg w4 hbox hb; have n0_ := ka (blk_below (g := gb457) (kz BK457.out) hb); have n1_ := ka (below_step (kw HB.out) hb); have n2_ := ka (hbox); have n3_ := ka ((by rw [hg]; exact (below_size (kw HB.out)) : w.heap.size ≤ gb458)); have n4_ := n3_; have n5_ := ka ((by rw [hg]; exact Nat.ne_of_lt (blk_lt (g := gb457) (kz BK457.out)) : gb457 ≠ gb458)); have n6_ := ka n5_.out.symm; clear BK457; clear HB; have BK457 := n0_; have HB := n1_; have BK458 := n2_; have GW458 := n3_; have GE458 := n4_; have NB457_458 := n5_; have NB458_457 := n6_; clear n0_ n1_ n2_ n3_ n4_ n5_ n6_; clear hb hbox hg) | ((with_reducible refine gate_dst (N := 4) rfl ?_); refine kx (N := 4) (cs := #[.slice none 0 0, .bool false]) (t := 37) ?_; intro gb459 hg w5 hbox hb; have n0_ := ka (blk_below (g := gb457) (kz BK457.out) hb); have n1_ := ka (blk_below (g := gb458) (kz BK458.out) hb); have n2_ := ka (below_step (kw HB.out) hb); have n3_ := ka (hbox); have n4_ := ka ((by rw [hg]; exact (below_size (kw HB.out)) : w.heap.size ≤ gb459)); have n5_ := n4_; have n6_ := ka ((by rw [hg]; exact Nat.ne_of_lt (blk_lt (g := gb457) (kz BK457.out)) : gb457 ≠ gb459)); have n7_ := ka n6_.out.symm; have n8_ := ka ((by rw [hg]; exact Nat.ne_of_lt (blk_lt (g := gb458) (kz BK458.out)) : gb458 ≠ gb459)); have n9_ := ka n8_.out.symm; clear BK457; clear BK458; clear HB; have BK457 := n0_; have BK458 := n1_; have HB := n2_; have BK459 := n3_; have GW459 := n4_; have GE459 := n5_; have NB457_459 := n6_; have NB459_457 := n7_; have NB458_459 := n8_; have NB459_458 := n9_; clear n0_ n1_ n2_ n3_ n4_ n5_ n6_ n7_ n8_ n9_; clear hb hbox hg))
 repeat (go_quiet (first | ((with_reducible refine gate_dst (N := 2) rfl ?_); refine kx (N := 2) (cs := #[.slice A0_0 l0_0.length c0_0, .bool a0_1]) (t := 37) ?_; intro gb457 hg w3 hbox hb; have n0_ := ka (below_step (kw HB.out) hb); have n1_ := ka (hbox); have n2_ := ka ((by rw [hg]; exact (below_size (kw HB.out)) : w.heap.size ≤ gb457)); have n3_ := n2_; clear HB; have HB := n0_; have BK457 := n1_; have GW457 := n2_; have GE457 := n3_; clear n0_ n1_ n2_ n3_; clear hb hbox hg) | ((with_reducible refine gate_dst (N := 3) rfl ?_); refine kx (N := 3) (cs := #[.slice A1_0 l1_0.length c1_0, .bool a1_1]) (t := 37) ?_; intro gb458 hg w4 hbox hb; have n0_ := ka (blk_below (g := gb457) (kz BK457.out) hb); have n1_ := ka (below_step (kw HB.out) hb); have n2_ := ka (hbox); have n3_ := ka ((by rw [hg]; exact (below_size (kw HB.out)) : w.heap.size ≤ gb458)); have n4_ := n3_; have n5_ := ka ((by rw [hg]; exact Nat.ne_of_lt (blk_lt (g := gb457) (kz BK457.out)) : gb457 ≠ gb458)); have n6_ := ka n5_.out.symm; clear BK457; clear HB; have BK457 := n0_; have HB := n1_; have BK458 := n2_; have GW458 := n3_; have GE458 := n4_; have NB457_458 := n5_; have NB458_457 := n6_; clear n0_ n1_ n2_ n3_ n4_ n5_ n6_; clear hb hbox hg) | ((with_reducible refine gate_dst (N := 4) rfl ?_); refine kx (N := 4) (cs := #[.slice none 0 0, .bool false]) (t := 37) ?_; intro gb459 hg w5 hbox hb; have n0_ := ka (blk_below (g := gb457) (kz BK457.out) hb); have n1_ := ka (blk_below (g := gb458) (kz BK458.out) hb); have n2_ := ka (below_step (kw HB.out) hb); have n3_ := ka (hbox); have n4_ := ka ((by rw [hg]; exact (below_size (kw HB.out)) : w.heap.size ≤ gb459)); have n5_ := n4_; have n6_ := ka ((by rw [hg]; exact Nat.ne_of_lt (blk_lt (g := gb457) (kz BK457.out)) : gb457 ≠ gb459)); have n7_ := ka n6_.out.symm; have n8_ := ka ((by rw [hg]; exact Nat.ne_of_lt (blk_lt (g := gb458) (kz BK458.out)) : gb458 ≠ gb459)); have n9_ := ka n8_.out.symm; clear BK457; clear BK458; clear HB; have BK457 := n0_; have BK458 := n1_; have HB := n2_; have BK459 := n3_; have GW459 := n4_; have GE459 := n5_; have NB457_459 := n6_; have NB459_457 := n7_; have NB458_459 := n8_; have NB459_458 := n9_; clear n0_ n1_ n2_ n3_ n4_ n5_ n6_ n7_ n8_ n9_; clear hb hbox hg)); try go_wp2_with (first | ((with_reducible refine gate_dst (N := 2) rfl ?_); refine kx (N := 2) (cs := #[.slice A0_0 l0_0.length c0_0, .bool a0_1]) (t := 37) ?_; intro gb457 hg w3 hbox hb; have n0_ := ka (below_step (kw HB.out) hb); have n1_ := ka (hbox); have n2_ := ka ((by rw [hg]; exact (below_size (kw HB.out)) : w.heap.size ≤ gb457)); have n3_ := n2_; clear HB; have HB := n0_; have BK457 := n1_; have GW457 := n2_; have GE457 := n3_; clear n0_ n1_ n2_ n3_; clear hb hbox hg) | ((with_reducible refine gate_dst (N := 3) rfl ?_); refine kx (N := 3) (cs := #[.slice A1_0 l1_0.length c1_0, .bool a1_1]) (t := 37) ?_; intro gb458 hg w4 hbox hb; have n0_ := ka (blk_below (g := gb457) (kz BK457.out) hb); have n1_ := ka (below_step (kw HB.out) hb); have n2_ := ka (hbox); have n3_ := ka ((by rw [hg]; exact (below_size (kw HB.out)) : w.heap.size ≤ gb458)); have n4_ := n3_; have n5_ := ka ((by rw [hg]; exact Nat.ne_of_lt (blk_lt (g := gb457) (kz BK457.out)) : gb457 ≠ gb458)); have n6_ := ka n5_.out.symm; clear BK457; clear HB; have BK457 := n0_; have HB := n1_; have BK458 := n2_; have GW458 := n3_; have GE458 := n4_; have NB457_458 := n5_; have NB458_457 := n6_; clear n0_ n1_ n2_ n3_ n4_ n5_ n6_; clear hb hbox hg) | ((with_reducible refine gate_dst (N := 4) rfl ?_); refine kx (N := 4) (cs := #[.slice none 0 0, .bool false]) (t := 37) ?_; intro gb459 hg w5 hbox hb; have n0_ := ka (blk_below (g := gb457) (kz BK457.out) hb); have n1_ := ka (blk_below (g := gb458) (kz BK458.out) hb); have n2_ := ka (below_step (kw HB.out) hb); have n3_ := ka (hbox); have n4_ := ka ((by rw [hg]; exact (below_size (kw HB.out)) : w.heap.size ≤ gb459)); have n5_ := n4_; have n6_ := ka ((by rw [hg]; exact Nat.ne_of_lt (blk_lt (g := gb457) (kz BK457.out)) : gb457 ≠ gb459)); have n7_ := ka n6_.out.symm; have n8_ := ka ((by rw [hg]; exact Nat.ne_of_lt (blk_lt (g := gb458) (kz BK458.out)) : gb458 ≠ gb459)); have n9_ := ka n8_.out.symm; clear BK457; clear BK458; clear HB; have BK457 := n0_; have BK458 := n1_; have HB := n2_; have BK459 := n3_; have GW459 := n4_; have GE459 := n5_; have NB457_459 := n6_; have NB459_457 := n7_; have NB458_459 := n8_; have NB459_458 := n9_; clear n0_ n1_ n2_ n3_ n4_ n5_ n6_ n7_ n8_ n9_; clear hb hbox hg)))
 (try simp only [Act.put, List.setIfInBounds_toArray, List.set_cons_zero, List.set_cons_succ])
 go_loopg [5, 6] k (fun kq v5 v6 w' => ∃ (x5_1 : List Int) (x6_1 : Int), v6 = .int .i64 x6_1 ∧ Aside0 (trivetref01_Mul.l0 kq x5_1 x6_1 l0_0 a0_1 l1_0 a1_1 = some (r1, r2)) ∧ Aside0 (kq ≤ k) ∧ Aside0 (Kd.R (Kd.int .u64) 53 w' w.heap.size (fun k_ => (w.heap.size ≤ k_)) v5 x5_1) ∧ Aside0 (w'.heap[gb457]? = some (.cells #[(.slice A0_0 l0_0.length c0_0), .bool a0_1] 37 (0, 0))) ∧ Aside0 (w'.heap[gb458]? = some (.cells #[(.slice A1_0 l1_0.length c1_0), .bool a1_1] 37 (0, 0))) ∧ Aside0 (w'.heap[gb459]? = some (.cells #[(.slice none 0 0), .bool false] 37 (0, 0))) ∧ Aside0 (Below w.heap.size w w'))
 case atStart => exact ⟨(([] : List Int)), (0), (by first | rfl | (simp; done) | (simp [*]; done)), H', ⟨Nat.le_refl _⟩, ⟨by first | exact Kd.R_nil _ _ _ _ _ | exact Kd.N_nil _ _ _ _ _ | exact Kd.V_nil _ _ _ _ _ | exact Kd.Q_nil _ _ _ _ _ | exact Kd.S_nil _ _ _ _ _⟩, ⟨by (with_reducible repeat (first | apply kb1 | apply kb2 | apply kb3)); exact BK457.out⟩, ⟨by (with_reducible repeat (first | apply kb1 | apply kb2 | apply kb3)); exact BK458.out⟩, ⟨by (with_reducible repeat (first | apply kb1 | apply kb2 | apply kb3)); exact BK459.out⟩, ⟨by repeat (first | (with_reducible first | exact HB.out | apply kc1 | apply kc2 | apply kc3 | refine kc4 ?_ GE457.out | refine kc4 ?_ GE458.out | refine kc4 ?_ GE459.out) | exact HB.out)⟩⟩
 case round =>
  clear H'
  try clear c1
  try clear p2
  obtain ⟨x5_1, x6_1, rfl, HA, HK1, HO_5, BK457, BK458, BK459, HB⟩ := hrel
  cases gk with
  | zero => exact absurd HA.out (by simp [trivetref01_Mul.l0])
  | succ k1 =>
   have H := HA.out
   clear HA
   simp only [trivetref01_Mul.l0] at H
   by_cases c6 : x6_1 < (l0_0.length : Int)
   ·rw [if_pos c6] at H
    have c6b0 : decide (x6_1 < (l0_0.length : Int)) = true := decide_eq_true c6
    clear c6
    by_cases c7 : 0 ≤ x6_1
    ·rw [if_pos c7] at H
     have c7b0 := eq_true c7
     have c7b1 : decide (0 ≤ x6_1) = true := decide_eq_true c7
     clear c7
     by_cases c8 : (x6_1 : Int).toNat ≤ 35184372088832
     ·rw [if_pos c8] at H
      have c8b0 := eq_true c8
      have c8b1 : decide ((x6_1 : Int).toNat ≤ 35184372088832) = true := decide_eq_true c8
      clear c8
      obtain ⟨y464, hy464⟩ : ∃ y_ : List Int, y_ = (List.replicate (x6_1 : Int).toNat 0) := ⟨_, rfl⟩
      replace H : (trivetref01_Mul.l1 k1 x5_1 x6_1 y464 0 0 l0_0 a0_1 l1_0 a1_1) = some (r1, r2) := by first | (rw [hy464]; with_reducible exact H) | (have H2_ := (Option.bind_some _ _).symm.trans H; rw [hy464]; with_reducible exact H2_) | (have H2_ := (Option.bind_some _ _).symm.trans H; with_reducible exact H2_) | with_reducible exact H | (rw [hy464]; exact H) | exact H
      have Ny464 := ka hy464
      clear hy464
      have H' := ka H
      clear H
      have hnb9 := NB457_458.out
      have hnc9 := NB458_457.out
      have hnb10 := NB457_459.out
      have hnc10 := NB459_457.out
      have hcz11 := blkAll2 BK457.out
      go_wp2_with (first | ((with_reducible refine gate_dst (N := 19) rfl ?_); refine Kd.R_make (Kd.int .u64) _ 53 rfl (N := 19) rfl 35 _ _ rfl x6_1 rfl rfl Try.underlying35 (.int .u64 0) 8 info53 rfl (by decide) (by omega) 0 (ok := fun _ => True) (okp := fun _ => True) rfl (fun _ hk => hk) trivial (of_decide_eq_true (by first | (with_reducible assumption) | assumption)) (Nat.le_trans (Nat.mul_le_mul_right _ (of_decide_eq_true (by first | (with_reducible assumption) | assumption) : x6_1.toNat ≤ 35184372088832)) (by omega)) (Below.refl _ _) (Nat.le_refl _) ?_; intro v465 w12 ho13 hb hg_ hnew_; clear hg_ hnew_; (first | rw [← Ny464.out] at ho13 | (simp only [Int.reduceToNat] at ho13; rw [← Ny464.out] at ho13)); have HO466 := ka (Kd.R_lower (Kd.R_new' (Kd.R_newM (M := fun k_ => (w.heap.size ≤ k_)) ho13 (below_size (kw HB.out)) (fun k_ h_ => h_)) (Kd.R_lt (kr HO_5.out))) (below_size (kw HB.out))); replace HO_5 := ka (Kd.R_elder' (kr HO_5.out) (Kd.R_base ho13) hb); replace BK457 := kbb BK457 hb; replace BK458 := kbb BK458 hb; replace BK459 := kbb BK459 hb; replace HB := ka (below_step (kw HB.out) hb); clear hb ho13))
      repeat (go_quiet (first | ((with_reducible refine gate_dst (N := 19) rfl ?_); refine Kd.R_make (Kd.int .u64) _ 53 rfl (N := 19) rfl 35 _ _ rfl x6_1 rfl rfl Try.underlying35 (.int .u64 0) 8 info53 rfl (by decide) (by omega) 0 (ok := fun _ => True) (okp := fun _ => True) rfl (fun _ hk => hk) trivial (of_decide_eq_true (by first | (with_reducible assumption) | assumption)) (Nat.le_trans (Nat.mul_le_mul_right _ (of_decide_eq_true (by first | (with_reducible assumption) | assumption) : x6_1.toNat ≤ 35184372088832)) (by omega)) (Below.refl _ _) (Nat.le_refl _) ?_; intro v465 w12 ho13 hb hg_ hnew_; clear hg_ hnew_; (first | rw [← Ny464.out] at ho13 | (simp only [Int.reduceToNat] at ho13; rw [← Ny464.out] at ho13)); have HO466 := ka (Kd.R_lower (Kd.R_new' (Kd.R_newM (M := fun k_ => (w.heap.size ≤ k_)) ho13 (below_size (kw HB.out)) (fun k_ h_ => h_)) (Kd.R_lt (kr HO_5.out))) (below_size (kw HB.out))); replace HO_5 := ka (Kd.R_elder' (kr HO_5.out) (Kd.R_base ho13) hb); replace BK457 := kbb BK457 hb; replace BK458 := kbb BK458 hb; replace BK459 := kbb BK459 hb; replace HB := ka (below_step (kw HB.out) hb); clear hb ho13)); try go_wp2_with (first | ((with_reducible refine gate_dst (N := 19) rfl ?_); refine Kd.R_make (Kd.int .u64) _ 53 rfl (N := 19) rfl 35 _ _ rfl x6_1 rfl rfl Try.underlying35 (.int .u64 0) 8 info53 rfl (by decide) (by omega) 0 (ok := fun _ => True) (okp := fun _ => True) rfl (fun _ hk => hk) trivial (of_decide_eq_true (by first | (with_reducible assumption) | assumption)) (Nat.le_trans (Nat.mul_le_mul_right _ (of_decide_eq_true (by first | (with_reducible assumption) | assumption) : x6_1.toNat ≤ 35184372088832)) (by omega)) (Below.refl _ _) (Nat.le_refl _) ?_; intro v465 w12 ho13 hb hg_ hnew_; clear hg_ hnew_; (first | rw [← Ny464.out] at ho13 | (simp only [Int.reduceToNat] at ho13; rw [← Ny464.out] at ho13)); have HO466 := ka (Kd.R_lower (Kd.R_new' (Kd.R_newM (M := fun k_ => (w.heap.size ≤ k_)) ho13 (below_size (kw HB.out)) (fun k_ h_ => h_)) (Kd.R_lt (kr HO_5.out))) (below_size (kw HB.out))); replace HO_5 := ka (Kd.R_elder' (kr HO_5.out) (Kd.R_base ho13) hb); replace BK457 := kbb BK457 hb; replace BK458 := kbb BK458 hb; replace BK459 := kbb BK459 hb; replace HB := ka (below_step (kw HB.out) hb); clear hb ho13)))
      (try simp only [Act.put, List.setIfInBounds_toArray, List.set_cons_zero, List.set_cons_succ])
      go_loopg [7, 8, 9] k1 (fun kq v7 v8 v9 w' => ∃ (x7_2 : List Int) (x8_2 : Int) (x9_2 : Int), v8 = .int .u64 x8_2 ∧ v9 = .int .i64 x9_2 ∧ Aside0 (trivetref01_Mul.l1 kq x5_1 x6_1 x7_2 x8_2 x9_2 l0_0 a0_1 l1_0 a1_1 = some (r1, r2)) ∧ Aside0 (kq ≤ k1) ∧ Aside0 (Kd.R (Kd.int .u64) 53 w' w.heap.size (fun k_ => (w.heap.size ≤ k_) ∧ some k_ ≠ (v7 : Value).ownBlock) u5 x5_1) ∧ Aside0 (Kd.R (Kd.int .u64) 53 w' w.heap.size (fun k_ => (w.heap.size ≤ k_) ∧ some k_ ≠ (u5 : Value).ownBlock) v7 x7_2) ∧ Aside0 (w'.heap[gb457]? = some (.cells #[(.slice A0_0 l0_0.length c0_0), .bool a0_1] 37 (0, 0))) ∧ Aside0 (w'.heap[gb458]? = some (.cells #[(.slice A1_0 l1_0.length c1_0), .bool a1_1] 37 (0, 0))) ∧ Aside0 (w'.heap[gb459]? = some (.cells #[(.slice none 0 0), .bool false] 37 (0, 0))) ∧ Aside0 (Below w.heap.size w w'))
      case atStart => exact ⟨(y464), (0), (0), (by first | rfl | (simp; done) | (simp [*]; done)), (by first | rfl | (simp; done) | (simp [*]; done)), H', ⟨Nat.le_refl _⟩, ⟨kr HO_5.out⟩, ⟨kr (Kd.R_mono HO466.out (fun _ hk => ⟨hk.1.1, hk.2⟩))⟩, ⟨by (with_reducible repeat (first | apply kb1 | apply kb2 | apply kb3)); exact BK457.out⟩, ⟨by (with_reducible repeat (first | apply kb1 | apply kb2 | apply kb3)); exact BK458.out⟩, ⟨by (with_reducible repeat (first | apply kb1 | apply kb2 | apply kb3)); exact BK459.out⟩, ⟨by repeat (first | (with_reducible first | exact HB.out | apply kc1 | apply kc2 | apply kc3 | refine kc4 ?_ GE457.out | refine kc4 ?_ GE458.out | refine kc4 ?_ GE459.out) | exact HB.out)⟩⟩
      case round =>
       clear H'
       try clear c1
       try clear p2
       try clear c6
       try clear c6b0
       try clear c7
       try clear c7b0
       try clear c7b1
       try clear c8
       try clear c8b0
       try clear c8b1
       try clear c9
       try clear c10
       try clear c13
       try clear hcz11
       try clear p2
       obtain ⟨x7_2, x8_2, x9_2, rfl, rfl, HA, HK2, HO_5, HO_7, BK457, BK458, BK459, HB⟩ := hrel
       cases gk with
       | zero => exact absurd HA.out (by simp [trivetref01_Mul.l1])
       | succ k2 =>
        have H := HA.out
        clear HA
        simp only [trivetref01_Mul.l1] at H
        by_cases c14 : x9_2 < (l1_0.length : Int)
        ·rw [if_pos c14] at H
         have c14b0 : decide (x9_2 < (l1_0.length : Int)) = true := decide_eq_true c14
         clear c14
         by_cases c15 : 0 ≤ x6_1
         ·rw [if_pos c15] at H
          have c15b0 : decide (0 ≤ x6_1) = true := decide_eq_true c15
          clear c15
          by_cases c16 : x6_1 < (l0_0.length : Int)
          ·rw [if_pos c16] at H
           have c16b0 : decide (x6_1 < (l0_0.length : Int)) = true := decide_eq_true c16
           clear c16
           by_cases c17 : 0 ≤ x9_2
           ·rw [if_pos c17] at H
            have c17b0 : decide (0 ≤ x9_2) = true := decide_eq_true c17
            clear c17
            by_cases c18 : x7_2.length < 17592186044416
            ·rw [if_pos c18] at H
             have LMc18 := ka c18
             clear c18
             obtain ⟨y469, hy469⟩ : ∃ y_ : List Int, y_ = (x7_2 ++ [Int.tmod (IntKind.u64.wrap ((IntKind.u64.wrap ((rd l0_0 x6_1) * (rd l1_0 x9_2))) + x8_2)) 65536]) := ⟨_, rfl⟩
             replace H : (trivetref01_Mul.l1 k2 x5_1 x6_1 y469 (IntKind.u64.wrap (Int.tdiv (IntKind.u64.wrap ((IntKind.u64.wrap ((rd l0_0 x6_1) * (rd l1_0 x9_2))) + x8_2)) 65536)) (wrap64 (x9_2 + 1)) l0_0 a0_1 l1_0 a1_1) = some (r1, r2) := by first | (rw [hy469]; with_reducible exact H) | (have H2_ := (Option.bind_some _ _).symm.trans H; rw [hy469]; with_reducible exact H2_) | (have H2_ := (Option.bind_some _ _).symm.trans H; with_reducible exact H2_) | with_reducible exact H | (rw [hy469]; exact H) | exact H
             have Ny469 := ka hy469
             clear hy469
             have H' := ka H
             clear H
             have hnb19 := NB458_457.out
             have hnc19 := NB457_458.out
             have hnb20 := NB458_459.out
             have hnc20 := NB459_458.out
             have hcz21 := blkAll2 BK458.out
             have hnb22 := NB457_459.out
             have hnc22 := NB459_457.out
             have hcz23 := blkAll2 BK457.out
             have p467 : 0 ≤ (x6_1 : Int) := of_decide_eq_true (by first | (with_reducible assumption) | assumption)
             have q467 : x6_1 < (l0_0.length : Int) := of_decide_eq_true (by first | (with_reducible assumption) | assumption)
             obtain ⟨ad467, e467, hx467_0⟩ := Kd.at_int HR0_0.out x6_1 p467 q467
             cases e467
             replace hx467_0 := (HB.out.cell (World.block_lt_of_cell? w _ hx467_0)).trans hx467_0
             replace p467 := eq_true p467
             replace q467 := eq_true q467
             have p468 : 0 ≤ (x9_2 : Int) := of_decide_eq_true (by first | (with_reducible assumption) | assumption)
             have q468 : x9_2 < (l1_0.length : Int) := of_decide_eq_true (by first | (with_reducible assumption) | assumption)
             obtain ⟨ad468, e468, hx468_0⟩ := Kd.at_int HR1_0.out x9_2 p468 q468
             cases e468
             replace hx468_0 := (HB.out.cell (World.block_lt_of_cell? w _ hx468_0)).trans hx468_0
             replace p468 := eq_true p468
             replace q468 := eq_true q468
             go_wp2_with (first | ((with_reducible refine gate_builtin (b := .append) (xs := #[.tmp 40, .tmp 43]) rfl ?_); at_builtin; refine Kd.R_append (Kd.int .u64) (w0 := w) w.heap.size rfl (.tmp 40) (.tmp 43) 35 53 (.int .u64 0) 8 rfl Try.underlying35 info53 rfl (by decide) (by omega) u7 x7_2 (Int.tmod (IntKind.u64.wrap ((IntKind.u64.wrap ((rd l0_0 x6_1) * (rd l1_0 x9_2))) + x8_2)) 65536) [.int .u64 (Int.tmod (IntKind.u64.wrap ((IntKind.u64.wrap ((rd l0_0 x6_1) * (rd l1_0 x9_2))) + x8_2)) 65536)] (fun k_ => (w.heap.size ≤ k_) ∧ some k_ ≠ (u5 : Value).ownBlock) (fun _ => False) rfl rfl ?aP (fun _ hk => hk.elim) ?aF ?aO ?aB ?aS ?aL ?_; (case aP => exact rfl); (case aB => exact (kw HB.out)); (case aF => exact (fun k_ hk => ⟨(Nat.le_trans (below_size (kw HB.out)) hk), Kd.fresh' (Kd.R_lt (kr HO_5.out)) k_ hk⟩)); (case aO => exact (kr HO_7.out)); (case aS => exact (below_size (kw HB.out))); (case aL => have := LMc18.out; omega); intro v470 w24 ho hb hg hat; rw [← Ny469.out] at ho; replace HO_5 := ka (Kd.R_after (ok := (fun k_ => (w.heap.size ≤ k_))) (kr HO_5.out) hg hat); replace BK457 := ka (blk_grown (g := gb457) (kz BK457.out) hg (Kd.R_ne HO_7.out BK457.out (by decide))); replace BK458 := ka (blk_grown (g := gb458) (kz BK458.out) hg (Kd.R_ne HO_7.out BK458.out (by decide))); replace BK459 := ka (blk_grown (g := gb459) (kz BK459.out) hg (Kd.R_ne HO_7.out BK459.out (by decide))); replace HB := ka (hb); have HO471 := ka (ho); clear HO_7; clear ho hb hg hat))
             repeat (go_quiet (first | ((with_reducible refine gate_builtin (b := .append) (xs := #[.tmp 40, .tmp 43]) rfl ?_); at_builtin; refine Kd.R_append (Kd.int .u64) (w0 := w) w.heap.size rfl (.tmp 40) (.tmp 43) 35 53 (.int .u64 0) 8 rfl Try.underlying35 info53 rfl (by decide) (by omega) u7 x7_2 (Int.tmod (IntKind.u64.wrap ((IntKind.u64.wrap ((rd l0_0 x6_1) * (rd l1_0 x9_2))) + x8_2)) 65536) [.int .u64 (Int.tmod (IntKind.u64.wrap ((IntKind.u64.wrap ((rd l0_0 x6_1) * (rd l1_0 x9_2))) + x8_2)) 65536)] (fun k_ => (w.heap.size ≤ k_) ∧ some k_ ≠ (u5 : Value).ownBlock) (fun _ => False) rfl rfl ?aP (fun _ hk => hk.elim) ?aF ?aO ?aB ?aS ?aL ?_; (case aP => exact rfl); (case aB => exact (kw HB.out)); (case aF => exact (fun k_ hk => ⟨(Nat.le_trans (below_size (kw HB.out)) hk), Kd.fresh' (Kd.R_lt (kr HO_5.out)) k_ hk⟩)); (case aO => exact (kr HO_7.out)); (case aS => exact (below_size (kw HB.out))); (case aL => have := LMc18.out; omega); intro v470 w24 ho hb hg hat; rw [← Ny469.out] at ho; replace HO_5 := ka (Kd.R_after (ok := (fun k_ => (w.heap.size ≤ k_))) (kr HO_5.out) hg hat); replace BK457 := ka (blk_grown (g := gb457) (kz BK457.out) hg (Kd.R_ne HO_7.out BK457.out (by decide))); replace BK458 := ka (blk_grown (g := gb458) (kz BK458.out) hg (Kd.R_ne HO_7.out BK458.out (by decide))); replace BK459 := ka (blk_grown (g := gb459) (kz BK459.out) hg (Kd.R_ne HO_7.out BK459.out (by decide))); replace HB := ka (hb); have HO471 := ka (ho); clear HO_7; clear ho hb hg hat)); try go_wp2_with (first | ((with_reducible refine gate_builtin (b := .append) (xs := #[.tmp 40, .tmp 43]) rfl ?_); at_builtin; refine Kd.R_append (Kd.int .u64) (w0 := w) w.heap.size rfl (.tmp 40) (.tmp 43) 35 53 (.int .u64 0) 8 rfl Try.underlying35 info53 rfl (by decide) (by omega) u7 x7_2 (Int.tmod (IntKind.u64.wrap ((IntKind.u64.wrap ((rd l0_0 x6_1) * (rd l1_0 x9_2))) + x8_2)) 65536) [.int .u64 (Int.tmod (IntKind.u64.wrap ((IntKind.u64.wrap ((rd l0_0 x6_1) * (rd l1_0 x9_2))) + x8_2)) 65536)] (fun k_ => (w.heap.size ≤ k_) ∧ some k_ ≠ (u5 : Value).ownBlock) (fun _ => False) rfl rfl ?aP (fun _ hk => hk.elim) ?aF ?aO ?aB ?aS ?aL ?_; (case aP => exact rfl); (case aB => exact (kw HB.out)); (case aF => exact (fun k_ hk => ⟨(Nat.le_trans (below_size (kw HB.out)) hk), Kd.fresh' (Kd.R_lt (kr HO_5.out)) k_ hk⟩)); (case aO => exact (kr HO_7.out)); (case aS => exact (below_size (kw HB.out))); (case aL => have := LMc18.out; omega); intro v470 w24 ho hb hg hat; rw [← Ny469.out] at ho; replace HO_5 := ka (Kd.R_after (ok := (fun k_ => (w.heap.size ≤ k_))) (kr HO_5.out) hg hat); replace BK457 := ka (blk_grown (g := gb457) (kz BK457.out) hg (Kd.R_ne HO_7.out BK457.out (by decide))); replace BK458 := ka (blk_grown (g := gb458) (kz BK458.out) hg (Kd.R_ne HO_7.out BK458.out (by decide))); replace BK459 := ka (blk_grown (g := gb459) (kz BK459.out) hg (Kd.R_ne HO_7.out BK459.out (by decide))); replace HB := ka (hb); have HO471 := ka (ho); clear HO_7; clear ho hb hg hat)))
             go_roundg k2
             case measure => have := HK1.out; have := HK2.out; omega
             case rel => exact ⟨(y469), (IntKind.u64.wrap (Int.tdiv (IntKind.u64.wrap ((IntKind.u64.wrap ((rd l0_0 x6_1) * (rd l1_0 x9_2))) + x8_2)) 65536)), (wrap64 (x9_2 + 1)), (by first | rfl | (simp; done) | (simp [*]; done)), (by first | rfl | (simp; done) | (simp [*]; done)), H', ⟨by have := HK1.out; have := HK2.out; omega⟩, ⟨kr HO_5.out⟩, ⟨kr HO471.out⟩, ⟨by (with_reducible repeat (first | apply kb1 | apply kb2 | apply kb3)); exact BK457.out⟩, ⟨by (with_reducible repeat (first | apply kb1 | apply kb2 | apply kb3)); exact BK458.out⟩, ⟨by (with_reducible repeat (first | apply kb1 | apply kb2 | apply kb3)); exact BK459.out⟩, ⟨by repeat (first | (with_reducible first | exact HB.out | apply kc1 | apply kc2 | apply kc3 | refine kc4 ?_ GE457.out | refine kc4 ?_ GE458.out | refine kc4 ?_ GE459.out) | exact HB.out)⟩⟩
            ·rw [if_neg c18] at H
             exact absurd H (by simp)
           ·rw [if_neg c17] at H
            exact absurd H (by simp)
          ·rw [if_neg c16] at H
           exact absurd H (by simp)
         ·rw [if_neg c15] at H
          exact absurd H (by simp)
        ·rw [if_neg c14] at H
         have c14b0 : decide (x9_2 < (l1_0.length : Int)) = false := decide_eq_false c14
         clear c14
         by_cases c25 : x7_2.length < 17592186044416
         ·rw [if_pos c25] at H
          have LMc25 := ka c25
          clear c25
          obtain ⟨y472, hy472⟩ : ∃ y_ : List Int, y_ = (x7_2 ++ [x8_2]) := ⟨_, rfl⟩
          replace H : ((trivetref01_plus.f k2 x5_1 y472).bind fun t475 => (trivetref01_Mul.l0 k2 t475 (wrap64 (x6_1 + 1)) l0_0 a0_1 l1_0 a1_1)) = some (r1, r2) := by first | (rw [hy472]; with_reducible exact H) | (have H2_ := (Option.bind_some _ _).symm.trans H; rw [hy472]; with_reducible exact H2_) | (have H2_ := (Option.bind_some _ _).symm.trans H; with_reducible exact H2_) | with_reducible exact H | (rw [hy472]; exact H) | exact H
          have Ny472 := ka hy472
          clear hy472
          replace H := Option.bind_eq_some_iff.mp H
          obtain ⟨t475, A260, H⟩ := H
          replace H : (trivetref01_Mul.l0 k2 t475 (wrap64 (x6_1 + 1)) l0_0 a0_1 l1_0 a1_1) = some (r1, r2) := H
          have A26 := ka A260
          clear A260
          have H' := ka H
          clear H
          have hnb27 := NB458_457.out
          have hnc27 := NB457_458.out
          have hnb28 := NB458_459.out
          have hnc28 := NB459_458.out
          have hcz29 := blkAll2 BK458.out
          go_wp2_with (first | ((with_reducible refine gate_builtin (b := .append) (xs := #[.tmp 47, .tmp 49]) rfl ?_); at_builtin; refine Kd.R_append (Kd.int .u64) (w0 := w) w.heap.size rfl (.tmp 47) (.tmp 49) 35 53 (.int .u64 0) 8 rfl Try.underlying35 info53 rfl (by decide) (by omega) u7 x7_2 x8_2 [.int .u64 x8_2] (fun k_ => (w.heap.size ≤ k_) ∧ some k_ ≠ (u5 : Value).ownBlock) (fun _ => False) rfl rfl ?aP (fun _ hk => hk.elim) ?aF ?aO ?aB ?aS ?aL ?_; (case aP => exact rfl); (case aB => exact (kw HB.out)); (case aF => exact (fun k_ hk => ⟨(Nat.le_trans (below_size (kw HB.out)) hk), Kd.fresh' (Kd.R_lt (kr HO_5.out)) k_ hk⟩)); (case aO => exact (kr HO_7.out)); (case aS => exact (below_size (kw HB.out))); (case aL => have := LMc25.out; omega); intro v473 w30 ho hb hg hat; rw [← Ny472.out] at ho; replace HO_5 := ka (Kd.R_after (ok := (fun k_ => (w.heap.size ≤ k_))) (kr HO_5.out) hg hat); replace BK457 := ka (blk_grown (g := gb457) (kz BK457.out) hg (Kd.R_ne HO_7.out BK457.out (by decide))); replace BK458 := ka (blk_grown (g := gb458) (kz BK458.out) hg (Kd.R_ne HO_7.out BK458.out (by decide))); replace BK459 := ka (blk_grown (g := gb459) (kz BK459.out) hg (Kd.R_ne HO_7.out BK459.out (by decide))); replace HB := ka (hb); have HO474 := ka (ho); clear HO_7; clear ho hb hg hat; obtain ⟨Ao31, co31, eo31⟩ := Kd.R_slice HO_5.out; subst eo31; obtain ⟨Ao32, co32, eo32⟩ := Kd.R_slice HO474.out; subst eo32) | (go_at_call 24; (with_reducible refine (trivetref01_plus.calls k2 _ _ x5_1 _ _ y472 t475 _ ?side1 ?side2 ?side3 ?side4 A26.out).mono ?_); (case side1 => repeat (first | exact (Kd.R_reads' HO_5.out).2.2 | (with_reducible refine Kd.C_alloc ?_ _) | (with_reducible refine Kd.C_drewN ?_ _) | (with_reducible refine Kd.C_drew ?_))); (case side2 => exact (Kd.R_reads' HO_5.out).2.1); (case side3 => repeat (first | exact (Kd.R_reads' HO474.out).2.2 | (with_reducible refine Kd.C_alloc ?_ _) | (with_reducible refine Kd.C_drewN ?_ _) | (with_reducible refine Kd.C_drew ?_))); (case side4 => exact (Kd.R_reads' HO474.out).2.1); rintro e w33 ⟨v476, rfl, ho0, hb⟩; have HO477 := ka (Kd.R_lower (Kd.R_new' (Kd.R_new' (Kd.R_newM (M := fun k_ => (w.heap.size ≤ k_)) ho0 (below_size (kw HB.out)) (fun k_ h_ => h_)) (Kd.R_lt (kr HO_5.out))) (Kd.R_lt (kr HO474.out))) (below_size (kw HB.out))); replace HO_5 := ka (Kd.R_elder' (kr HO_5.out) (Kd.R_base ho0) hb); replace HO474 := ka (Kd.R_elder' (kr HO474.out) (Kd.R_base ho0) hb); replace BK457 := kbb BK457 hb; replace BK458 := kbb BK458 hb; replace BK459 := kbb BK459 hb; replace HB := ka (below_step (kw HB.out) hb); (try clear hb); (try clear hb2); (try clear hk); (try clear hi); (try clear ho0)))
          repeat (go_quiet (first | ((with_reducible refine gate_builtin (b := .append) (xs := #[.tmp 47, .tmp 49]) rfl ?_); at_builtin; refine Kd.R_append (Kd.int .u64) (w0 := w) w.heap.size rfl (.tmp 47) (.tmp 49) 35 53 (.int .u64 0) 8 rfl Try.underlying35 info53 rfl (by decide) (by omega) u7 x7_2 x8_2 [.int .u64 x8_2] (fun k_ => (w.heap.size ≤ k_) ∧ some k_ ≠ (u5 : Value).ownBlock) (fun _ => False) rfl rfl ?aP (fun _ hk => hk.elim) ?aF ?aO ?aB ?aS ?aL ?_; (case aP => exact rfl); (case aB => exact (kw HB.out)); (case aF => exact (fun k_ hk => ⟨(Nat.le_trans (below_size (kw HB.out)) hk), Kd.fresh' (Kd.R_lt (kr HO_5.out)) k_ hk⟩)); (case aO => exact (kr HO_7.out)); (case aS => exact (below_size (kw HB.out))); (case aL => have := LMc25.out; omega); intro v473 w30 ho hb hg hat; rw [← Ny472.out] at ho; replace HO_5 := ka (Kd.R_after (ok := (fun k_ => (w.heap.size ≤ k_))) (kr HO_5.out) hg hat); replace BK457 := ka (blk_grown (g := gb457) (kz BK457.out) hg (Kd.R_ne HO_7.out BK457.out (by decide))); replace BK458 := ka (blk_grown (g := gb458) (kz BK458.out) hg (Kd.R_ne HO_7.out BK458.out (by decide))); replace BK459 := ka (blk_grown (g := gb459) (kz BK459.out) hg (Kd.R_ne HO_7.out BK459.out (by decide))); replace HB := ka (hb); have HO474 := ka (ho); clear HO_7; clear ho hb hg hat; obtain ⟨Ao31, co31, eo31⟩ := Kd.R_slice HO_5.out; subst eo31; obtain ⟨Ao32, co32, eo32⟩ := Kd.R_slice HO474.out; subst eo32) | (go_at_call 24; (with_reducible refine (trivetref01_plus.calls k2 _ _ x5_1 _ _ y472 t475 _ ?side1 ?side2 ?side3 ?side4 A26.out).mono ?_); (case side1 => repeat (first | exact (Kd.R_reads' HO_5.out).2.2 | (with_reducible refine Kd.C_alloc ?_ _) | (with_reducible refine Kd.C_drewN ?_ _) | (with_reducible refine Kd.C_drew ?_))); (case side2 => exact (Kd.R_reads' HO_5.out).2.1); (case side3 => repeat (first | exact (Kd.R_reads' HO474.out).2.2 | (with_reducible refine Kd.C_alloc ?_ _) | (with_reducible refine Kd.C_drewN ?_ _) | (with_reducible refine Kd.C_drew ?_))); (case side4 => exact (Kd.R_reads' HO474.out).2.1); rintro e w33 ⟨v476, rfl, ho0, hb⟩; have HO477 := ka (Kd.R_lower (Kd.R_new' (Kd.R_new' (Kd.R_newM (M := fun k_ => (w.heap.size ≤ k_)) ho0 (below_size (kw HB.out)) (fun k_ h_ => h_)) (Kd.R_lt (kr HO_5.out))) (Kd.R_lt (kr HO474.out))) (below_size (kw HB.out))); replace HO_5 := ka (Kd.R_elder' (kr HO_5.out) (Kd.R_base ho0) hb); replace HO474 := ka (Kd.R_elder' (kr HO474.out) (Kd.R_base ho0) hb); replace BK457 := kbb BK457 hb; replace BK458 := kbb BK458 hb; replace BK459 := kbb BK459 hb; replace HB := ka (below_step (kw HB.out) hb); (try clear hb); (try clear hb2); (try clear hk); (try clear hi); (try clear ho0))); try go_wp2_with (first | ((with_reducible refine gate_builtin (b := .append) (xs := #[.tmp 47, .tmp 49]) rfl ?_); at_builtin; refine Kd.R_append (Kd.int .u64) (w0 := w) w.heap.size rfl (.tmp 47) (.tmp 49) 35 53 (.int .u64 0) 8 rfl Try.underlying35 info53 rfl (by decide) (by omega) u7 x7_2 x8_2 [.int .u64 x8_2] (fun k_ => (w.heap.size ≤ k_) ∧ some k_ ≠ (u5 : Value).ownBlock) (fun _ => False) rfl rfl ?aP (fun _ hk => hk.elim) ?aF ?aO ?aB ?aS ?aL ?_; (case aP => exact rfl); (case aB => exact (kw HB.out)); (case aF => exact (fun k_ hk => ⟨(Nat.le_trans (below_size (kw HB.out)) hk), Kd.fresh' (Kd.R_lt (kr HO_5.out)) k_ hk⟩)); (case aO => exact (kr HO_7.out)); (case aS => exact (below_size (kw HB.out))); (case aL => have := LMc25.out; omega); intro v473 w30 ho hb hg hat; rw [← Ny472.out] at ho; replace HO_5 := ka (Kd.R_after (ok := (fun k_ => (w.heap.size ≤ k_))) (kr HO_5.out) hg hat); replace BK457 := ka (blk_grown (g := gb457) (kz BK457.out) hg (Kd.R_ne HO_7.out BK457.out (by decide))); replace BK458 := ka (blk_grown (g := gb458) (kz BK458.out) hg (Kd.R_ne HO_7.out BK458.out (by decide))); replace BK459 := ka (blk_grown (g := gb459) (kz BK459.out) hg (Kd.R_ne HO_7.out BK459.out (by decide))); replace HB := ka (hb); have HO474 := ka (ho); clear HO_7; clear ho hb hg hat; obtain ⟨Ao31, co31, eo31⟩ := Kd.R_slice HO_5.out; subst eo31; obtain ⟨Ao32, co32, eo32⟩ := Kd.R_slice HO474.out; subst eo32) | (go_at_call 24; (with_reducible refine (trivetref01_plus.calls k2 _ _ x5_1 _ _ y472 t475 _ ?side1 ?side2 ?side3 ?side4 A26.out).mono ?_); (case side1 => repeat (first | exact (Kd.R_reads' HO_5.out).2.2 | (with_reducible refine Kd.C_alloc ?_ _) | (with_reducible refine Kd.C_drewN ?_ _) | (with_reducible refine Kd.C_drew ?_))); (case side2 => exact (Kd.R_reads' HO_5.out).2.1); (case side3 => repeat (first | exact (Kd.R_reads' HO474.out).2.2 | (with_reducible refine Kd.C_alloc ?_ _) | (with_reducible refine Kd.C_drewN ?_ _) | (with_reducible refine Kd.C_drew ?_))); (case side4 => exact (Kd.R_reads' HO474.out).2.1); rintro e w33 ⟨v476, rfl, ho0, hb⟩; have HO477 := ka (Kd.R_lower (Kd.R_new' (Kd.R_new' (Kd.R_newM (M := fun k_ => (w.heap.size ≤ k_)) ho0 (below_size (kw HB.out)) (fun k_ h_ => h_)) (Kd.R_lt (kr HO_5.out))) (Kd.R_lt (kr HO474.out))) (below_size (kw HB.out))); replace HO_5 := ka (Kd.R_elder' (kr HO_5.out) (Kd.R_base ho0) hb); replace HO474 := ka (Kd.R_elder' (kr HO474.out) (Kd.R_base ho0) hb); replace BK457 := kbb BK457 hb; replace BK458 := kbb BK458 hb; replace BK459 := kbb BK459 hb; replace HB := ka (below_step (kw HB.out) hb); (try clear hb); (try clear hb2); (try clear hk); (try clear hi); (try clear ho0))))
          go_roundg k2
          case measure => have := HK1.out; have := HK2.out; omega
          case rel => exact ⟨(t475), (wrap64 (x6_1 + 1)), (by first | rfl | (simp; done) | (simp [*]; done)), H', ⟨by have := HK1.out; have := HK2.out; omega⟩, ⟨kr (Kd.R_mono HO477.out (fun _ hk => hk.1.1.1))⟩, ⟨by (with_reducible repeat (first | apply kb1 | apply kb2 | apply kb3)); exact BK457.out⟩, ⟨by (with_reducible repeat (first | apply kb1 | apply kb2 | apply kb3)); exact BK458.out⟩, ⟨by (with_reducible repeat (first | apply kb1 | apply kb2 | apply kb3)); exact BK459.out⟩, ⟨by repeat (first | (with_reducible first | exact HB.out | apply kc1 | apply kc2 | apply kc3 | refine kc4 ?_ GE457.out | refine kc4 ?_ GE458.out | refine kc4 ?_ GE459.out) | exact HB.out)⟩⟩
         ·rw [if_neg c25] at H
          exact absurd H (by simp)
     ·rw [if_neg c8] at H
      exact absurd H (by simp)
    ·rw [if_neg c7] at H
     exact absurd H (by simp)
   ·rw [if_neg c6] at H
    have c6b0 : decide (x6_1 < (l0_0.length : Int)) = false := decide_eq_false c6
    clear c6
    replace H := Option.bind_eq_some_iff.mp H
    obtain ⟨⟨t460, t463⟩, A340, H⟩ := H
    replace H : (some (t460, t463)) = some (r1, r2) := H
    have A34 := ka A340
    clear A340
    simp only [Option.some.injEq, Prod.mk.injEq] at H
    obtain ⟨rfl, rfl⟩ := H
    have hnb35 := NB457_458.out
    have hnc35 := NB458_457.out
    have hnb36 := NB457_459.out
    have hnc36 := NB459_457.out
    have hcz37 := blkAll2 BK457.out
    have hnb38 := NB458_459.out
    have hnc38 := NB459_458.out
    have hcz39 := blkAll2 BK458.out
    obtain ⟨Ao40, co40, eo40⟩ := Kd.R_slice HO_5.out
    subst eo40
    go_wp2_with (first | (go_at_call 25; (with_reducible refine (trivetref01_norm.calls k1 (fun k_ => some k_ = (.slice Ao40 x5_1.length co40 : Value).ownBlock) _ _ x5_1 (!(a0_1 == a1_1)) t460 t463 _ ?side1 A34.out).mono ?_); (case side1 => exact Kd.R_V (Kd.R_tight rfl (Kd.R_types (Kd.R_types (Kd.R_types (HO_5.out) BK457.out (by decide)) BK458.out (by decide)) BK459.out (by decide)))); rintro e w41 ⟨v461, rfl, ho0, hb⟩; have HO462 := ka (Kd.V_lower (Kd.V_mono (ok' := fun k_ => (w.heap.size ≤ k_) ∧ k_ ≠ gb457 ∧ k_ ≠ gb458 ∧ k_ ≠ gb459) ho0 (fun k_ hk_ => ⟨Or.elim hk_ (fun hs_ => ((Kd.R_types (Kd.R_types (Kd.R_types (HO_5.out) BK457.out (by decide)) BK458.out (by decide)) BK459.out (by decide)).1 k_ hs_.symm).1.1.1) (fun hn_ => (Nat.le_trans (below_size (kw HB.out)) hn_)), Or.elim hk_ (fun hs_ => ((Kd.R_types (Kd.R_types (Kd.R_types (HO_5.out) BK457.out (by decide)) BK458.out (by decide)) BK459.out (by decide)).1 k_ hs_.symm).1.1.2) (fun hn_ => (kf BK457 hn_)), Or.elim hk_ (fun hs_ => ((Kd.R_types (Kd.R_types (Kd.R_types (HO_5.out) BK457.out (by decide)) BK458.out (by decide)) BK459.out (by decide)).1 k_ hs_.symm).1.2) (fun hn_ => (kf BK458 hn_)), Or.elim hk_ (fun hs_ => ((Kd.R_types (Kd.R_types (Kd.R_types (HO_5.out) BK457.out (by decide)) BK458.out (by decide)) BK459.out (by decide)).1 k_ hs_.symm).2) (fun hn_ => (kf BK459 hn_))⟩)) (below_size (kw HB.out))); replace HO_5 := ka (Kd.R_below (kr HO_5.out) hb); replace BK457 := kbb BK457 hb; replace BK458 := kbb BK458 hb; replace BK459 := kbb BK459 hb; replace HB := ka (below_step (kw HB.out) hb); (try clear hb); (try clear hb2); (try clear hk); (try clear hi); (try clear ho0); obtain ⟨Ao42, co42, eo42⟩ := Kd.V_slice HO462.out; subst eo42; have hcz43 := blkAll2 BK459.out))
    repeat (go_quiet (first | (go_at_call 25; (with_reducible refine (trivetref01_norm.calls k1 (fun k_ => some k_ = (.slice Ao40 x5_1.length co40 : Value).ownBlock) _ _ x5_1 (!(a0_1 == a1_1)) t460 t463 _ ?side1 A34.out).mono ?_); (case side1 => exact Kd.R_V (Kd.R_tight rfl (Kd.R_types (Kd.R_types (Kd.R_types (HO_5.out) BK457.out (by decide)) BK458.out (by decide)) BK459.out (by decide)))); rintro e w41 ⟨v461, rfl, ho0, hb⟩; have HO462 := ka (Kd.V_lower (Kd.V_mono (ok' := fun k_ => (w.heap.size ≤ k_) ∧ k_ ≠ gb457 ∧ k_ ≠ gb458 ∧ k_ ≠ gb459) ho0 (fun k_ hk_ => ⟨Or.elim hk_ (fun hs_ => ((Kd.R_types (Kd.R_types (Kd.R_types (HO_5.out) BK457.out (by decide)) BK458.out (by decide)) BK459.out (by decide)).1 k_ hs_.symm).1.1.1) (fun hn_ => (Nat.le_trans (below_size (kw HB.out)) hn_)), Or.elim hk_ (fun hs_ => ((Kd.R_types (Kd.R_types (Kd.R_types (HO_5.out) BK457.out (by decide)) BK458.out (by decide)) BK459.out (by decide)).1 k_ hs_.symm).1.1.2) (fun hn_ => (kf BK457 hn_)), Or.elim hk_ (fun hs_ => ((Kd.R_types (Kd.R_types (Kd.R_types (HO_5.out) BK457.out (by decide)) BK458.out (by decide)) BK459.out (by decide)).1 k_ hs_.symm).1.2) (fun hn_ => (kf BK458 hn_)), Or.elim hk_ (fun hs_ => ((Kd.R_types (Kd.R_types (Kd.R_types (HO_5.out) BK457.out (by decide)) BK458.out (by decide)) BK459.out (by decide)).1 k_ hs_.symm).2) (fun hn_ => (kf BK459 hn_))⟩)) (below_size (kw HB.out))); replace HO_5 := ka (Kd.R_below (kr HO_5.out) hb); replace BK457 := kbb BK457 hb; replace BK458 := kbb BK458 hb; replace BK459 := kbb BK459 hb; replace HB := ka (below_step (kw HB.out) hb); (try clear hb); (try clear hb2); (try clear hk); (try clear hi); (try clear ho0); obtain ⟨Ao42, co42, eo42⟩ := Kd.V_slice HO462.out; subst eo42; have hcz43 := blkAll2 BK459.out)); try go_wp2_with (first | (go_at_call 25; (with_reducible refine (trivetref01_norm.calls k1 (fun k_ => some k_ = (.slice Ao40 x5_1.length co40 : Value).ownBlock) _ _ x5_1 (!(a0_1 == a1_1)) t460 t463 _ ?side1 A34.out).mono ?_); (case side1 => exact Kd.R_V (Kd.R_tight rfl (Kd.R_types (Kd.R_types (Kd.R_types (HO_5.out) BK457.out (by decide)) BK458.out (by decide)) BK459.out (by decide)))); rintro e w41 ⟨v461, rfl, ho0, hb⟩; have HO462 := ka (Kd.V_lower (Kd.V_mono (ok' := fun k_ => (w.heap.size ≤ k_) ∧ k_ ≠ gb457 ∧ k_ ≠ gb458 ∧ k_ ≠ gb459) ho0 (fun k_ hk_ => ⟨Or.elim hk_ (fun hs_ => ((Kd.R_types (Kd.R_types (Kd.R_types (HO_5.out) BK457.out (by decide)) BK458.out (by decide)) BK459.out (by decide)).1 k_ hs_.symm).1.1.1) (fun hn_ => (Nat.le_trans (below_size (kw HB.out)) hn_)), Or.elim hk_ (fun hs_ => ((Kd.R_types (Kd.R_types (Kd.R_types (HO_5.out) BK457.out (by decide)) BK458.out (by decide)) BK459.out (by decide)).1 k_ hs_.symm).1.1.2) (fun hn_ => (kf BK457 hn_)), Or.elim hk_ (fun hs_ => ((Kd.R_types (Kd.R_types (Kd.R_types (HO_5.out) BK457.out (by decide)) BK458.out (by decide)) BK459.out (by decide)).1 k_ hs_.symm).1.2) (fun hn_ => (kf BK458 hn_)), Or.elim hk_ (fun hs_ => ((Kd.R_types (Kd.R_types (Kd.R_types (HO_5.out) BK457.out (by decide)) BK458.out (by decide)) BK459.out (by decide)).1 k_ hs_.symm).2) (fun hn_ => (kf BK459 hn_))⟩)) (below_size (kw HB.out))); replace HO_5 := ka (Kd.R_below (kr HO_5.out) hb); replace BK457 := kbb BK457 hb; replace BK458 := kbb BK458 hb; replace BK459 := kbb BK459 hb; replace HB := ka (below_step (kw HB.out) hb); (try clear hb); (try clear hb2); (try clear hk); (try clear hi); (try clear ho0); obtain ⟨Ao42, co42, eo42⟩ := Kd.V_slice HO462.out; subst eo42; have hcz43 := blkAll2 BK459.out)))
    refine bodyPost_ret (results_cell_row rfl _ _ gb459 37 #[.slice Ao42 t460.length co42, .bool t463] (0, 0) _ rfl (by (with_reducible repeat (first | apply kb1 | apply kb2 | apply kb3 | apply blkPut2_1 | apply blkPut2_0)); exact BK459.out) Try.underlying37 rfl (by kernel_rfl)) rfl ?_
    exact ⟨_, by first | rfl | (simp [errW_none, errW_some] <;> rfl) | (simp [*, errW_none, errW_some] <;> rfl), by (with_reducible repeat (first | apply Kd.V_alloc | apply Kd.V_drewN | apply Kd.V_drew)); exact Kd.V_mono (Kd.V_far (p := ⟨gb459, 1, none⟩) (Kd.V_far (p := ⟨gb459, 0, none⟩) (Kd.V_mono HO462.out (fun k_ hk => (⟨hk, hk.2.2.2⟩ : _ ∧ k_ ≠ gb459))) (fun _ hk => hk.2) (.slice Ao42 t460.length co42)) (fun _ hk => hk.2) (.bool t463)) (fun _ hk => hk.1.1), by repeat (first | (with_reducible first | exact HB.out | apply kc1 | apply kc2 | apply kc3 | refine kc4 ?_ GE457.out | refine kc4 ?_ GE458.out | refine kc4 ?_ GE459.out) | exact HB.out)⟩

/-! ### trivetref01_Mul: function 13, its laws -/
theorem trivetref01_Mul.row (n : Nat) : ∀ (k : Nat) (a b out row : List Int) (c : Int) (i j : Nat) (am bm : Bool), U.Dg a → U.Dg b → U.Dg row → 0 ≤ c ∧ c < 65536 → i < a.length → a.length ≤ 1000 → b.length = j + n → b.length ≤ 1000 → row.length = i + j →
  ∃ row', trivetref01_Mul.l1 (k + n + 1) out i row c j a am b bm = (trivetref01_plus.f k out row').bind (fun t => trivetref01_Mul.l0 k t ((i + 1 : Nat) : Int) a am b bm) ∧ U.Dg row' ∧ U.val row' = U.val row + 65536 ^ (i + j) * (c + a.getD i 0 * U.val (b.drop j)) ∧ row'.length = i + b.length + 1 := by
 induction n with
 | zero =>
  intro k a b out row c i j am bm ha hb hr hc hi la lb lb2 hl
  refine ⟨row ++ [c], ?_, hr.add (U.Dg.one hc), ?_, by simp; omega⟩
  ·rw [Nat.add_zero]
   simp only [trivetref01_Mul.l1]
   rw [if_neg (by omega), if_pos (by omega), M.w64_id (n := (i : Int) + 1) (by omega) (by omega)]
   rfl
  ·rw [U.val_append, U.val_one, hl, List.drop_eq_nil_of_le (by omega)]
   simp [U.val]
 | succ n ih =>
  intro k a b out row c i j am bm ha hb hr hc hi la lb lb2 hl
  have ga := ha.get i
  have gb := hb.get j
  have hp0 : 0 ≤ a.getD i 0 * b.getD j 0 := Int.mul_nonneg ga.1 gb.1
  have hp1 : a.getD i 0 * b.getD j 0 ≤ 65535 * 65535 := Int.mul_le_mul (by omega) (by omega) gb.1 (by decide)
  have ih' := fun q r => ih k a b out (row ++ [r]) q i (j + 1) am bm ha hb
  have e : trivetref01_Mul.l1 (k + (n + 1) + 1) out i row c j a am b bm = trivetref01_Mul.l1 (k + n + 1) out i (row ++ [(a.getD i 0 * b.getD j 0 + c) % 65536]) ((a.getD i 0 * b.getD j 0 + c) / 65536) ((j + 1 : Nat) : Int) a am b bm := by
   have ra : rd a (i : Int) = a.getD i 0 := rfl
   have rb : rd b (j : Int) = b.getD j 0 := rfl
   rw [show k + (n + 1) + 1 = (k + n + 1) + 1 by omega]
   conv => lhs; simp only [trivetref01_Mul.l1]
   rw [if_pos (by omega), if_pos (by omega), if_pos (by omega), if_pos (by omega), if_pos (by omega), ra, rb]
   generalize a.getD i 0 * b.getD j 0 = p at *
   rw [M.wrapu_id (n := p) (by omega) (by omega), M.wrapu_id (n := p + c) (by omega) (by omega), M.tdivu (show 0 ≤ p + c by omega), M.tmodu (show 0 ≤ p + c by omega), M.wrapu_id (n := (p + c) / 65536) (by omega) (by omega), M.w64_id (n := (j : Int) + 1) (by omega) (by omega)]
   rfl
  obtain ⟨row', r1, r2, r3, r4⟩ := ih' ((a.getD i 0 * b.getD j 0 + c) / 65536) ((a.getD i 0 * b.getD j 0 + c) % 65536) (hr.add (U.Dg.one (by omega))) (by omega) hi la (by omega) lb2 (by simp; omega)
  refine ⟨row', by rw [e, r1], r2, ?_, r4⟩
  rw [r3, U.val_append, U.val_one, hl, show i + (j + 1) = (i + j) + 1 by omega, U.pow_succ, U.drop_step b j, Int.mul_add (a.getD i 0)]
  generalize a.getD i 0 * b.getD j 0 = p at *
  have hm : a.getD i 0 * (65536 * U.val (b.drop (j + 1))) = 65536 * (a.getD i 0 * U.val (b.drop (j + 1))) := by rw [← Int.mul_assoc, Int.mul_comm _ 65536, Int.mul_assoc]
  rw [hm]
  generalize a.getD i 0 * U.val (b.drop (j + 1)) = u
  have : c + (p + 65536 * u) = (p + c) % 65536 + 65536 * ((p + c) / 65536 + u) := by omega
  rw [this]
  generalize (p + c) % 65536 = r
  generalize (p + c) / 65536 + u = s
  generalize (65536 : Int) ^ (i + j) = z
  rw [Int.mul_add, Int.mul_comm 65536 z, Int.mul_assoc, Int.add_assoc]
theorem trivetref01_Mul.loop (n : Nat) : ∀ (k : Nat) (a b out : List Int) (i : Nat) (am bm : Bool), U.Dg a → U.Dg b → U.Dg out → a.length = i + n → a.length ≤ 100 → b.length ≤ 100 → out.length ≤ i + b.length + 1 → n * 110 + 2000 ≤ k →
  ∃ d, trivetref01_Mul.l0 k out i a am b bm = trivetref01_norm.f (k - 1 - n * (b.length + 2)) d (!(am == bm)) ∧ U.Dg d ∧ U.val d = U.val out + 65536 ^ i * (U.val (a.drop i) * U.val b) ∧ d.length ≤ a.length + b.length + 1 := by
 induction n with
 | zero =>
  intro k a b out i am bm ha hb ho la la2 lb lo hk
  obtain ⟨j, rfl⟩ : ∃ j, k = j + 1 := ⟨k - 1, by omega⟩
  refine ⟨out, ?_, ho, ?_, by omega⟩
  ·simp only [trivetref01_Mul.l0]
   rw [if_neg (by omega), show j + 1 - 1 - 0 * (b.length + 2) = j by omega]
   cases trivetref01_norm.f j out (!(am == bm)) <;> rfl
  ·rw [List.drop_eq_nil_of_le (by omega)]; simp [U.val]
 | succ n ih =>
  intro k a b out i am bm ha hb ho la la2 lb lo hk
  obtain ⟨j, rfl⟩ : ∃ j, k = (j + b.length + 1) + 1 := ⟨k - b.length - 2, by omega⟩
  obtain ⟨row, r1, r2, r3, r4⟩ := trivetref01_Mul.row b.length j a b out (List.replicate i 0) 0 i 0 am bm ha hb (U.Dg.zeros i) (by decide) (by omega) (by omega) (by omega) (by omega) (by simp)
  obtain ⟨t, t1, t2, t3, t4⟩ := trivetref01_plus.num j out row ho r2 (by omega) (by omega) (by omega)
  obtain ⟨d, d1, d2, d3, d4⟩ := ih j a b t (i + 1) am bm ha hb t2 (by omega) la2 lb (by omega) (by omega)
  have r1' : trivetref01_Mul.l1 (j + b.length + 1) out i (List.replicate i 0) 0 0 a am b bm = _ := r1
  refine ⟨d, ?_, d2, ?_, d4⟩
  ·conv => lhs; simp only [trivetref01_Mul.l0]
   rw [if_pos (by omega), if_pos (by omega), if_pos (by omega), show ((i : Int)).toNat = i from rfl, r1', t1, Option.bind_some, d1]
   congr 1
   rw [Nat.add_mul]
   omega
  ·rw [d3, t3, r3, U.val_zeros, U.drop_step a i, U.pow_succ]
   simp only [Nat.add_zero, Int.zero_add, List.drop_zero]
   generalize a.getD i 0 = x
   generalize U.val (a.drop (i + 1)) = u
   generalize U.val b = v
   generalize (65536 : Int) ^ i = p
   rw [Int.add_mul, Int.mul_add, Int.add_assoc, Int.mul_comm 65536 p, Int.mul_assoc p 65536, Int.mul_assoc 65536 u]
theorem trivetref01_Mul.num (k : Nat) (x y : Int) (hx : M.abs x < 65536 ^ 32) (hy : M.abs y < 65536 ^ 32) (hk : 6000 ≤ k) : trivetref01_Mul.f k (U.num x).1 (U.num x).2 (U.num y).1 (U.num y).2 = some (U.num (x * y)) := by
 have lx := U.len_dig 32 _ hx
 have ly := U.len_dig 32 _ hy
 have x0 := U.abs_nonneg x
 have y0 := U.abs_nonneg y
 have vx := U.val_dig x0
 have vy := U.val_dig y0
 have hmul : (U.dig (M.abs x)).length * ((U.dig (M.abs y)).length + 2) ≤ 32 * 34 := Nat.mul_le_mul lx (by omega)
 obtain ⟨d, d1, d2, d3, d4⟩ := trivetref01_Mul.loop (U.dig (M.abs x)).length k (U.dig (M.abs x)) (U.dig (M.abs y)) [] 0 (decide (x < 0)) (decide (y < 0)) (U.dig_dg _) (U.dig_dg _) U.Dg.nil (by omega) (by omega) (by omega) (by simp) (by omega)
 have d1' : trivetref01_Mul.l0 k [] 0 (U.dig (M.abs x)) (decide (x < 0)) (U.dig (M.abs y)) (decide (y < 0)) = _ := d1
 show trivetref01_Mul.f k (U.dig (M.abs x)) (decide (x < 0)) (U.dig (M.abs y)) (decide (y < 0)) = _
 unfold trivetref01_Mul.f
 rw [d1', trivetref01_norm.num _ d _ (x * y) d2 (by omega) (by omega)]
 ·rw [d3, List.drop_zero, vx, vy]
  unfold M.abs
  by_cases c : x < 0 <;> by_cases c2 : y < 0 <;> simp [c, c2, U.val, Int.neg_mul, Int.mul_neg]

/-! ### trivetref01_Of: function 14 -/
mutual
def trivetref01_Of.j0 : Nat → Int → Int → Option (List Int × Bool)
 | 0, _, _ => none
 | k + 1, x0, x3 => trivetref01_Of.l0 k x0 x3 ([] : List Int) 0
def trivetref01_Of.l0 : Nat → Int → Int → List Int → Int → Option (List Int × Bool)
 | 0, _, _, _, _ => none
 | k + 1, x0, x3, x4, x5 => if x5 < 4 then (if x4.length < 17592186044416 then (trivetref01_Of.l0 k x0 (IntKind.u64.wrap (Int.tdiv x3 65536)) (x4 ++ [Int.tmod x3 65536]) (wrap64 (x5 + 1))) else (none)) else ((trivetref01_norm.f k x4 (decide (x0 < 0))).bind fun bt482 => (some (bt482.1, bt482.2)))
end
def trivetref01_Of.f (k : Nat) (a0 : Int) : Option (List Int × Bool) := if a0 < 0 then (trivetref01_Of.j0 k a0 (IntKind.u64.wrap ((Go.bits .xor .u64 18446744073709551615 (IntKind.u64.wrap (a0))) + 1))) else (trivetref01_Of.j0 k a0 (IntKind.u64.wrap (a0)))
theorem trivetref01_Of.mono_l : ∀ k, (∀ y0 y1, LeO (trivetref01_Of.j0 k y0 y1) (trivetref01_Of.j0 (k + 1) y0 y1)) ∧ (∀ y0 y1 y2 y3, LeO (trivetref01_Of.l0 k y0 y1 y2 y3) (trivetref01_Of.l0 (k + 1) y0 y1 y2 y3))
 | 0 => ⟨fun _ _ r h => by simp [trivetref01_Of.j0] at h, fun _ _ _ _ r h => by simp [trivetref01_Of.l0] at h⟩
 | k + 1 => by
  obtain ⟨ih0, ih1⟩ := trivetref01_Of.mono_l k
  refine ⟨?_, ?_⟩
  ·intro y0 y1
   unfold trivetref01_Of.j0
   repeat' first
   | (with_reducible exact ih0 _ _)
   | (with_reducible exact ih1 _ _ _ _)
   | (with_reducible exact trivetref01_norm.mono _ _ _)
   | (with_reducible exact LeO.refl _)
   | (with_reducible exact LeO.none _)
   | (with_reducible refine LeO.ite ?_ ?_)
   | (with_reducible refine LeO.bind ?_ (fun _ => ?_))
   | exact ih0 _ _
   | exact ih1 _ _ _ _
   | exact trivetref01_norm.mono _ _ _
   | exact LeO.none _
   | refine LeO.ite ?_ ?_
   | refine LeO.bind ?_ (fun _ => ?_)
  ·intro y0 y1 y2 y3
   unfold trivetref01_Of.l0
   repeat' first
   | (with_reducible exact ih0 _ _)
   | (with_reducible exact ih1 _ _ _ _)
   | (with_reducible exact trivetref01_norm.mono _ _ _)
   | (with_reducible exact LeO.refl _)
   | (with_reducible exact LeO.none _)
   | (with_reducible refine LeO.ite ?_ ?_)
   | (with_reducible refine LeO.bind ?_ (fun _ => ?_))
   | exact ih0 _ _
   | exact ih1 _ _ _ _
   | exact trivetref01_norm.mono _ _ _
   | exact LeO.none _
   | refine LeO.ite ?_ ?_
   | refine LeO.bind ?_ (fun _ => ?_)
theorem trivetref01_Of.mono : ∀ a0 k, LeO (trivetref01_Of.f k a0) (trivetref01_Of.f (k + 1) a0) := by
 intro a0 k
 obtain ⟨ih0, ih1⟩ := trivetref01_Of.mono_l k
 unfold trivetref01_Of.f
 repeat' first
   | (with_reducible exact ih0 _ _)
   | (with_reducible exact ih1 _ _ _ _)
   | (with_reducible exact trivetref01_norm.mono _ _ _)
   | (with_reducible exact LeO.refl _)
   | (with_reducible exact LeO.none _)
   | (with_reducible refine LeO.ite ?_ ?_)
   | (with_reducible refine LeO.bind ?_ (fun _ => ?_))
   | exact ih0 _ _
   | exact ih1 _ _ _ _
   | exact trivetref01_norm.mono _ _ _
   | exact LeO.none _
   | refine LeO.ite ?_ ?_
   | refine LeO.bind ?_ (fun _ => ?_)
set_option maxHeartbeats 8000000 in
set_option maxRecDepth 100000 in
theorem trivetref01_Of.calls (k : Nat) (a0 : Int) (r1 : List Int) (r2 : Bool) (w : World) (h : trivetref01_Of.f k a0 = some (r1, r2)) :
  Calls Try.prog 14 #[.int .i64 a0] w fun e w' => ∃ v0_ : Value, e = .returned (.agg #[v0_, .bool r2]) ∧ Kd.V (Kd.int .u64) 53 w' w.heap.size (fun k_ => (w.heap.size ≤ k_)) v0_ r1 ∧ Below w.heap.size w w' := by
 have hu37 := Try.underlying37
 have HB := ka (Below.refl w.heap.size w)
 have H : (if a0 < 0 then (trivetref01_Of.j0 k a0 (IntKind.u64.wrap ((Go.bits .xor .u64 18446744073709551615 (IntKind.u64.wrap (a0))) + 1))) else (trivetref01_Of.j0 k a0 (IntKind.u64.wrap (a0)))) = some (r1, r2) := h
 clear h
 have HC2 := ka H
 clear H
 go_enter Try.func14, Try.ntmps14
 go_upto_if 9 with (first | ((with_reducible refine gate_dst (N := 2) rfl ?_); refine kx (N := 2) (cs := #[.slice none 0 0, .bool false]) (t := 37) ?_; intro gb478 hg w3 hbox hb; have n0_ := ka (below_step (kw HB.out) hb); have n1_ := ka (hbox); have n2_ := ka ((by rw [hg]; exact (below_size (kw HB.out)) : w.heap.size ≤ gb478)); have n3_ := n2_; clear HB; have HB := n0_; have BK478 := n1_; have GW478 := n2_; have GE478 := n3_; clear n0_ n1_ n2_ n3_; clear hb hbox hg))
 (try simp only [Act.put, List.setIfInBounds_toArray, List.set_cons_zero, List.set_cons_succ])
 go_cut [3] (fun v3 wc => ∃ (kq : Nat) (x3_1 : Int), v3 = .int .u64 x3_1 ∧ Aside0 (trivetref01_Of.j0 kq a0 x3_1 = some (r1, r2)) ∧ Aside0 (kq ≤ k) ∧ Aside0 (wc.heap[gb478]? = some (.cells #[(.slice none 0 0), .bool false] 37 (0, 0))) ∧ Aside0 (Below w.heap.size w wc))
 case first =>
  have H := HC2.out
  clear HC2
  by_cases c4 : a0 < 0
  ·rw [if_pos c4] at H
   have c4b0 : decide (a0 < 0) = true := decide_eq_true c4
   clear c4
   (first | rw [c4b0] | (simp only [i64_w, i32_w]; rw [c4b0]) | skip)
   have H' := ka H
   clear H
   go_wp2
   go_meet
   case rel => exact ⟨_, (IntKind.u64.wrap ((Go.bits .xor .u64 18446744073709551615 (IntKind.u64.wrap (a0))) + 1)), (by first | rfl | (simp; done) | (simp [*]; done)), H', ⟨by first | omega | exact Nat.le_refl _⟩, ⟨by (with_reducible repeat (first | apply kb1 | apply kb2 | apply kb3)); exact BK478.out⟩, ⟨by repeat (first | (with_reducible first | exact HB.out | apply kc1 | apply kc2 | apply kc3 | refine kc4 ?_ GE478.out) | exact HB.out)⟩⟩
  ·rw [if_neg c4] at H
   have c4b0 : decide (a0 < 0) = false := decide_eq_false c4
   clear c4
   (first | rw [c4b0] | (simp only [i64_w, i32_w]; rw [c4b0]) | skip)
   have H' := ka H
   clear H
   go_wp2
   go_meet
   case rel => exact ⟨_, (IntKind.u64.wrap (a0)), (by first | rfl | (simp; done) | (simp [*]; done)), H', ⟨by first | omega | exact Nat.le_refl _⟩, ⟨by (with_reducible repeat (first | apply kb1 | apply kb2 | apply kb3)); exact BK478.out⟩, ⟨by repeat (first | (with_reducible first | exact HB.out | apply kc1 | apply kc2 | apply kc3 | refine kc4 ?_ GE478.out) | exact HB.out)⟩⟩
 case rest =>
  clear HC2
  try clear c1
  try clear p2
  try clear c4
  try clear c4b0
  obtain ⟨kq, x3_1, rfl, HA, HJ1, BK478, HB⟩ := hcut
  cases kq with
  | zero => exact absurd HA.out (by simp [trivetref01_Of.j0])
  | succ kj1 =>
   have H := HA.out
   clear HA
   simp only [trivetref01_Of.j0] at H
   have H' := ka H
   clear H
   go_wp2
   (try simp only [Act.put, List.setIfInBounds_toArray, List.set_cons_zero, List.set_cons_succ])
   go_loopg [3, 4, 5] kj1 (fun kq v3 v4 v5 w' => ∃ (x3_2 : Int) (x4_2 : List Int) (x5_2 : Int), v3 = .int .u64 x3_2 ∧ v5 = .int .i64 x5_2 ∧ Aside0 (trivetref01_Of.l0 kq a0 x3_2 x4_2 x5_2 = some (r1, r2)) ∧ Aside0 (kq ≤ kj1) ∧ Aside0 (Kd.R (Kd.int .u64) 53 w' w.heap.size (fun k_ => (w.heap.size ≤ k_)) v4 x4_2) ∧ Aside0 (w'.heap[gb478]? = some (.cells #[(.slice none 0 0), .bool false] 37 (0, 0))) ∧ Aside0 (Below w.heap.size w w'))
   case atStart => exact ⟨(x3_1), (([] : List Int)), (0), (by first | rfl | (simp; done) | (simp [*]; done)), (by first | rfl | (simp; done) | (simp [*]; done)), H', ⟨Nat.le_refl _⟩, ⟨by first | exact Kd.R_nil _ _ _ _ _ | exact Kd.N_nil _ _ _ _ _ | exact Kd.V_nil _ _ _ _ _ | exact Kd.Q_nil _ _ _ _ _ | exact Kd.S_nil _ _ _ _ _⟩, ⟨by (with_reducible repeat (first | apply kb1 | apply kb2 | apply kb3)); exact BK478.out⟩, ⟨by repeat (first | (with_reducible first | exact HB.out | apply kc1 | apply kc2 | apply kc3 | refine kc4 ?_ GE478.out) | exact HB.out)⟩⟩
   case round =>
    clear H'
    try clear c1
    try clear p2
    try clear c4
    try clear c4b0
    try clear p2
    obtain ⟨x3_2, x4_2, x5_2, rfl, rfl, HA, HK2, HO_4, BK478, HB⟩ := hrel
    cases gk with
    | zero => exact absurd HA.out (by simp [trivetref01_Of.l0])
    | succ k2 =>
     have H := HA.out
     clear HA
     simp only [trivetref01_Of.l0] at H
     by_cases c5 : x5_2 < 4
     ·rw [if_pos c5] at H
      have c5b0 : decide (x5_2 < 4) = true := decide_eq_true c5
      clear c5
      by_cases c6 : x4_2.length < 17592186044416
      ·rw [if_pos c6] at H
       have LMc6 := ka c6
       clear c6
       obtain ⟨y479, hy479⟩ : ∃ y_ : List Int, y_ = (x4_2 ++ [Int.tmod x3_2 65536]) := ⟨_, rfl⟩
       replace H : (trivetref01_Of.l0 k2 a0 (IntKind.u64.wrap (Int.tdiv x3_2 65536)) y479 (wrap64 (x5_2 + 1))) = some (r1, r2) := by first | (rw [hy479]; with_reducible exact H) | (have H2_ := (Option.bind_some _ _).symm.trans H; rw [hy479]; with_reducible exact H2_) | (have H2_ := (Option.bind_some _ _).symm.trans H; with_reducible exact H2_) | with_reducible exact H | (rw [hy479]; exact H) | exact H
       have Ny479 := ka hy479
       clear hy479
       have H' := ka H
       clear H
       go_wp2_with (first | ((with_reducible refine gate_builtin (b := .append) (xs := #[.tmp 17, .tmp 20]) rfl ?_); at_builtin; refine Kd.R_append (Kd.int .u64) (w0 := w) w.heap.size rfl (.tmp 17) (.tmp 20) 35 53 (.int .u64 0) 8 rfl Try.underlying35 info53 rfl (by decide) (by omega) u4 x4_2 (Int.tmod x3_2 65536) [.int .u64 (Int.tmod x3_2 65536)] (fun k_ => (w.heap.size ≤ k_)) (fun _ => False) rfl rfl ?aP (fun _ hk => hk.elim) ?aF ?aO ?aB ?aS ?aL ?_; (case aP => exact rfl); (case aB => exact (kw HB.out)); (case aF => exact (fun k_ hk => (Nat.le_trans (below_size (kw HB.out)) hk))); (case aO => exact (kr HO_4.out)); (case aS => exact (below_size (kw HB.out))); (case aL => have := LMc6.out; omega); intro v480 w7 ho hb hg hat; rw [← Ny479.out] at ho; replace BK478 := ka (blk_grown (g := gb478) (kz BK478.out) hg (Kd.R_ne HO_4.out BK478.out (by decide))); replace HB := ka (hb); have HO481 := ka (ho); clear HO_4; clear ho hb hg hat))
       go_roundg k2
       case measure => have := HJ1.out; have := HK2.out; omega
       case rel => exact ⟨(IntKind.u64.wrap (Int.tdiv x3_2 65536)), (y479), (wrap64 (x5_2 + 1)), (by first | rfl | (simp; done) | (simp [*]; done)), (by first | rfl | (simp; done) | (simp [*]; done)), H', ⟨by have := HJ1.out; have := HK2.out; omega⟩, ⟨kr HO481.out⟩, ⟨by (with_reducible repeat (first | apply kb1 | apply kb2 | apply kb3)); exact BK478.out⟩, ⟨by repeat (first | (with_reducible first | exact HB.out | apply kc1 | apply kc2 | apply kc3 | refine kc4 ?_ GE478.out) | exact HB.out)⟩⟩
      ·rw [if_neg c6] at H
       exact absurd H (by simp)
     ·rw [if_neg c5] at H
      have c5b0 : decide (x5_2 < 4) = false := decide_eq_false c5
      clear c5
      replace H := Option.bind_eq_some_iff.mp H
      obtain ⟨⟨t482, t485⟩, A80, H⟩ := H
      replace H : (some (t482, t485)) = some (r1, r2) := H
      have A8 := ka A80
      clear A80
      simp only [Option.some.injEq, Prod.mk.injEq] at H
      obtain ⟨rfl, rfl⟩ := H
      obtain ⟨Ao9, co9, eo9⟩ := Kd.R_slice HO_4.out
      subst eo9
      go_wp2_with (first | ((with_reducible refine gate_callee (f := 25) rfl ?_); refine kg (some 27) rfl rfl Try.func25 (by kernel_rfl) rfl #[.slice Ao9 x4_2.length co9, .bool (decide (a0 < 0))] rfl ?_; (with_reducible refine (trivetref01_norm.calls k2 (fun k_ => some k_ = (.slice Ao9 x4_2.length co9 : Value).ownBlock) _ _ x4_2 (decide (a0 < 0)) t482 t485 _ ?side1 A8.out).mono ?_); (case side1 => exact Kd.R_V (Kd.R_tight rfl (Kd.R_types (HO_4.out) BK478.out (by decide)))); rintro e w10 ⟨v483, rfl, ho0, hb⟩; refine ⟨_, rfl, ?_⟩; have HO484 := ka (Kd.V_lower (Kd.V_mono (ok' := fun k_ => (w.heap.size ≤ k_) ∧ k_ ≠ gb478) ho0 (fun k_ hk_ => ⟨Or.elim hk_ (fun hs_ => ((Kd.R_types (HO_4.out) BK478.out (by decide)).1 k_ hs_.symm).1) (fun hn_ => (Nat.le_trans (below_size (kw HB.out)) hn_)), Or.elim hk_ (fun hs_ => ((Kd.R_types (HO_4.out) BK478.out (by decide)).1 k_ hs_.symm).2) (fun hn_ => (kf BK478 hn_))⟩)) (below_size (kw HB.out))); replace HO_4 := ka (Kd.R_below (kr HO_4.out) hb); replace BK478 := kbb BK478 hb; replace HB := ka (below_step (kw HB.out) hb); (try clear hb); (try clear hb2); (try clear hk); (try clear hi); (try clear ho0); obtain ⟨Ao11, co11, eo11⟩ := Kd.V_slice HO484.out; subst eo11; have hcz12 := blkAll2 BK478.out))
      refine bodyPost_ret (results_cell_row rfl _ _ gb478 37 #[.slice Ao11 t482.length co11, .bool t485] (0, 0) _ rfl (by (with_reducible repeat (first | apply kb1 | apply kb2 | apply kb3 | apply blkPut2_1 | apply blkPut2_0)); exact BK478.out) Try.underlying37 rfl (by kernel_rfl)) rfl ?_
      exact ⟨_, by first | rfl | (simp [errW_none, errW_some] <;> rfl) | (simp [*, errW_none, errW_some] <;> rfl), by (with_reducible repeat (first | apply Kd.V_alloc | apply Kd.V_drewN | apply Kd.V_drew)); exact Kd.V_mono (Kd.V_far (p := ⟨gb478, 1, none⟩) (Kd.V_far (p := ⟨gb478, 0, none⟩) (Kd.V_mono HO484.out (fun k_ hk => (⟨hk, hk.2⟩ : _ ∧ k_ ≠ gb478))) (fun _ hk => hk.2) (.slice Ao11 t482.length co11)) (fun _ hk => hk.2) (.bool t485)) (fun _ hk => hk.1.1), by repeat (first | (with_reducible first | exact HB.out | apply kc1 | apply kc2 | apply kc3 | refine kc4 ?_ GE478.out) | exact HB.out)⟩

/-! ### trivetref01_Of: function 14, its laws -/
theorem trivetref01_Of.sized (k : Nat) (a u : Int) (hu : 0 ≤ u ∧ u < 18446744073709551616) (ha : u = M.abs a) (hk : 12 ≤ k) : trivetref01_Of.j0 k a u = some (U.num a) := by
 obtain ⟨j, rfl⟩ : ∃ j, k = j + 6 + 6 := ⟨k - 12, by omega⟩
 have d0 := Int.emod_nonneg u (show (65536 : Int) ≠ 0 by decide)
 simp only [trivetref01_Of.j0, trivetref01_Of.l0]
 rw [M.tdivu (show 0 ≤ u by omega), M.tmodu (show 0 ≤ u by omega), M.wrapu_id (n := u / 65536) (by omega) (by omega)]
 rw [M.tdivu (show 0 ≤ u / 65536 by omega), M.tmodu (show 0 ≤ u / 65536 by omega), M.wrapu_id (n := u / 65536 / 65536) (by omega) (by omega)]
 rw [M.tdivu (show 0 ≤ u / 65536 / 65536 by omega), M.tmodu (show 0 ≤ u / 65536 / 65536 by omega), M.wrapu_id (n := u / 65536 / 65536 / 65536) (by omega) (by omega)]
 rw [M.tmodu (show 0 ≤ u / 65536 / 65536 / 65536 by omega)]
 have w1 : wrap64 (0 + 1) = 1 := by unfold wrap64; decide
 have w2 : wrap64 (1 + 1) = 2 := by unfold wrap64; decide
 have w3 : wrap64 (2 + 1) = 3 := by unfold wrap64; decide
 have w4 : wrap64 (3 + 1) = 4 := by unfold wrap64; decide
 simp only [w1, w2, w3, w4]
 rw [if_pos (by decide), if_pos (by simp), if_pos (by decide), if_pos (by simp), if_pos (by decide), if_pos (by simp), if_pos (by decide), if_pos (by simp), if_neg (by decide)]
 rw [trivetref01_norm.num _ _ _ a]
 ·rfl
 ·intro x hx
  simp at hx
  rcases hx with rfl | rfl | rfl | rfl <;> omega
 ·simp
 ·simp
 ·simp only [List.nil_append, List.cons_append, U.val]
  unfold M.abs at ha
  by_cases h : a < 0
  ·rw [if_pos h] at ha; rw [if_pos (decide_eq_true h)]; omega
  ·rw [if_neg h] at ha; rw [if_neg (by simpa using h)]; omega
theorem trivetref01_Of.num (k : Nat) (a : Int) (ha : M.In a) (hk : 12 ≤ k) : trivetref01_Of.f k a = some (U.num a) := by
 unfold M.In at ha
 unfold trivetref01_Of.f
 by_cases h : a < 0
 ·rw [if_pos h]
  have e : IntKind.u64.wrap (Go.bits .xor .u64 18446744073709551615 (IntKind.u64.wrap a) + 1) = -a := by
   have e1 : IntKind.u64.wrap a = a + 18446744073709551616 := by rw [M.wrapu]; omega
   rw [e1, M.xor_all _ (by omega) (by omega), M.wrapu]; omega
  rw [e]
  exact trivetref01_Of.sized k a (-a) (by omega) (by unfold M.abs; rw [if_pos h]) hk
 ·rw [if_neg h, M.wrapu_id (by omega) (by omega)]
  exact trivetref01_Of.sized k a a (by omega) (by unfold M.abs; rw [if_neg h]) hk

/-! ### trivetref01_To: function 15 -/
def trivetref01_To.l0 : Nat → Int → Int → List Int → Bool → Option (Int × Bool)
 | 0, _, _, _, _ => none
 | k + 1, x4, x5, x487000, x487001 => if x5 ≥ 0 then (if 0 ≤ x5 then (if x5 < (x487000.length : Int) then (trivetref01_To.l0 k (IntKind.u64.wrap ((IntKind.u64.wrap (x4 * 65536)) + (rd x487000 x5))) (wrap64 (x5 - 1)) x487000 x487001) else (none)) else (none)) else (if x487001 = true then (some (wrap64 (IntKind.u64.wrap ((Go.bits .xor .u64 18446744073709551615 x4) + 1)), decide (x4 ≤ 9223372036854775808))) else (some (wrap64 (x4), decide (x4 < 9223372036854775808))))
def trivetref01_To.f (k : Nat) (l0_0 : List Int) (a0_1 : Bool) : Option (Int × Bool) := if (l0_0.length : Int) > 4 then (some (0, false)) else (trivetref01_To.l0 k 0 (wrap64 ((l0_0.length : Int) - 1)) l0_0 a0_1)
theorem trivetref01_To.mono_l : ∀ k, (∀ y0 y1 y2 y3, LeO (trivetref01_To.l0 k y0 y1 y2 y3) (trivetref01_To.l0 (k + 1) y0 y1 y2 y3))
 | 0 => fun _ _ _ _ r h => by simp [trivetref01_To.l0] at h
 | k + 1 => by
  have ih0 := trivetref01_To.mono_l k
  ·intro y0 y1 y2 y3
   unfold trivetref01_To.l0
   repeat' first
   | (with_reducible exact ih0 _ _ _ _)
   | (with_reducible exact LeO.refl _)
   | (with_reducible exact LeO.none _)
   | (with_reducible refine LeO.ite ?_ ?_)
   | (with_reducible refine LeO.bind ?_ (fun _ => ?_))
   | exact ih0 _ _ _ _
   | exact LeO.none _
   | refine LeO.ite ?_ ?_
   | refine LeO.bind ?_ (fun _ => ?_)
theorem trivetref01_To.mono : ∀ a0 a1 k, LeO (trivetref01_To.f k a0 a1) (trivetref01_To.f (k + 1) a0 a1) := by
 intro a0 a1 k
 have ih0 := trivetref01_To.mono_l k
 unfold trivetref01_To.f
 repeat' first
   | (with_reducible exact ih0 _ _ _ _)
   | (with_reducible exact LeO.refl _)
   | (with_reducible exact LeO.none _)
   | (with_reducible refine LeO.ite ?_ ?_)
   | (with_reducible refine LeO.bind ?_ (fun _ => ?_))
   | exact ih0 _ _ _ _
   | exact LeO.none _
   | refine LeO.ite ?_ ?_
   | refine LeO.bind ?_ (fun _ => ?_)
set_option maxHeartbeats 8000000 in
set_option maxRecDepth 100000 in
theorem trivetref01_To.calls (k : Nat) (A0_0 : Option Addr) (c0_0 : Nat) (l0_0 : List Int) (a0_1 : Bool) (r1 : Int) (r2 : Bool) (w : World) (hr0_0 : Kd.C (Kd.int .u64) w A0_0 l0_0.length l0_0) (hc0_0 : l0_0.length ≤ c0_0) (h : trivetref01_To.f k l0_0 a0_1 = some (r1, r2)) :
  Calls Try.prog 15 #[.agg #[.slice A0_0 l0_0.length c0_0, .bool a0_1]] w fun e w' => e = .returned (.tuple #[.int .i64 r1, .bool r2]) ∧ Below w.heap.size w w' := by
 have hu37 := Try.underlying37
 have HR0_0 := ka hr0_0
 have HC0_0 := ka hc0_0
 clear hr0_0 hc0_0
 have HB := ka (Below.refl w.heap.size w)
 have H : (if (l0_0.length : Int) > 4 then (some (0, false)) else (trivetref01_To.l0 k 0 (wrap64 ((l0_0.length : Int) - 1)) l0_0 a0_1)) = some (r1, r2) := h
 clear h
 by_cases c2 : (l0_0.length : Int) > 4
 ·rw [if_pos c2] at H
  have c2b0 : decide (4 < (l0_0.length : Int)) = true := decide_eq_true c2
  have c2b1 : decide (4 < l0_0.length) = true := decide_eq_true (by omega)
  clear c2
  simp only [Option.some.injEq, Prod.mk.injEq] at H
  obtain ⟨rfl, rfl⟩ := H
  go_enter Try.func15, Try.ntmps15
  go_wp2_with (first | ((with_reducible refine gate_dst (N := 1) rfl ?_); refine kx (N := 1) (cs := #[.slice A0_0 l0_0.length c0_0, .bool a0_1]) (t := 37) ?_; intro gb486 hg w3 hbox hb; have n0_ := ka (below_step (kw HB.out) hb); have n1_ := ka (hbox); have n2_ := ka ((by rw [hg]; exact (below_size (kw HB.out)) : w.heap.size ≤ gb486)); have n3_ := n2_; clear HB; have HB := n0_; have BK486 := n1_; have GW486 := n2_; have GE486 := n3_; clear n0_ n1_ n2_ n3_; clear hb hbox hg; have hcz4 := blkAll2 BK486.out))
  go_ret2
  exact ⟨by first | rfl | (simp [errW_none, errW_some] <;> rfl) | (simp [*, errW_none, errW_some] <;> rfl), by repeat (first | (with_reducible first | exact HB.out | apply kc1 | apply kc2 | apply kc3 | refine kc4 ?_ GE486.out) | exact HB.out)⟩
 ·rw [if_neg c2] at H
  have c2b0 : decide (4 < (l0_0.length : Int)) = false := decide_eq_false c2
  have c2b1 : decide (4 < l0_0.length) = false := decide_eq_false (by omega)
  clear c2
  have H' := ka H
  clear H
  go_enter Try.func15, Try.ntmps15
  go_wp2_with (first | ((with_reducible refine gate_dst (N := 1) rfl ?_); refine kx (N := 1) (cs := #[.slice A0_0 l0_0.length c0_0, .bool a0_1]) (t := 37) ?_; intro gb486 hg w5 hbox hb; have n0_ := ka (below_step (kw HB.out) hb); have n1_ := ka (hbox); have n2_ := ka ((by rw [hg]; exact (below_size (kw HB.out)) : w.heap.size ≤ gb486)); have n3_ := n2_; clear HB; have HB := n0_; have BK486 := n1_; have GW486 := n2_; have GE486 := n3_; clear n0_ n1_ n2_ n3_; clear hb hbox hg; have hcz6 := blkAll2 BK486.out))
  (try simp only [Act.put, List.setIfInBounds_toArray, List.set_cons_zero, List.set_cons_succ])
  go_loopg [4, 5] k (fun kq v4 v5 w' => ∃ (x4_1 : Int) (x5_1 : Int), v4 = .int .u64 x4_1 ∧ v5 = .int .i64 x5_1 ∧ Aside0 (trivetref01_To.l0 kq x4_1 x5_1 l0_0 a0_1 = some (r1, r2)) ∧ Aside0 (kq ≤ k) ∧ Aside0 (w'.heap[gb486]? = some (.cells #[(.slice A0_0 l0_0.length c0_0), .bool a0_1] 37 (0, 0))) ∧ Aside0 (Below w.heap.size w w'))
  case atStart => exact ⟨(0), (wrap64 ((l0_0.length : Int) - 1)), (by first | rfl | (simp; done) | (simp [*]; done)), (by first | rfl | (simp; done) | (simp [*]; done)), H', ⟨Nat.le_refl _⟩, ⟨by (with_reducible repeat (first | apply kb1 | apply kb2 | apply kb3)); exact BK486.out⟩, ⟨by repeat (first | (with_reducible first | exact HB.out | apply kc1 | apply kc2 | apply kc3 | refine kc4 ?_ GE486.out) | exact HB.out)⟩⟩
  case round =>
   clear H'
   try clear c1
   try clear c2
   try clear c2b0
   try clear c2b1
   try clear p2
   try clear p6
   try clear hcz4
   try clear hcz6
   obtain ⟨x4_1, x5_1, rfl, rfl, HA, HK1, BK486, HB⟩ := hrel
   cases gk with
   | zero => exact absurd HA.out (by simp [trivetref01_To.l0])
   | succ k1 =>
    have H := HA.out
    clear HA
    simp only [trivetref01_To.l0] at H
    by_cases c7 : x5_1 ≥ 0
    ·rw [if_pos c7] at H
     have c7b0 : decide (0 ≤ x5_1) = true := decide_eq_true c7
     clear c7
     by_cases c8 : 0 ≤ x5_1
     ·rw [if_pos c8] at H
      have c8b0 : decide (0 ≤ x5_1) = true := decide_eq_true c8
      clear c8
      by_cases c9 : x5_1 < (l0_0.length : Int)
      ·rw [if_pos c9] at H
       have c9b0 : decide (x5_1 < (l0_0.length : Int)) = true := decide_eq_true c9
       clear c9
       have H' := ka H
       clear H
       have hcz10 := blkAll2 BK486.out
       have p487 : 0 ≤ (x5_1 : Int) := of_decide_eq_true (by first | (with_reducible assumption) | assumption)
       have q487 : x5_1 < (l0_0.length : Int) := of_decide_eq_true (by first | (with_reducible assumption) | assumption)
       obtain ⟨ad487, e487, hx487_0⟩ := Kd.at_int HR0_0.out x5_1 p487 q487
       cases e487
       replace hx487_0 := (HB.out.cell (World.block_lt_of_cell? w _ hx487_0)).trans hx487_0
       replace p487 := eq_true p487
       replace q487 := eq_true q487
       go_wp2
       go_roundg k1
       case measure => have := HK1.out; omega
       case rel => exact ⟨(IntKind.u64.wrap ((IntKind.u64.wrap (x4_1 * 65536)) + (rd l0_0 x5_1))), (wrap64 (x5_1 - 1)), (by first | rfl | (simp; done) | (simp [*]; done)), (by first | rfl | (simp; done) | (simp [*]; done)), H', ⟨by have := HK1.out; omega⟩, ⟨by (with_reducible repeat (first | apply kb1 | apply kb2 | apply kb3)); exact BK486.out⟩, ⟨by repeat (first | (with_reducible first | exact HB.out | apply kc1 | apply kc2 | apply kc3 | refine kc4 ?_ GE486.out) | exact HB.out)⟩⟩
      ·rw [if_neg c9] at H
       exact absurd H (by simp)
     ·rw [if_neg c8] at H
      exact absurd H (by simp)
    ·rw [if_neg c7] at H
     have c7b0 : decide (0 ≤ x5_1) = false := decide_eq_false c7
     clear c7
     by_cases c11 : a0_1 = true
     ·subst c11
      have H1 : (some (wrap64 (IntKind.u64.wrap ((Go.bits .xor .u64 18446744073709551615 x4_1) + 1)), decide (x4_1 ≤ 9223372036854775808))) = some (r1, r2) := by rw [if_pos rfl] at H; exact H
      clear H
      have H := H1
      clear H1
      simp only [Option.some.injEq, Prod.mk.injEq] at H
      obtain ⟨rfl, rfl⟩ := H
      have hcz12 := blkAll2 BK486.out
      go_wp2
      go_ret2
      exact ⟨by first | rfl | (simp [errW_none, errW_some] <;> rfl) | (simp [*, errW_none, errW_some] <;> rfl), by repeat (first | (with_reducible first | exact HB.out | apply kc1 | apply kc2 | apply kc3 | refine kc4 ?_ GE486.out) | exact HB.out)⟩
     ·replace c11 := Bool.eq_false_iff.mpr c11
      subst c11
      have H1 : (some (wrap64 (x4_1), decide (x4_1 < 9223372036854775808))) = some (r1, r2) := by rw [if_neg (show ¬ (false = true) by decide)] at H; exact H
      clear H
      have H := H1
      clear H1
      simp only [Option.some.injEq, Prod.mk.injEq] at H
      obtain ⟨rfl, rfl⟩ := H
      have hcz13 := blkAll2 BK486.out
      go_wp2
      go_ret2
      exact ⟨by first | rfl | (simp [errW_none, errW_some] <;> rfl) | (simp [*, errW_none, errW_some] <;> rfl), by repeat (first | (with_reducible first | exact HB.out | apply kc1 | apply kc2 | apply kc3 | refine kc4 ?_ GE486.out) | exact HB.out)⟩

/-! ### trivetref01_To: function 15, its laws -/
theorem trivetref01_To.loop (i : Nat) : ∀ (k : Nat) (d : List Int) (m : Bool), U.Dg d → d.length ≤ 4 → i ≤ d.length → i < k → trivetref01_To.l0 k (U.val (d.drop i)) ((i : Int) - 1) d m = trivetref01_To.l0 (k - i) (U.val d) (-1) d m := by
 induction i with
 | zero => intro k d m hd h4 hi hk; rfl
 | succ i ih =>
  intro k d m hd h4 hi hk
  obtain ⟨j, rfl⟩ : ∃ j, k = j + 1 := ⟨k - 1, by omega⟩
  have hv : U.val (d.drop (i + 1)) < 281474976710656 := by
   have := U.val_lt (d := d.drop (i + 1)) (fun x hx => hd x (List.mem_of_mem_drop hx))
   have hl : (d.drop (i + 1)).length ≤ 3 := by simp; omega
   have : (65536 : Int) ^ (d.drop (i + 1)).length ≤ 65536 ^ 3 := U.pow_le hl
   have e3 : (65536 : Int) ^ 3 = 281474976710656 := by decide
   omega
  have hv0 := U.val_nonneg (d := d.drop (i + 1)) (fun x hx => hd x (List.mem_of_mem_drop hx))
  have hg := hd.get i
  have hs := U.drop_step d i
  have hr : rd d ((i + 1 : Nat) - 1 : Int) = d.getD i 0 := by unfold rd; congr 1; omega
  generalize hV : U.val (d.drop (i + 1)) = v at *
  generalize hG : d.getD i 0 = g at *
  have key : trivetref01_To.l0 (j + 1) v ((i + 1 : Nat) - 1 : Int) d m = trivetref01_To.l0 j (U.val (d.drop i)) ((i : Int) - 1) d m := by
   simp only [trivetref01_To.l0]
   rw [if_pos (show ((i + 1 : Nat) - 1 : Int) ≥ 0 by omega), if_pos (show 0 ≤ ((i + 1 : Nat) - 1 : Int) by omega), if_pos (show ((i + 1 : Nat) - 1 : Int) < (d.length : Int) by omega), hr, M.wrapu_id (n := v * 65536) (by omega) (by omega), M.wrapu_id (n := v * 65536 + g) (by omega) (by omega), M.w64_id (by omega) (by omega), hs]
   congr 1 <;> omega
  rw [key, ih j d m hd h4 (by omega) (by omega)]
  congr 1
  omega
theorem trivetref01_To.num (k : Nat) (z : Int) (hk : 12 ≤ k) (hz : M.abs z < 65536 ^ 64) : ∃ v, trivetref01_To.f k (U.num z).1 (U.num z).2 = some (v, decide (M.In z)) ∧ (M.In z → v = z) := by
 have a0 := U.abs_nonneg z
 have e4 : (65536 : Int) ^ 4 = 18446744073709551616 := by decide
 have hd := U.dig_dg (M.abs z)
 have hv := U.val_dig a0
 unfold U.num trivetref01_To.f
 have a1 : M.abs z = z ∧ 0 ≤ z ∨ M.abs z = -z ∧ z < 0 := by unfold M.abs; split <;> omega
 by_cases h : (((U.dig (M.abs z)).length : Nat) : Int) > 4
 ·rw [if_pos h]
  have : ¬ M.abs z < 65536 ^ 4 := fun g => by have := U.len_dig 4 _ g; omega
  refine ⟨0, ?_, ?_⟩
  ·congr 2
   rw [decide_eq_false]
   unfold M.In; omega
  ·unfold M.In; omega
 ·rw [if_neg h]
  have hl : (U.dig (M.abs z)).length ≤ 4 := by omega
  have hlt := U.val_lt hd
  rw [hv] at hlt
  have : (65536 : Int) ^ (U.dig (M.abs z)).length ≤ 65536 ^ 4 := U.pow_le hl
  have key := trivetref01_To.loop (U.dig (M.abs z)).length k (U.dig (M.abs z)) (decide (z < 0)) hd hl (Nat.le_refl _) (by omega)
  rw [List.drop_length, hv] at key
  have hw : wrap64 (((U.dig (M.abs z)).length : Int) - 1) = ((U.dig (M.abs z)).length : Int) - 1 := M.w64_id (by omega) (by omega)
  rw [hw]
  simp only [U.val] at key
  rw [key]
  obtain ⟨j, hj⟩ : ∃ j, k - (U.dig (M.abs z)).length = j + 1 := ⟨k - (U.dig (M.abs z)).length - 1, by omega⟩
  rw [hj]
  simp only [trivetref01_To.l0]
  rw [if_neg (by decide)]
  by_cases hz0 : z < 0
  ·rw [if_pos (decide_eq_true hz0)]
   refine ⟨_, congrArg some (Prod.ext rfl (decide_eq_decide.mpr (by unfold M.In; omega))), ?_⟩
   intro hin
   unfold M.In at hin
   rw [M.xor_all _ (by omega) (by omega), M.wrapu]
   unfold wrap64
   omega
  ·rw [if_neg (by simpa using hz0)]
   refine ⟨_, congrArg some (Prod.ext rfl (decide_eq_decide.mpr (by unfold M.In; omega))), ?_⟩
   intro hin
   unfold M.In at hin
   rw [M.w64_id (by omega) (by omega)]
   omega

/-! ### trivetref01_Neg: function 26 -/
def trivetref01_Neg.f (k : Nat) (l0_0 : List Int) (a0_1 : Bool) : Option (List Int × Bool) := (trivetref01_norm.f k l0_0 (!a0_1)).bind fun bt490 => (some (bt490.1, bt490.2))
theorem trivetref01_Neg.mono : ∀ a0 a1 k, LeO (trivetref01_Neg.f k a0 a1) (trivetref01_Neg.f (k + 1) a0 a1) := by
 intro a0 a1 k
 unfold trivetref01_Neg.f
 repeat' first
   | (with_reducible exact trivetref01_norm.mono _ _ _)
   | (with_reducible exact LeO.refl _)
   | (with_reducible exact LeO.none _)
   | (with_reducible refine LeO.ite ?_ ?_)
   | (with_reducible refine LeO.bind ?_ (fun _ => ?_))
   | exact trivetref01_norm.mono _ _ _
   | exact LeO.none _
   | refine LeO.ite ?_ ?_
   | refine LeO.bind ?_ (fun _ => ?_)
set_option maxHeartbeats 8000000 in
set_option maxRecDepth 100000 in
theorem trivetref01_Neg.calls (k : Nat) (P0_0_ : Nat → Prop) (A0_0 : Option Addr) (c0_0 : Nat) (l0_0 : List Int) (a0_1 : Bool) (r1 : List Int) (r2 : Bool) (w : World) (hs0_0 : Kd.V (Kd.int .u64) 53 w w.heap.size (fun k_ => P0_0_ k_) (.slice A0_0 l0_0.length c0_0) l0_0) (h : trivetref01_Neg.f k l0_0 a0_1 = some (r1, r2)) :
  Calls Try.prog 26 #[.agg #[.slice A0_0 l0_0.length c0_0, .bool a0_1]] w fun e w' => ∃ v0_ : Value, e = .returned (.agg #[v0_, .bool r2]) ∧ Kd.V (Kd.int .u64) 53 w' w.heap.size (fun k_ => (P0_0_ k_ ∨ w.heap.size ≤ k_)) v0_ r1 ∧ Below w.heap.size w w' := by
 have hu37 := Try.underlying37
 have HO0_0 := ka (show Kd.V (Kd.int .u64) 53 w w.heap.size (fun k_ => (P0_0_ k_ ∨ w.heap.size ≤ k_)) (.slice A0_0 l0_0.length c0_0) l0_0 from Kd.V_mono hs0_0 (fun k_ hk => .inl hk))
 have HB := ka (Below.refl w.heap.size w)
 have H : ((trivetref01_norm.f k l0_0 (!a0_1)).bind fun bt490 => (some (bt490.1, bt490.2))) = some (r1, r2) := h
 clear h
 replace H := Option.bind_eq_some_iff.mp H
 obtain ⟨⟨t490, t493⟩, A20, H⟩ := H
 replace H : (some (t490, t493)) = some (r1, r2) := H
 have A2 := ka A20
 clear A20
 simp only [Option.some.injEq, Prod.mk.injEq] at H
 obtain ⟨rfl, rfl⟩ := H
 go_enter Try.func26, Try.ntmps26
 go_wp2_with (first | ((with_reducible refine gate_dst (N := 1) rfl ?_); refine kx (N := 1) (cs := #[.slice A0_0 l0_0.length c0_0, .bool a0_1]) (t := 37) ?_; intro gb488 hg w3 hbox hb; have n0_ := ka (Kd.V_below (Kd.V_elderB (kv HO0_0.out) gb488 (Nat.le_of_eq hg.symm)) hb); have n1_ := ka (below_step (kw HB.out) hb); have n2_ := ka (hbox); have n3_ := ka ((by rw [hg]; exact (below_size (kw HB.out)) : w.heap.size ≤ gb488)); have n4_ := n3_; clear HO0_0; clear HB; have HO0_0 := n0_; have HB := n1_; have BK488 := n2_; have GW488 := n3_; have GE488 := n4_; clear n0_ n1_ n2_ n3_ n4_; clear hb hbox hg) | ((with_reducible refine gate_dst (N := 2) rfl ?_); refine kx (N := 2) (cs := #[.slice none 0 0, .bool false]) (t := 37) ?_; intro gb489 hg w4 hbox hb; have n0_ := ka (Kd.V_below (Kd.V_elderB (kv HO0_0.out) gb489 (Nat.le_of_eq hg.symm)) hb); have n1_ := ka (blk_below (g := gb488) (kz BK488.out) hb); have n2_ := ka (below_step (kw HB.out) hb); have n3_ := ka (hbox); have n4_ := ka ((by rw [hg]; exact (below_size (kw HB.out)) : w.heap.size ≤ gb489)); have n5_ := n4_; have n6_ := ka ((by rw [hg]; exact Nat.ne_of_lt (blk_lt (g := gb488) (kz BK488.out)) : gb488 ≠ gb489)); have n7_ := ka n6_.out.symm; clear HO0_0; clear BK488; clear HB; have HO0_0 := n0_; have BK488 := n1_; have HB := n2_; have BK489 := n3_; have GW489 := n4_; have GE489 := n5_; have NB488_489 := n6_; have NB489_488 := n7_; clear n0_ n1_ n2_ n3_ n4_ n5_ n6_ n7_; clear hb hbox hg; have hnb5 := NB488_489.out; have hnc5 := NB489_488.out; have hcz6 := blkAll2 BK488.out) | ((with_reducible refine gate_callee (f := 25) rfl ?_); refine kg (some 8) rfl rfl Try.func25 (by kernel_rfl) rfl #[.slice A0_0 l0_0.length c0_0, .bool (!a0_1)] rfl ?_; (with_reducible refine (trivetref01_norm.calls k (fun k_ => (((P0_0_ k_ ∨ w.heap.size ≤ k_) ∧ k_ ≠ gb488) ∧ k_ ≠ gb489)) _ _ l0_0 (!a0_1) t490 t493 _ ?side1 A2.out).mono ?_); (case side1 => exact HO0_0.out); rintro e w7 ⟨v491, rfl, ho0, hb⟩; refine ⟨_, rfl, ?_⟩; replace HO0_0 := kvb HO0_0 hb; have HO492 := ka (Kd.V_lower (Kd.V_mono (ok' := fun k_ => (P0_0_ k_ ∨ w.heap.size ≤ k_) ∧ k_ ≠ gb488 ∧ k_ ≠ gb489) ho0 (fun k_ hk_ => ⟨Or.elim hk_ (fun hs_ => hs_.1.1) (fun hn_ => (.inr (Nat.le_trans (below_size (kw HB.out)) hn_))), Or.elim hk_ (fun hs_ => hs_.1.2) (fun hn_ => (kf BK488 hn_)), Or.elim hk_ (fun hs_ => hs_.2) (fun hn_ => (kf BK489 hn_))⟩)) (below_size (kw HB.out))); replace BK488 := kbb BK488 hb; replace BK489 := kbb BK489 hb; replace HB := ka (below_step (kw HB.out) hb); (try clear hb); (try clear hb2); (try clear hk); (try clear hi); (try clear ho0); obtain ⟨Ao8, co8, eo8⟩ := Kd.V_slice HO492.out; subst eo8; have hcz9 := blkAll2 BK489.out))
 refine bodyPost_ret (results_cell_row rfl _ _ gb489 37 #[.slice Ao8 t490.length co8, .bool t493] (0, 0) _ rfl (by (with_reducible repeat (first | apply kb1 | apply kb2 | apply kb3 | apply blkPut2_1 | apply blkPut2_0)); exact BK489.out) Try.underlying37 rfl (by kernel_rfl)) rfl ?_
 exact ⟨_, by first | rfl | (simp [errW_none, errW_some] <;> rfl) | (simp [*, errW_none, errW_some] <;> rfl), by (with_reducible repeat (first | apply Kd.V_alloc | apply Kd.V_drewN | apply Kd.V_drew)); exact Kd.V_mono (Kd.V_far (p := ⟨gb489, 1, none⟩) (Kd.V_far (p := ⟨gb489, 0, none⟩) (Kd.V_mono HO492.out (fun k_ hk => (⟨hk, hk.2.2⟩ : _ ∧ k_ ≠ gb489))) (fun _ hk => hk.2) (.slice Ao8 t490.length co8)) (fun _ hk => hk.2) (.bool t493)) (fun _ hk => hk.1.1), by repeat (first | (with_reducible first | exact HB.out | apply kc1 | apply kc2 | apply kc3 | refine kc4 ?_ GE488.out | refine kc4 ?_ GE489.out) | exact HB.out)⟩

/-! ### trivetref01_Neg: function 26, its laws -/
theorem trivetref01_Neg.num (k : Nat) (x : Int) (hx : M.abs x < 65536 ^ 64) (hk : 300 ≤ k) : trivetref01_Neg.f k (U.num x).1 (U.num x).2 = some (U.num (-x)) := by
 have lx := U.len_dig 64 _ hx
 have x0 := U.abs_nonneg x
 have vx := U.val_dig x0
 show trivetref01_Neg.f k (U.dig (M.abs x)) (decide (x < 0)) = _
 unfold trivetref01_Neg.f
 rw [trivetref01_norm.num k _ (!decide (x < 0)) (-x) (U.dig_dg _) (by omega) (by omega)]
 ·rfl
 ·rw [vx]
  unfold M.abs
  by_cases c : x < 0
  ·simp [c]
  ·simp [c]

end Go.Proofs.Ytonjhfneeejdaaa.P
