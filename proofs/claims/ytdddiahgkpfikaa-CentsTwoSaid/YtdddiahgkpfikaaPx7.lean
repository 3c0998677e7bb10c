-- Written by a program of this session out of the translation of the seat: Lean functions and the proofs that the Go functions come to them.
import Derived.Test.YtdddiahgkpfikaaPx0
import Derived.Test.YtdddiahgkpfikaaPx3
import Derived.Test.YtdddiahgkpfikaaPx4
namespace Go.Proofs.Ytdddiahgkpfikaa.P
open Go.RowKit Go.Proofs.YtdddiahgkpfikaaW.PrintWords Go.Proofs.YtdddiahgkpfikaaW.PrintLast Go.Proofs.YtdddiahgkpfikaaW.PrintMore
attribute [local go_sem] max2_int min2_int max_two min_two max_three min_three max_four min_four   -- for this text's walks alone
set_option linter.unusedVariables false
set_option linter.unusedSimpArgs false

/-! ### trivetref01_Mul: function 22 -/
mutual
def trivetref01_Mul.l0 : Nat → List Int → Int → List Int → Bool → List Int → Bool → Option (List Int × Bool)
 | 0, _, _, _, _, _, _ => none
 | k + 1, x5, x6, x202000, x202001, x203000, x203001 => if x6 < (x202000.length : Int) then (if 0 ≤ x6 then (if (x6 : Int).toNat ≤ 35184372088832 then (trivetref01_Mul.l1 k x5 x6 (List.replicate (x6 : Int).toNat 0) 0 0 x202000 x202001 x203000 x203001) else (none)) else (none)) else ((trivetref01_norm.f k x5 (!(x202001 == x203001))).bind fun bt204 => (some (bt204.1, bt204.2)))
def trivetref01_Mul.l1 : Nat → List Int → Int → List Int → Int → Int → List Int → Bool → List Int → Bool → Option (List Int × Bool)
 | 0, _, _, _, _, _, _, _, _, _ => none
 | k + 1, x5, x6, x7, x8, x9, x202000, x202001, x203000, x203001 => if x9 < (x203000.length : Int) then (if 0 ≤ x6 then (if x6 < (x202000.length : Int) then (if 0 ≤ x9 then (if x7.length < 17592186044416 then (trivetref01_Mul.l1 k x5 x6 (x7 ++ [Int.tmod (IntKind.u64.wrap ((IntKind.u64.wrap ((rd x202000 x6) * (rd x203000 x9))) + x8)) 65536]) (IntKind.u64.wrap (Int.tdiv (IntKind.u64.wrap ((IntKind.u64.wrap ((rd x202000 x6) * (rd x203000 x9))) + x8)) 65536)) (wrap64 (x9 + 1)) x202000 x202001 x203000 x203001) else (none)) else (none)) else (none)) else (none)) else (if x7.length < 17592186044416 then ((trivetref01_plus.f k x5 (x7 ++ [x8])).bind fun t219 => (trivetref01_Mul.l0 k t219 (wrap64 (x6 + 1)) x202000 x202001 x203000 x203001)) else (none))
end
def trivetref01_Mul.f (k : Nat) (l0_0 : List Int) (a0_1 : Bool) (l1_0 : List Int) (a1_1 : Bool) : Option (List Int × Bool) := trivetref01_Mul.l0 k ([] : List Int) 0 l0_0 a0_1 l1_0 a1_1
theorem trivetref01_Mul.mono_l : ∀ k, (∀ y0 y1 y2 y3 y4 y5, LeO (trivetref01_Mul.l0 k y0 y1 y2 y3 y4 y5) (trivetref01_Mul.l0 (k + 1) y0 y1 y2 y3 y4 y5)) ∧ (∀ y0 y1 y2 y3 y4 y5 y6 y7 y8, LeO (trivetref01_Mul.l1 k y0 y1 y2 y3 y4 y5 y6 y7 y8) (trivetref01_Mul.l1 (k + 1) y0 y1 y2 y3 y4 y5 y6 y7 y8))
 | 0 => ⟨fun _ _ _ _ _ _ r h => by simp [trivetref01_Mul.l0] at h, fun _ _ _ _ _ _ _ _ _ r h => by simp [trivetref01_Mul.l1] at h⟩
 | k + 1 => by
  obtain ⟨ih0, ih1⟩ := trivetref01_Mul.mono_l k
  refine ⟨?_, ?_⟩
  ·intro y0 y1 y2 y3 y4 y5
   unfold trivetref01_Mul.l0
   repeat' first
   | (with_reducible exact ih0 _ _ _ _ _ _)
   | (with_reducible exact ih1 _ _ _ _ _ _ _ _ _)
   | (with_reducible exact trivetref01_norm.mono _ _ _)
   | (with_reducible exact trivetref01_plus.mono _ _ _)
   | (with_reducible exact LeO.refl _)
   | (with_reducible exact LeO.none _)
   | (with_reducible refine LeO.ite ?_ ?_)
   | (with_reducible refine LeO.bind ?_ (fun _ => ?_))
   | exact ih0 _ _ _ _ _ _
   | exact ih1 _ _ _ _ _ _ _ _ _
   | exact trivetref01_norm.mono _ _ _
   | exact trivetref01_plus.mono _ _ _
   | exact LeO.none _
   | refine LeO.ite ?_ ?_
   | refine LeO.bind ?_ (fun _ => ?_)
  ·intro y0 y1 y2 y3 y4 y5 y6 y7 y8
   unfold trivetref01_Mul.l1
   repeat' first
   | (with_reducible exact ih0 _ _ _ _ _ _)
   | (with_reducible exact ih1 _ _ _ _ _ _ _ _ _)
   | (with_reducible exact trivetref01_norm.mono _ _ _)
   | (with_reducible exact trivetref01_plus.mono _ _ _)
   | (with_reducible exact LeO.refl _)
   | (with_reducible exact LeO.none _)
   | (with_reducible refine LeO.ite ?_ ?_)
   | (with_reducible refine LeO.bind ?_ (fun _ => ?_))
   | exact ih0 _ _ _ _ _ _
   | exact ih1 _ _ _ _ _ _ _ _ _
   | exact trivetref01_norm.mono _ _ _
   | exact trivetref01_plus.mono _ _ _
   | exact LeO.none _
   | refine LeO.ite ?_ ?_
   | refine LeO.bind ?_ (fun _ => ?_)
theorem trivetref01_Mul.mono : ∀ a0 a1 a2 a3 k, LeO (trivetref01_Mul.f k a0 a1 a2 a3) (trivetref01_Mul.f (k + 1) a0 a1 a2 a3) := by
 intro a0 a1 a2 a3 k
 obtain ⟨ih0, ih1⟩ := trivetref01_Mul.mono_l k
 unfold trivetref01_Mul.f
 repeat' first
   | (with_reducible exact ih0 _ _ _ _ _ _)
   | (with_reducible exact ih1 _ _ _ _ _ _ _ _ _)
   | (with_reducible exact trivetref01_norm.mono _ _ _)
   | (with_reducible exact trivetref01_plus.mono _ _ _)
   | (with_reducible exact LeO.refl _)
   | (with_reducible exact LeO.none _)
   | (with_reducible refine LeO.ite ?_ ?_)
   | (with_reducible refine LeO.bind ?_ (fun _ => ?_))
   | exact ih0 _ _ _ _ _ _
   | exact ih1 _ _ _ _ _ _ _ _ _
   | exact trivetref01_norm.mono _ _ _
   | exact trivetref01_plus.mono _ _ _
   | exact LeO.none _
   | refine LeO.ite ?_ ?_
   | refine LeO.bind ?_ (fun _ => ?_)
set_option maxHeartbeats 8000000 in
set_option maxRecDepth 100000 in
theorem trivetref01_Mul.calls (k : Nat) (A0_0 : Option Addr) (c0_0 : Nat) (l0_0 : List Int) (a0_1 : Bool) (A1_0 : Option Addr) (c1_0 : Nat) (l1_0 : List Int) (a1_1 : Bool) (r1 : List Int) (r2 : Bool) (w : World) (hr0_0 : Kd.C (Kd.int .u64) w A0_0 l0_0.length l0_0) (hc0_0 : l0_0.length ≤ c0_0) (hr1_0 : Kd.C (Kd.int .u64) w A1_0 l1_0.length l1_0) (hc1_0 : l1_0.length ≤ c1_0) (h : trivetref01_Mul.f k l0_0 a0_1 l1_0 a1_1 = some (r1, r2)) :
  Calls Try.prog 22 #[.agg #[.slice A0_0 l0_0.length c0_0, .bool a0_1], .agg #[.slice A1_0 l1_0.length c1_0, .bool a1_1]] w fun e w' => ∃ v0_ : Value, e = .returned (.agg #[v0_, .bool r2]) ∧ Kd.V (Kd.int .u64) 46 w' w.heap.size (fun k_ => (w.heap.size ≤ k_)) v0_ r1 ∧ Below w.heap.size w w' := by
 have hu37 := Try.underlying37
 have HR0_0 := ka hr0_0
 have HC0_0 := ka hc0_0
 clear hr0_0 hc0_0
 have HR1_0 := ka hr1_0
 have HC1_0 := ka hc1_0
 clear hr1_0 hc1_0
 have HB := ka (Below.refl w.heap.size w)
 have H : (trivetref01_Mul.l0 k ([] : List Int) 0 l0_0 a0_1 l1_0 a1_1) = some (r1, r2) := h
 clear h
 have H' := ka H
 clear H
 go_enter Try.func22, Try.ntmps22
 go_wp2_with (first | ((with_reducible refine gate_dst (N := 2) rfl ?_); refine kx (N := 2) (cs := #[.slice A0_0 l0_0.length c0_0, .bool a0_1]) (t := 37) ?_; intro gb201 hg w3 hbox hb; have n0_ := ka (below_step (kw HB.out) hb); have n1_ := ka (hbox); have n2_ := ka ((by rw [hg]; exact (below_size (kw HB.out)) : w.heap.size ≤ gb201)); have n3_ := n2_; clear HB; have HB := n0_; have BK201 := n1_; have GW201 := n2_; have GE201 := n3_; clear n0_ n1_ n2_ n3_; clear hb hbox hg) | ((with_reducible refine gate_dst (N := 3) rfl ?_); refine kx (N := 3) (cs := #[.slice A1_0 l1_0.length c1_0, .bool a1_1]) (t := 37) ?_; intro gb202 hg w4 hbox hb; have n0_ := ka (blk_below (g := gb201) (kz BK201.out) hb); have n1_ := ka (below_step (kw HB.out) hb); have n2_ := ka (hbox); have n3_ := ka ((by rw [hg]; exact (below_size (kw HB.out)) : w.heap.size ≤ gb202)); have n4_ := n3_; have n5_ := ka ((by rw [hg]; exact Nat.ne_of_lt (blk_lt (g := gb201) (kz BK201.out)) : gb201 ≠ gb202)); have n6_ := ka n5_.out.symm; clear BK201; clear HB; have BK201 := n0_; have HB := n1_; have BK202 := n2_; have GW202 := n3_; have GE202 := n4_; have NB201_202 := n5_; have NB202_201 := n6_; clear n0_ n1_ n2_ n3_ n4_ n5_ n6_; clear hb hbox hg) | ((with_reducible refine gate_dst (N := 4) rfl ?_); refine kx (N := 4) (cs := #[.slice none 0 0, .bool false]) (t := 37) ?_; intro gb203 hg w5 hbox hb; have n0_ := ka (blk_below (g := gb201) (kz BK201.out) hb); have n1_ := ka (blk_below (g := gb202) (kz BK202.out) hb); have n2_ := ka (below_step (kw HB.out) hb); have n3_ := ka (hbox); have n4_ := ka ((by rw [hg]; exact (below_size (kw HB.out)) : w.heap.size ≤ gb203)); have n5_ := n4_; have n6_ := ka ((by rw [hg]; exact Nat.ne_of_lt (blk_lt (g := gb201) (kz BK201.out)) : gb201 ≠ gb203)); have n7_ := ka n6_.out.symm; have n8_ := ka ((by rw [hg]; exact Nat.ne_of_lt (blk_lt (g := gb202) (kz BK202.out)) : gb202 ≠ gb203)); have n9_ := ka n8_.out.symm; clear BK201; clear BK202; clear HB; have BK201 := n0_; have BK202 := n1_; have HB := n2_; have BK203 := n3_; have GW203 := n4_; have GE203 := n5_; have NB201_203 := n6_; have NB203_201 := n7_; have NB202_203 := n8_; have NB203_202 := n9_; clear n0_ n1_ n2_ n3_ n4_ n5_ n6_ n7_ n8_ n9_; clear hb hbox hg))
 repeat (go_quiet (first | ((with_reducible refine gate_dst (N := 2) rfl ?_); refine kx (N := 2) (cs := #[.slice A0_0 l0_0.length c0_0, .bool a0_1]) (t := 37) ?_; intro gb201 hg w3 hbox hb; have n0_ := ka (below_step (kw HB.out) hb); have n1_ := ka (hbox); have n2_ := ka ((by rw [hg]; exact (below_size (kw HB.out)) : w.heap.size ≤ gb201)); have n3_ := n2_; clear HB; have HB := n0_; have BK201 := n1_; have GW201 := n2_; have GE201 := n3_; clear n0_ n1_ n2_ n3_; clear hb hbox hg) | ((with_reducible refine gate_dst (N := 3) rfl ?_); refine kx (N := 3) (cs := #[.slice A1_0 l1_0.length c1_0, .bool a1_1]) (t := 37) ?_; intro gb202 hg w4 hbox hb; have n0_ := ka (blk_below (g := gb201) (kz BK201.out) hb); have n1_ := ka (below_step (kw HB.out) hb); have n2_ := ka (hbox); have n3_ := ka ((by rw [hg]; exact (below_size (kw HB.out)) : w.heap.size ≤ gb202)); have n4_ := n3_; have n5_ := ka ((by rw [hg]; exact Nat.ne_of_lt (blk_lt (g := gb201) (kz BK201.out)) : gb201 ≠ gb202)); have n6_ := ka n5_.out.symm; clear BK201; clear HB; have BK201 := n0_; have HB := n1_; have BK202 := n2_; have GW202 := n3_; have GE202 := n4_; have NB201_202 := n5_; have NB202_201 := n6_; clear n0_ n1_ n2_ n3_ n4_ n5_ n6_; clear hb hbox hg) | ((with_reducible refine gate_dst (N := 4) rfl ?_); refine kx (N := 4) (cs := #[.slice none 0 0, .bool false]) (t := 37) ?_; intro gb203 hg w5 hbox hb; have n0_ := ka (blk_below (g := gb201) (kz BK201.out) hb); have n1_ := ka (blk_below (g := gb202) (kz BK202.out) hb); have n2_ := ka (below_step (kw HB.out) hb); have n3_ := ka (hbox); have n4_ := ka ((by rw [hg]; exact (below_size (kw HB.out)) : w.heap.size ≤ gb203)); have n5_ := n4_; have n6_ := ka ((by rw [hg]; exact Nat.ne_of_lt (blk_lt (g := gb201) (kz BK201.out)) : gb201 ≠ gb203)); have n7_ := ka n6_.out.symm; have n8_ := ka ((by rw [hg]; exact Nat.ne_of_lt (blk_lt (g := gb202) (kz BK202.out)) : gb202 ≠ gb203)); have n9_ := ka n8_.out.symm; clear BK201; clear BK202; clear HB; have BK201 := n0_; have BK202 := n1_; have HB := n2_; have BK203 := n3_; have GW203 := n4_; have GE203 := n5_; have NB201_203 := n6_; have NB203_201 := n7_; have NB202_203 := n8_; have NB203_202 := n9_; clear n0_ n1_ n2_ n3_ n4_ n5_ n6_ n7_ n8_ n9_; clear hb hbox hg)); try go_wp2_with (first | ((with_reducible refine gate_dst (N := 2) rfl ?_); refine kx (N := 2) (cs := #[.slice A0_0 l0_0.length c0_0, .bool a0_1]) (t := 37) ?_; intro gb201 hg w3 hbox hb; have n0_ := ka (below_step (kw HB.out) hb); have n1_ := ka (hbox); have n2_ := ka ((by rw [hg]; exact (below_size (kw HB.out)) : w.heap.size ≤ gb201)); have n3_ := n2_; clear HB; have HB := n0_; have BK201 := n1_; have GW201 := n2_; have GE201 := n3_; clear n0_ n1_ n2_ n3_; clear hb hbox hg) | ((with_reducible refine gate_dst (N := 3) rfl ?_); refine kx (N := 3) (cs := #[.slice A1_0 l1_0.length c1_0, .bool a1_1]) (t := 37) ?_; intro gb202 hg w4 hbox hb; have n0_ := ka (blk_below (g := gb201) (kz BK201.out) hb); have n1_ := ka (below_step (kw HB.out) hb); have n2_ := ka (hbox); have n3_ := ka ((by rw [hg]; exact (below_size (kw HB.out)) : w.heap.size ≤ gb202)); have n4_ := n3_; have n5_ := ka ((by rw [hg]; exact Nat.ne_of_lt (blk_lt (g := gb201) (kz BK201.out)) : gb201 ≠ gb202)); have n6_ := ka n5_.out.symm; clear BK201; clear HB; have BK201 := n0_; have HB := n1_; have BK202 := n2_; have GW202 := n3_; have GE202 := n4_; have NB201_202 := n5_; have NB202_201 := n6_; clear n0_ n1_ n2_ n3_ n4_ n5_ n6_; clear hb hbox hg) | ((with_reducible refine gate_dst (N := 4) rfl ?_); refine kx (N := 4) (cs := #[.slice none 0 0, .bool false]) (t := 37) ?_; intro gb203 hg w5 hbox hb; have n0_ := ka (blk_below (g := gb201) (kz BK201.out) hb); have n1_ := ka (blk_below (g := gb202) (kz BK202.out) hb); have n2_ := ka (below_step (kw HB.out) hb); have n3_ := ka (hbox); have n4_ := ka ((by rw [hg]; exact (below_size (kw HB.out)) : w.heap.size ≤ gb203)); have n5_ := n4_; have n6_ := ka ((by rw [hg]; exact Nat.ne_of_lt (blk_lt (g := gb201) (kz BK201.out)) : gb201 ≠ gb203)); have n7_ := ka n6_.out.symm; have n8_ := ka ((by rw [hg]; exact Nat.ne_of_lt (blk_lt (g := gb202) (kz BK202.out)) : gb202 ≠ gb203)); have n9_ := ka n8_.out.symm; clear BK201; clear BK202; clear HB; have BK201 := n0_; have BK202 := n1_; have HB := n2_; have BK203 := n3_; have GW203 := n4_; have GE203 := n5_; have NB201_203 := n6_; have NB203_201 := n7_; have NB202_203 := n8_; have NB203_202 := n9_; clear n0_ n1_ n2_ n3_ n4_ n5_ n6_ n7_ n8_ n9_; clear hb hbox hg)))
 (try simp only [Act.put, List.setIfInBounds_toArray, List.set_cons_zero, List.set_cons_succ])
 go_loopg [5, 6] k (fun kq v5 v6 w' => ∃ (x5_1 : List Int) (x6_1 : Int), v6 = .int .i64 x6_1 ∧ Aside0 (trivetref01_Mul.l0 kq x5_1 x6_1 l0_0 a0_1 l1_0 a1_1 = some (r1, r2)) ∧ Aside0 (kq ≤ k) ∧ Aside0 (Kd.R (Kd.int .u64) 46 w' w.heap.size (fun k_ => (w.heap.size ≤ k_)) v5 x5_1) ∧ Aside0 (w'.heap[gb201]? = some (.cells #[(.slice A0_0 l0_0.length c0_0), .bool a0_1] 37 (0, 0))) ∧ Aside0 (w'.heap[gb202]? = some (.cells #[(.slice A1_0 l1_0.length c1_0), .bool a1_1] 37 (0, 0))) ∧ Aside0 (w'.heap[gb203]? = some (.cells #[(.slice none 0 0), .bool false] 37 (0, 0))) ∧ Aside0 (Below w.heap.size w w'))
 case atStart => exact ⟨(([] : List Int)), (0), (by first | rfl | (simp; done) | (simp [*]; done)), H', ⟨Nat.le_refl _⟩, ⟨by first | exact Kd.R_nil _ _ _ _ _ | exact Kd.N_nil _ _ _ _ _ | exact Kd.V_nil _ _ _ _ _ | exact Kd.Q_nil _ _ _ _ _ | exact Kd.S_nil _ _ _ _ _⟩, ⟨by (with_reducible repeat (first | apply kb1 | apply kb2 | apply kb3)); exact BK201.out⟩, ⟨by (with_reducible repeat (first | apply kb1 | apply kb2 | apply kb3)); exact BK202.out⟩, ⟨by (with_reducible repeat (first | apply kb1 | apply kb2 | apply kb3)); exact BK203.out⟩, ⟨by repeat (first | (with_reducible first | exact HB.out | apply kc1 | apply kc2 | apply kc3 | refine kc4 ?_ GE201.out | refine kc4 ?_ GE202.out | refine kc4 ?_ GE203.out) | exact HB.out)⟩⟩
 case round =>
  clear H'
  try clear c1
  try clear c2
  try clear p2
  obtain ⟨x5_1, x6_1, rfl, HA, HK1, HO_5, BK201, BK202, BK203, HB⟩ := hrel
  cases gk with
  | zero => exact absurd HA.out (by simp [trivetref01_Mul.l0])
  | succ k1 =>
   have H := HA.out
   clear HA
   simp only [trivetref01_Mul.l0] at H
   by_cases c6 : x6_1 < (l0_0.length : Int)
   ·rw [if_pos c6] at H
    have c6b0 : decide (x6_1 < (l0_0.length : Int)) = true := decide_eq_true c6
    clear c6
    by_cases c7 : 0 ≤ x6_1
    ·rw [if_pos c7] at H
     have c7b0 := eq_true c7
     have c7b1 : decide (0 ≤ x6_1) = true := decide_eq_true c7
     clear c7
     by_cases c8 : (x6_1 : Int).toNat ≤ 35184372088832
     ·rw [if_pos c8] at H
      have c8b0 := eq_true c8
      have c8b1 : decide ((x6_1 : Int).toNat ≤ 35184372088832) = true := decide_eq_true c8
      clear c8
      obtain ⟨y208, hy208⟩ : ∃ y_ : List Int, y_ = (List.replicate (x6_1 : Int).toNat 0) := ⟨_, rfl⟩
      replace H : (trivetref01_Mul.l1 k1 x5_1 x6_1 y208 0 0 l0_0 a0_1 l1_0 a1_1) = some (r1, r2) := by first | (rw [hy208]; with_reducible exact H) | (have H2_ := (Option.bind_some _ _).symm.trans H; rw [hy208]; with_reducible exact H2_) | (have H2_ := (Option.bind_some _ _).symm.trans H; with_reducible exact H2_) | with_reducible exact H | (rw [hy208]; exact H) | exact H
      have Ny208 := ka hy208
      clear hy208
      have H' := ka H
      clear H
      have hnb9 := NB201_202.out
      have hnc9 := NB202_201.out
      have hnb10 := NB201_203.out
      have hnc10 := NB203_201.out
      have hcz11 := blkAll2 BK201.out
      go_wp2_with (first | ((with_reducible refine gate_dst (N := 19) rfl ?_); refine Kd.R_make (Kd.int .u64) _ 46 rfl (N := 19) rfl 35 _ _ rfl x6_1 rfl rfl Try.underlying35 (.int .u64 0) 8 info46 rfl (by decide) (by omega) 0 (ok := fun _ => True) (okp := fun _ => True) rfl (fun _ hk => hk) trivial (of_decide_eq_true (by first | (with_reducible assumption) | assumption)) (Nat.le_trans (Nat.mul_le_mul_right _ (of_decide_eq_true (by first | (with_reducible assumption) | assumption) : x6_1.toNat ≤ 35184372088832)) (by omega)) (Below.refl _ _) (Nat.le_refl _) ?_; intro v209 w12 ho13 hb hg_ hnew_; clear hg_ hnew_; (first | rw [← Ny208.out] at ho13 | (simp only [Int.reduceToNat] at ho13; rw [← Ny208.out] at ho13)); have n0_ := ka (Kd.R_elder' (by (with_reducible repeat (first | apply Kd.R_alloc | apply Kd.R_drewN | apply Kd.R_drew)); exact HO_5.out) (Kd.R_base ho13) hb); have n1_ := ka (Kd.R_lower (Kd.R_new' (Kd.R_newM (M := fun k_ => (w.heap.size ≤ k_)) ho13 (below_size (kw HB.out)) (fun k_ h_ => h_)) (Kd.R_lt (by (with_reducible repeat (first | apply Kd.R_alloc | apply Kd.R_drewN | apply Kd.R_drew)); exact HO_5.out))) (below_size (kw HB.out))); have n2_ := ka (blk_below (g := gb201) (kz BK201.out) hb); have n3_ := ka (blk_below (g := gb202) (kz BK202.out) hb); have n4_ := ka (blk_below (g := gb203) (kz BK203.out) hb); have n5_ := ka (below_step (kw HB.out) hb); clear HO_5; clear BK201; clear BK202; clear BK203; clear HB; have HO_5 := n0_; have HO210 := n1_; have BK201 := n2_; have BK202 := n3_; have BK203 := n4_; have HB := n5_; clear n0_ n1_ n2_ n3_ n4_ n5_; clear hb ho13))
      repeat (go_quiet (first | ((with_reducible refine gate_dst (N := 19) rfl ?_); refine Kd.R_make (Kd.int .u64) _ 46 rfl (N := 19) rfl 35 _ _ rfl x6_1 rfl rfl Try.underlying35 (.int .u64 0) 8 info46 rfl (by decide) (by omega) 0 (ok := fun _ => True) (okp := fun _ => True) rfl (fun _ hk => hk) trivial (of_decide_eq_true (by first | (with_reducible assumption) | assumption)) (Nat.le_trans (Nat.mul_le_mul_right _ (of_decide_eq_true (by first | (with_reducible assumption) | assumption) : x6_1.toNat ≤ 35184372088832)) (by omega)) (Below.refl _ _) (Nat.le_refl _) ?_; intro v209 w12 ho13 hb hg_ hnew_; clear hg_ hnew_; (first | rw [← Ny208.out] at ho13 | (simp only [Int.reduceToNat] at ho13; rw [← Ny208.out] at ho13)); have n0_ := ka (Kd.R_elder' (by (with_reducible repeat (first | apply Kd.R_alloc | apply Kd.R_drewN | apply Kd.R_drew)); exact HO_5.out) (Kd.R_base ho13) hb); have n1_ := ka (Kd.R_lower (Kd.R_new' (Kd.R_newM (M := fun k_ => (w.heap.size ≤ k_)) ho13 (below_size (kw HB.out)) (fun k_ h_ => h_)) (Kd.R_lt (by (with_reducible repeat (first | apply Kd.R_alloc | apply Kd.R_drewN | apply Kd.R_drew)); exact HO_5.out))) (below_size (kw HB.out))); have n2_ := ka (blk_below (g := gb201) (kz BK201.out) hb); have n3_ := ka (blk_below (g := gb202) (kz BK202.out) hb); have n4_ := ka (blk_below (g := gb203) (kz BK203.out) hb); have n5_ := ka (below_step (kw HB.out) hb); clear HO_5; clear BK201; clear BK202; clear BK203; clear HB; have HO_5 := n0_; have HO210 := n1_; have BK201 := n2_; have BK202 := n3_; have BK203 := n4_; have HB := n5_; clear n0_ n1_ n2_ n3_ n4_ n5_; clear hb ho13)); try go_wp2_with (first | ((with_reducible refine gate_dst (N := 19) rfl ?_); refine Kd.R_make (Kd.int .u64) _ 46 rfl (N := 19) rfl 35 _ _ rfl x6_1 rfl rfl Try.underlying35 (.int .u64 0) 8 info46 rfl (by decide) (by omega) 0 (ok := fun _ => True) (okp := fun _ => True) rfl (fun _ hk => hk) trivial (of_decide_eq_true (by first | (with_reducible assumption) | assumption)) (Nat.le_trans (Nat.mul_le_mul_right _ (of_decide_eq_true (by first | (with_reducible assumption) | assumption) : x6_1.toNat ≤ 35184372088832)) (by omega)) (Below.refl _ _) (Nat.le_refl _) ?_; intro v209 w12 ho13 hb hg_ hnew_; clear hg_ hnew_; (first | rw [← Ny208.out] at ho13 | (simp only [Int.reduceToNat] at ho13; rw [← Ny208.out] at ho13)); have n0_ := ka (Kd.R_elder' (by (with_reducible repeat (first | apply Kd.R_alloc | apply Kd.R_drewN | apply Kd.R_drew)); exact HO_5.out) (Kd.R_base ho13) hb); have n1_ := ka (Kd.R_lower (Kd.R_new' (Kd.R_newM (M := fun k_ => (w.heap.size ≤ k_)) ho13 (below_size (kw HB.out)) (fun k_ h_ => h_)) (Kd.R_lt (by (with_reducible repeat (first | apply Kd.R_alloc | apply Kd.R_drewN | apply Kd.R_drew)); exact HO_5.out))) (below_size (kw HB.out))); have n2_ := ka (blk_below (g := gb201) (kz BK201.out) hb); have n3_ := ka (blk_below (g := gb202) (kz BK202.out) hb); have n4_ := ka (blk_below (g := gb203) (kz BK203.out) hb); have n5_ := ka (below_step (kw HB.out) hb); clear HO_5; clear BK201; clear BK202; clear BK203; clear HB; have HO_5 := n0_; have HO210 := n1_; have BK201 := n2_; have BK202 := n3_; have BK203 := n4_; have HB := n5_; clear n0_ n1_ n2_ n3_ n4_ n5_; clear hb ho13)))
      (try simp only [Act.put, List.setIfInBounds_toArray, List.set_cons_zero, List.set_cons_succ])
      go_loopg [7, 8, 9] k1 (fun kq v7 v8 v9 w' => ∃ (x7_2 : List Int) (x8_2 : Int) (x9_2 : Int), v8 = .int .u64 x8_2 ∧ v9 = .int .i64 x9_2 ∧ Aside0 (trivetref01_Mul.l1 kq x5_1 x6_1 x7_2 x8_2 x9_2 l0_0 a0_1 l1_0 a1_1 = some (r1, r2)) ∧ Aside0 (kq ≤ k1) ∧ Aside0 (Kd.R (Kd.int .u64) 46 w' w.heap.size (fun k_ => (w.heap.size ≤ k_) ∧ some k_ ≠ (v7 : Value).ownBlock) u5 x5_1) ∧ Aside0 (Kd.R (Kd.int .u64) 46 w' w.heap.size (fun k_ => (w.heap.size ≤ k_) ∧ some k_ ≠ (u5 : Value).ownBlock) v7 x7_2) ∧ Aside0 (w'.heap[gb201]? = some (.cells #[(.slice A0_0 l0_0.length c0_0), .bool a0_1] 37 (0, 0))) ∧ Aside0 (w'.heap[gb202]? = some (.cells #[(.slice A1_0 l1_0.length c1_0), .bool a1_1] 37 (0, 0))) ∧ Aside0 (w'.heap[gb203]? = some (.cells #[(.slice none 0 0), .bool false] 37 (0, 0))) ∧ Aside0 (Below w.heap.size w w'))
      case atStart => exact ⟨(y208), (0), (0), (by first | rfl | (simp; done) | (simp [*]; done)), (by first | rfl | (simp; done) | (simp [*]; done)), H', ⟨Nat.le_refl _⟩, ⟨by (with_reducible repeat (first | apply Kd.R_alloc | apply Kd.R_drewN | apply Kd.R_drew)); exact HO_5.out⟩, ⟨by (with_reducible repeat (first | apply Kd.R_alloc | apply Kd.R_drewN | apply Kd.R_drew)); exact Kd.R_mono HO210.out (fun _ hk => ⟨hk.1.1, hk.2⟩)⟩, ⟨by (with_reducible repeat (first | apply kb1 | apply kb2 | apply kb3)); exact BK201.out⟩, ⟨by (with_reducible repeat (first | apply kb1 | apply kb2 | apply kb3)); exact BK202.out⟩, ⟨by (with_reducible repeat (first | apply kb1 | apply kb2 | apply kb3)); exact BK203.out⟩, ⟨by repeat (first | (with_reducible first | exact HB.out | apply kc1 | apply kc2 | apply kc3 | refine kc4 ?_ GE201.out | refine kc4 ?_ GE202.out | refine kc4 ?_ GE203.out) | exact HB.out)⟩⟩
      case round =>
       clear H'
       try clear c1
       try clear c2
       try clear p2
       try clear c6
       try clear c6b0
       try clear c7
       try clear c7b0
       try clear c7b1
       try clear c8
       try clear c8b0
       try clear c8b1
       try clear c9
       try clear c10
       try clear hcz11
       try clear p2
       obtain ⟨x7_2, x8_2, x9_2, rfl, rfl, HA, HK2, HO_5, HO_7, BK201, BK202, BK203, HB⟩ := hrel
       cases gk with
       | zero => exact absurd HA.out (by simp [trivetref01_Mul.l1])
       | succ k2 =>
        have H := HA.out
        clear HA
        simp only [trivetref01_Mul.l1] at H
        by_cases c14 : x9_2 < (l1_0.length : Int)
        ·rw [if_pos c14] at H
         have c14b0 : decide (x9_2 < (l1_0.length : Int)) = true := decide_eq_true c14
         clear c14
         by_cases c15 : 0 ≤ x6_1
         ·rw [if_pos c15] at H
          have c15b0 : decide (0 ≤ x6_1) = true := decide_eq_true c15
          clear c15
          by_cases c16 : x6_1 < (l0_0.length : Int)
          ·rw [if_pos c16] at H
           have c16b0 : decide (x6_1 < (l0_0.length : Int)) = true := decide_eq_true c16
           clear c16
           by_cases c17 : 0 ≤ x9_2
           ·rw [if_pos c17] at H
            have c17b0 : decide (0 ≤ x9_2) = true := decide_eq_true c17
            clear c17
            by_cases c18 : x7_2.length < 17592186044416
            ·rw [if_pos c18] at H
             have LMc18 := ka c18
             clear c18
             obtain ⟨y213, hy213⟩ : ∃ y_ : List Int, y_ = (x7_2 ++ [Int.tmod (IntKind.u64.wrap ((IntKind.u64.wrap ((rd l0_0 x6_1) * (rd l1_0 x9_2))) + x8_2)) 65536]) := ⟨_, rfl⟩
             replace H : (trivetref01_Mul.l1 k2 x5_1 x6_1 y213 (IntKind.u64.wrap (Int.tdiv (IntKind.u64.wrap ((IntKind.u64.wrap ((rd l0_0 x6_1) * (rd l1_0 x9_2))) + x8_2)) 65536)) (wrap64 (x9_2 + 1)) l0_0 a0_1 l1_0 a1_1) = some (r1, r2) := by first | (rw [hy213]; with_reducible exact H) | (have H2_ := (Option.bind_some _ _).symm.trans H; rw [hy213]; with_reducible exact H2_) | (have H2_ := (Option.bind_some _ _).symm.trans H; with_reducible exact H2_) | with_reducible exact H | (rw [hy213]; exact H) | exact H
             have Ny213 := ka hy213
             clear hy213
             have H' := ka H
             clear H
             have hnb19 := NB202_201.out
             have hnc19 := NB201_202.out
             have hnb20 := NB202_203.out
             have hnc20 := NB203_202.out
             have hcz21 := blkAll2 BK202.out
             have hnb22 := NB201_203.out
             have hnc22 := NB203_201.out
             have hcz23 := blkAll2 BK201.out
             have p211 : 0 ≤ (x6_1 : Int) := of_decide_eq_true (by first | (with_reducible assumption) | assumption)
             have q211 : x6_1 < (l0_0.length : Int) := of_decide_eq_true (by first | (with_reducible assumption) | assumption)
             obtain ⟨ad211, e211, hx211_0⟩ := Kd.at_int HR0_0.out x6_1 p211 q211
             cases e211
             replace hx211_0 := (HB.out.cell (World.block_lt_of_cell? w _ hx211_0)).trans hx211_0
             replace p211 := eq_true p211
             replace q211 := eq_true q211
             have p212 : 0 ≤ (x9_2 : Int) := of_decide_eq_true (by first | (with_reducible assumption) | assumption)
             have q212 : x9_2 < (l1_0.length : Int) := of_decide_eq_true (by first | (with_reducible assumption) | assumption)
             obtain ⟨ad212, e212, hx212_0⟩ := Kd.at_int HR1_0.out x9_2 p212 q212
             cases e212
             replace hx212_0 := (HB.out.cell (World.block_lt_of_cell? w _ hx212_0)).trans hx212_0
             replace p212 := eq_true p212
             replace q212 := eq_true q212
             go_wp2_with (first | ((with_reducible refine gate_builtin (b := .append) (xs := #[.tmp 40, .tmp 43]) rfl ?_); at_builtin; refine Kd.R_append (Kd.int .u64) (w0 := w) w.heap.size rfl (.tmp 40) (.tmp 43) 35 46 (.int .u64 0) 8 rfl Try.underlying35 info46 rfl (by decide) (by omega) u7 x7_2 (Int.tmod (IntKind.u64.wrap ((IntKind.u64.wrap ((rd l0_0 x6_1) * (rd l1_0 x9_2))) + x8_2)) 65536) [.int .u64 (Int.tmod (IntKind.u64.wrap ((IntKind.u64.wrap ((rd l0_0 x6_1) * (rd l1_0 x9_2))) + x8_2)) 65536)] (fun k_ => (w.heap.size ≤ k_) ∧ some k_ ≠ (u5 : Value).ownBlock) (fun _ => False) rfl rfl ?aP (fun _ hk => hk.elim) ?aF ?aO ?aB ?aS ?aL ?_; (case aP => exact rfl); (case aB => exact (kw HB.out)); (case aF => exact (fun k_ hk => ⟨(Nat.le_trans (below_size (kw HB.out)) hk), Kd.fresh' (Kd.R_lt (by (with_reducible repeat (first | apply Kd.R_alloc | apply Kd.R_drewN | apply Kd.R_drew)); exact HO_5.out)) k_ hk⟩)); (case aO => exact (by (with_reducible repeat (first | apply Kd.R_alloc | apply Kd.R_drewN | apply Kd.R_drew)); exact HO_7.out)); (case aS => exact (below_size (kw HB.out))); (case aL => have := LMc18.out; omega); intro v214 w24 ho hb hg hat; rw [← Ny213.out] at ho; have n0_ := ka (Kd.R_after (ok := (fun k_ => (w.heap.size ≤ k_))) (by (with_reducible repeat (first | apply Kd.R_alloc | apply Kd.R_drewN | apply Kd.R_drew)); exact HO_5.out) hg hat); have n1_ := ka (blk_grown (g := gb201) (kz BK201.out) hg (Kd.R_ne HO_7.out BK201.out (by decide))); have n2_ := ka (blk_grown (g := gb202) (kz BK202.out) hg (Kd.R_ne HO_7.out BK202.out (by decide))); have n3_ := ka (blk_grown (g := gb203) (kz BK203.out) hg (Kd.R_ne HO_7.out BK203.out (by decide))); have n4_ := ka (hb); have n5_ := ka (ho); clear HO_5; clear BK201; clear BK202; clear BK203; clear HB; clear HO_7; have HO_5 := n0_; have BK201 := n1_; have BK202 := n2_; have BK203 := n3_; have HB := n4_; have HO215 := n5_; clear n0_ n1_ n2_ n3_ n4_ n5_; clear ho hb hg hat))
             repeat (go_quiet (first | ((with_reducible refine gate_builtin (b := .append) (xs := #[.tmp 40, .tmp 43]) rfl ?_); at_builtin; refine Kd.R_append (Kd.int .u64) (w0 := w) w.heap.size rfl (.tmp 40) (.tmp 43) 35 46 (.int .u64 0) 8 rfl Try.underlying35 info46 rfl (by decide) (by omega) u7 x7_2 (Int.tmod (IntKind.u64.wrap ((IntKind.u64.wrap ((rd l0_0 x6_1) * (rd l1_0 x9_2))) + x8_2)) 65536) [.int .u64 (Int.tmod (IntKind.u64.wrap ((IntKind.u64.wrap ((rd l0_0 x6_1) * (rd l1_0 x9_2))) + x8_2)) 65536)] (fun k_ => (w.heap.size ≤ k_) ∧ some k_ ≠ (u5 : Value).ownBlock) (fun _ => False) rfl rfl ?aP (fun _ hk => hk.elim) ?aF ?aO ?aB ?aS ?aL ?_; (case aP => exact rfl); (case aB => exact (kw HB.out)); (case aF => exact (fun k_ hk => ⟨(Nat.le_trans (below_size (kw HB.out)) hk), Kd.fresh' (Kd.R_lt (by (with_reducible repeat (first | apply Kd.R_alloc | apply Kd.R_drewN | apply Kd.R_drew)); exact HO_5.out)) k_ hk⟩)); (case aO => exact (by (with_reducible repeat (first | apply Kd.R_alloc | apply Kd.R_drewN | apply Kd.R_drew)); exact HO_7.out)); (case aS => exact (below_size (kw HB.out))); (case aL => have := LMc18.out; omega); intro v214 w24 ho hb hg hat; rw [← Ny213.out] at ho; have n0_ := ka (Kd.R_after (ok := (fun k_ => (w.heap.size ≤ k_))) (by (with_reducible repeat (first | apply Kd.R_alloc | apply Kd.R_drewN | apply Kd.R_drew)); exact HO_5.out) hg hat); have n1_ := ka (blk_grown (g := gb201) (kz BK201.out) hg (Kd.R_ne HO_7.out BK201.out (by decide))); have n2_ := ka (blk_grown (g := gb202) (kz BK202.out) hg (Kd.R_ne HO_7.out BK202.out (by decide))); have n3_ := ka (blk_grown (g := gb203) (kz BK203.out) hg (Kd.R_ne HO_7.out BK203.out (by decide))); have n4_ := ka (hb); have n5_ := ka (ho); clear HO_5; clear BK201; clear BK202; clear BK203; clear HB; clear HO_7; have HO_5 := n0_; have BK201 := n1_; have BK202 := n2_; have BK203 := n3_; have HB := n4_; have HO215 := n5_; clear n0_ n1_ n2_ n3_ n4_ n5_; clear ho hb hg hat)); try go_wp2_with (first | ((with_reducible refine gate_builtin (b := .append) (xs := #[.tmp 40, .tmp 43]) rfl ?_); at_builtin; refine Kd.R_append (Kd.int .u64) (w0 := w) w.heap.size rfl (.tmp 40) (.tmp 43) 35 46 (.int .u64 0) 8 rfl Try.underlying35 info46 rfl (by decide) (by omega) u7 x7_2 (Int.tmod (IntKind.u64.wrap ((IntKind.u64.wrap ((rd l0_0 x6_1) * (rd l1_0 x9_2))) + x8_2)) 65536) [.int .u64 (Int.tmod (IntKind.u64.wrap ((IntKind.u64.wrap ((rd l0_0 x6_1) * (rd l1_0 x9_2))) + x8_2)) 65536)] (fun k_ => (w.heap.size ≤ k_) ∧ some k_ ≠ (u5 : Value).ownBlock) (fun _ => False) rfl rfl ?aP (fun _ hk => hk.elim) ?aF ?aO ?aB ?aS ?aL ?_; (case aP => exact rfl); (case aB => exact (kw HB.out)); (case aF => exact (fun k_ hk => ⟨(Nat.le_trans (below_size (kw HB.out)) hk), Kd.fresh' (Kd.R_lt (by (with_reducible repeat (first | apply Kd.R_alloc | apply Kd.R_drewN | apply Kd.R_drew)); exact HO_5.out)) k_ hk⟩)); (case aO => exact (by (with_reducible repeat (first | apply Kd.R_alloc | apply Kd.R_drewN | apply Kd.R_drew)); exact HO_7.out)); (case aS => exact (below_size (kw HB.out))); (case aL => have := LMc18.out; omega); intro v214 w24 ho hb hg hat; rw [← Ny213.out] at ho; have n0_ := ka (Kd.R_after (ok := (fun k_ => (w.heap.size ≤ k_))) (by (with_reducible repeat (first | apply Kd.R_alloc | apply Kd.R_drewN | apply Kd.R_drew)); exact HO_5.out) hg hat); have n1_ := ka (blk_grown (g := gb201) (kz BK201.out) hg (Kd.R_ne HO_7.out BK201.out (by decide))); have n2_ := ka (blk_grown (g := gb202) (kz BK202.out) hg (Kd.R_ne HO_7.out BK202.out (by decide))); have n3_ := ka (blk_grown (g := gb203) (kz BK203.out) hg (Kd.R_ne HO_7.out BK203.out (by decide))); have n4_ := ka (hb); have n5_ := ka (ho); clear HO_5; clear BK201; clear BK202; clear BK203; clear HB; clear HO_7; have HO_5 := n0_; have BK201 := n1_; have BK202 := n2_; have BK203 := n3_; have HB := n4_; have HO215 := n5_; clear n0_ n1_ n2_ n3_ n4_ n5_; clear ho hb hg hat)))
             go_roundg k2
             case measure => have := HK1.out; have := HK2.out; omega
             case rel => exact ⟨(y213), (IntKind.u64.wrap (Int.tdiv (IntKind.u64.wrap ((IntKind.u64.wrap ((rd l0_0 x6_1) * (rd l1_0 x9_2))) + x8_2)) 65536)), (wrap64 (x9_2 + 1)), (by first | rfl | (simp; done) | (simp [*]; done)), (by first | rfl | (simp; done) | (simp [*]; done)), H', ⟨by have := HK1.out; have := HK2.out; omega⟩, ⟨by (with_reducible repeat (first | apply Kd.R_alloc | apply Kd.R_drewN | apply Kd.R_drew)); exact HO_5.out⟩, ⟨by (with_reducible repeat (first | apply Kd.R_alloc | apply Kd.R_drewN | apply Kd.R_drew)); exact HO215.out⟩, ⟨by (with_reducible repeat (first | apply kb1 | apply kb2 | apply kb3)); exact BK201.out⟩, ⟨by (with_reducible repeat (first | apply kb1 | apply kb2 | apply kb3)); exact BK202.out⟩, ⟨by (with_reducible repeat (first | apply kb1 | apply kb2 | apply kb3)); exact BK203.out⟩, ⟨by repeat (first | (with_reducible first | exact HB.out | apply kc1 | apply kc2 | apply kc3 | refine kc4 ?_ GE201.out | refine kc4 ?_ GE202.out | refine kc4 ?_ GE203.out) | exact HB.out)⟩⟩
            ·rw [if_neg c18] at H
             exact absurd H (by simp)
           ·rw [if_neg c17] at H
            exact absurd H (by simp)
          ·rw [if_neg c16] at H
           exact absurd H (by simp)
         ·rw [if_neg c15] at H
          exact absurd H (by simp)
        ·rw [if_neg c14] at H
         have c14b0 : decide (x9_2 < (l1_0.length : Int)) = false := decide_eq_false c14
         clear c14
         by_cases c25 : x7_2.length < 17592186044416
         ·rw [if_pos c25] at H
          have LMc25 := ka c25
          clear c25
          obtain ⟨y216, hy216⟩ : ∃ y_ : List Int, y_ = (x7_2 ++ [x8_2]) := ⟨_, rfl⟩
          replace H : ((trivetref01_plus.f k2 x5_1 y216).bind fun t219 => (trivetref01_Mul.l0 k2 t219 (wrap64 (x6_1 + 1)) l0_0 a0_1 l1_0 a1_1)) = some (r1, r2) := by first | (rw [hy216]; with_reducible exact H) | (have H2_ := (Option.bind_some _ _).symm.trans H; rw [hy216]; with_reducible exact H2_) | (have H2_ := (Option.bind_some _ _).symm.trans H; with_reducible exact H2_) | with_reducible exact H | (rw [hy216]; exact H) | exact H
          have Ny216 := ka hy216
          clear hy216
          replace H := Option.bind_eq_some_iff.mp H
          obtain ⟨t219, A260, H⟩ := H
          replace H : (trivetref01_Mul.l0 k2 t219 (wrap64 (x6_1 + 1)) l0_0 a0_1 l1_0 a1_1) = some (r1, r2) := H
          have A26 := ka A260
          clear A260
          have H' := ka H
          clear H
          have hnb27 := NB202_201.out
          have hnc27 := NB201_202.out
          have hnb28 := NB202_203.out
          have hnc28 := NB203_202.out
          have hcz29 := blkAll2 BK202.out
          go_wp2_with (first | ((with_reducible refine gate_builtin (b := .append) (xs := #[.tmp 47, .tmp 49]) rfl ?_); at_builtin; refine Kd.R_append (Kd.int .u64) (w0 := w) w.heap.size rfl (.tmp 47) (.tmp 49) 35 46 (.int .u64 0) 8 rfl Try.underlying35 info46 rfl (by decide) (by omega) u7 x7_2 x8_2 [.int .u64 x8_2] (fun k_ => (w.heap.size ≤ k_) ∧ some k_ ≠ (u5 : Value).ownBlock) (fun _ => False) rfl rfl ?aP (fun _ hk => hk.elim) ?aF ?aO ?aB ?aS ?aL ?_; (case aP => exact rfl); (case aB => exact (kw HB.out)); (case aF => exact (fun k_ hk => ⟨(Nat.le_trans (below_size (kw HB.out)) hk), Kd.fresh' (Kd.R_lt (by (with_reducible repeat (first | apply Kd.R_alloc | apply Kd.R_drewN | apply Kd.R_drew)); exact HO_5.out)) k_ hk⟩)); (case aO => exact (by (with_reducible repeat (first | apply Kd.R_alloc | apply Kd.R_drewN | apply Kd.R_drew)); exact HO_7.out)); (case aS => exact (below_size (kw HB.out))); (case aL => have := LMc25.out; omega); intro v217 w30 ho hb hg hat; rw [← Ny216.out] at ho; have n0_ := ka (Kd.R_after (ok := (fun k_ => (w.heap.size ≤ k_))) (by (with_reducible repeat (first | apply Kd.R_alloc | apply Kd.R_drewN | apply Kd.R_drew)); exact HO_5.out) hg hat); have n1_ := ka (blk_grown (g := gb201) (kz BK201.out) hg (Kd.R_ne HO_7.out BK201.out (by decide))); have n2_ := ka (blk_grown (g := gb202) (kz BK202.out) hg (Kd.R_ne HO_7.out BK202.out (by decide))); have n3_ := ka (blk_grown (g := gb203) (kz BK203.out) hg (Kd.R_ne HO_7.out BK203.out (by decide))); have n4_ := ka (hb); have n5_ := ka (ho); clear HO_5; clear BK201; clear BK202; clear BK203; clear HB; clear HO_7; have HO_5 := n0_; have BK201 := n1_; have BK202 := n2_; have BK203 := n3_; have HB := n4_; have HO218 := n5_; clear n0_ n1_ n2_ n3_ n4_ n5_; clear ho hb hg hat; obtain ⟨Ao31, co31, eo31⟩ := Kd.R_slice HO_5.out; subst eo31; obtain ⟨Ao32, co32, eo32⟩ := Kd.R_slice HO218.out; subst eo32) | (go_at_call 32; (with_reducible refine (trivetref01_plus.calls k2 _ _ x5_1 _ _ y216 t219 _ ?side1 ?side2 ?side3 ?side4 A26.out).mono ?_); (case side1 => repeat (first | exact (Kd.R_reads' HO_5.out).2.2 | (with_reducible refine Kd.C_alloc ?_ _) | (with_reducible refine Kd.C_drewN ?_ _) | (with_reducible refine Kd.C_drew ?_))); (case side2 => exact (Kd.R_reads' HO_5.out).2.1); (case side3 => repeat (first | exact (Kd.R_reads' HO218.out).2.2 | (with_reducible refine Kd.C_alloc ?_ _) | (with_reducible refine Kd.C_drewN ?_ _) | (with_reducible refine Kd.C_drew ?_))); (case side4 => exact (Kd.R_reads' HO218.out).2.1); rintro e w33 ⟨v220, rfl, ho0, hb⟩; have n0_ := ka (Kd.R_elder' (by (with_reducible repeat (first | apply Kd.R_alloc | apply Kd.R_drewN | apply Kd.R_drew)); exact HO_5.out) (Kd.R_base ho0) hb); have n1_ := ka (Kd.R_elder' (by (with_reducible repeat (first | apply Kd.R_alloc | apply Kd.R_drewN | apply Kd.R_drew)); exact HO218.out) (Kd.R_base ho0) hb); have n2_ := ka (Kd.R_lower (Kd.R_new' (Kd.R_new' (Kd.R_newM (M := fun k_ => (w.heap.size ≤ k_)) ho0 (below_size (kw HB.out)) (fun k_ h_ => h_)) (Kd.R_lt (by (with_reducible repeat (first | apply Kd.R_alloc | apply Kd.R_drewN | apply Kd.R_drew)); exact HO_5.out))) (Kd.R_lt (by (with_reducible repeat (first | apply Kd.R_alloc | apply Kd.R_drewN | apply Kd.R_drew)); exact HO218.out))) (below_size (kw HB.out))); have n3_ := ka (blk_below (g := gb201) (kz BK201.out) hb); have n4_ := ka (blk_below (g := gb202) (kz BK202.out) hb); have n5_ := ka (blk_below (g := gb203) (kz BK203.out) hb); have n6_ := ka (below_step (kw HB.out) hb); clear HO_5; clear HO218; clear BK201; clear BK202; clear BK203; clear HB; have HO_5 := n0_; have HO218 := n1_; have HO221 := n2_; have BK201 := n3_; have BK202 := n4_; have BK203 := n5_; have HB := n6_; clear n0_ n1_ n2_ n3_ n4_ n5_ n6_; (try clear hb); (try clear hb2); (try clear hk); (try clear hi); (try clear ho0)))
          repeat (go_quiet (first | ((with_reducible refine gate_builtin (b := .append) (xs := #[.tmp 47, .tmp 49]) rfl ?_); at_builtin; refine Kd.R_append (Kd.int .u64) (w0 := w) w.heap.size rfl (.tmp 47) (.tmp 49) 35 46 (.int .u64 0) 8 rfl Try.underlying35 info46 rfl (by decide) (by omega) u7 x7_2 x8_2 [.int .u64 x8_2] (fun k_ => (w.heap.size ≤ k_) ∧ some k_ ≠ (u5 : Value).ownBlock) (fun _ => False) rfl rfl ?aP (fun _ hk => hk.elim) ?aF ?aO ?aB ?aS ?aL ?_; (case aP => exact rfl); (case aB => exact (kw HB.out)); (case aF => exact (fun k_ hk => ⟨(Nat.le_trans (below_size (kw HB.out)) hk), Kd.fresh' (Kd.R_lt (by (with_reducible repeat (first | apply Kd.R_alloc | apply Kd.R_drewN | apply Kd.R_drew)); exact HO_5.out)) k_ hk⟩)); (case aO => exact (by (with_reducible repeat (first | apply Kd.R_alloc | apply Kd.R_drewN | apply Kd.R_drew)); exact HO_7.out)); (case aS => exact (below_size (kw HB.out))); (case aL => have := LMc25.out; omega); intro v217 w30 ho hb hg hat; rw [← Ny216.out] at ho; have n0_ := ka (Kd.R_after (ok := (fun k_ => (w.heap.size ≤ k_))) (by (with_reducible repeat (first | apply Kd.R_alloc | apply Kd.R_drewN | apply Kd.R_drew)); exact HO_5.out) hg hat); have n1_ := ka (blk_grown (g := gb201) (kz BK201.out) hg (Kd.R_ne HO_7.out BK201.out (by decide))); have n2_ := ka (blk_grown (g := gb202) (kz BK202.out) hg (Kd.R_ne HO_7.out BK202.out (by decide))); have n3_ := ka (blk_grown (g := gb203) (kz BK203.out) hg (Kd.R_ne HO_7.out BK203.out (by decide))); have n4_ := ka (hb); have n5_ := ka (ho); clear HO_5; clear BK201; clear BK202; clear BK203; clear HB; clear HO_7; have HO_5 := n0_; have BK201 := n1_; have BK202 := n2_; have BK203 := n3_; have HB := n4_; have HO218 := n5_; clear n0_ n1_ n2_ n3_ n4_ n5_; clear ho hb hg hat; obtain ⟨Ao31, co31, eo31⟩ := Kd.R_slice HO_5.out; subst eo31; obtain ⟨Ao32, co32, eo32⟩ := Kd.R_slice HO218.out; subst eo32) | (go_at_call 32; (with_reducible refine (trivetref01_plus.calls k2 _ _ x5_1 _ _ y216 t219 _ ?side1 ?side2 ?side3 ?side4 A26.out).mono ?_); (case side1 => repeat (first | exact (Kd.R_reads' HO_5.out).2.2 | (with_reducible refine Kd.C_alloc ?_ _) | (with_reducible refine Kd.C_drewN ?_ _) | (with_reducible refine Kd.C_drew ?_))); (case side2 => exact (Kd.R_reads' HO_5.out).2.1); (case side3 => repeat (first | exact (Kd.R_reads' HO218.out).2.2 | (with_reducible refine Kd.C_alloc ?_ _) | (with_reducible refine Kd.C_drewN ?_ _) | (with_reducible refine Kd.C_drew ?_))); (case side4 => exact (Kd.R_reads' HO218.out).2.1); rintro e w33 ⟨v220, rfl, ho0, hb⟩; have n0_ := ka (Kd.R_elder' (by (with_reducible repeat (first | apply Kd.R_alloc | apply Kd.R_drewN | apply Kd.R_drew)); exact HO_5.out) (Kd.R_base ho0) hb); have n1_ := ka (Kd.R_elder' (by (with_reducible repeat (first | apply Kd.R_alloc | apply Kd.R_drewN | apply Kd.R_drew)); exact HO218.out) (Kd.R_base ho0) hb); have n2_ := ka (Kd.R_lower (Kd.R_new' (Kd.R_new' (Kd.R_newM (M := fun k_ => (w.heap.size ≤ k_)) ho0 (below_size (kw HB.out)) (fun k_ h_ => h_)) (Kd.R_lt (by (with_reducible repeat (first | apply Kd.R_alloc | apply Kd.R_drewN | apply Kd.R_drew)); exact HO_5.out))) (Kd.R_lt (by (with_reducible repeat (first | apply Kd.R_alloc | apply Kd.R_drewN | apply Kd.R_drew)); exact HO218.out))) (below_size (kw HB.out))); have n3_ := ka (blk_below (g := gb201) (kz BK201.out) hb); have n4_ := ka (blk_below (g := gb202) (kz BK202.out) hb); have n5_ := ka (blk_below (g := gb203) (kz BK203.out) hb); have n6_ := ka (below_step (kw HB.out) hb); clear HO_5; clear HO218; clear BK201; clear BK202; clear BK203; clear HB; have HO_5 := n0_; have HO218 := n1_; have HO221 := n2_; have BK201 := n3_; have BK202 := n4_; have BK203 := n5_; have HB := n6_; clear n0_ n1_ n2_ n3_ n4_ n5_ n6_; (try clear hb); (try clear hb2); (try clear hk); (try clear hi); (try clear ho0))); try go_wp2_with (first | ((with_reducible refine gate_builtin (b := .append) (xs := #[.tmp 47, .tmp 49]) rfl ?_); at_builtin; refine Kd.R_append (Kd.int .u64) (w0 := w) w.heap.size rfl (.tmp 47) (.tmp 49) 35 46 (.int .u64 0) 8 rfl Try.underlying35 info46 rfl (by decide) (by omega) u7 x7_2 x8_2 [.int .u64 x8_2] (fun k_ => (w.heap.size ≤ k_) ∧ some k_ ≠ (u5 : Value).ownBlock) (fun _ => False) rfl rfl ?aP (fun _ hk => hk.elim) ?aF ?aO ?aB ?aS ?aL ?_; (case aP => exact rfl); (case aB => exact (kw HB.out)); (case aF => exact (fun k_ hk => ⟨(Nat.le_trans (below_size (kw HB.out)) hk), Kd.fresh' (Kd.R_lt (by (with_reducible repeat (first | apply Kd.R_alloc | apply Kd.R_drewN | apply Kd.R_drew)); exact HO_5.out)) k_ hk⟩)); (case aO => exact (by (with_reducible repeat (first | apply Kd.R_alloc | apply Kd.R_drewN | apply Kd.R_drew)); exact HO_7.out)); (case aS => exact (below_size (kw HB.out))); (case aL => have := LMc25.out; omega); intro v217 w30 ho hb hg hat; rw [← Ny216.out] at ho; have n0_ := ka (Kd.R_after (ok := (fun k_ => (w.heap.size ≤ k_))) (by (with_reducible repeat (first | apply Kd.R_alloc | apply Kd.R_drewN | apply Kd.R_drew)); exact HO_5.out) hg hat); have n1_ := ka (blk_grown (g := gb201) (kz BK201.out) hg (Kd.R_ne HO_7.out BK201.out (by decide))); have n2_ := ka (blk_grown (g := gb202) (kz BK202.out) hg (Kd.R_ne HO_7.out BK202.out (by decide))); have n3_ := ka (blk_grown (g := gb203) (kz BK203.out) hg (Kd.R_ne HO_7.out BK203.out (by decide))); have n4_ := ka (hb); have n5_ := ka (ho); clear HO_5; clear BK201; clear BK202; clear BK203; clear HB; clear HO_7; have HO_5 := n0_; have BK201 := n1_; have BK202 := n2_; have BK203 := n3_; have HB := n4_; have HO218 := n5_; clear n0_ n1_ n2_ n3_ n4_ n5_; clear ho hb hg hat; obtain ⟨Ao31, co31, eo31⟩ := Kd.R_slice HO_5.out; subst eo31; obtain ⟨Ao32, co32, eo32⟩ := Kd.R_slice HO218.out; subst eo32) | (go_at_call 32; (with_reducible refine (trivetref01_plus.calls k2 _ _ x5_1 _ _ y216 t219 _ ?side1 ?side2 ?side3 ?side4 A26.out).mono ?_); (case side1 => repeat (first | exact (Kd.R_reads' HO_5.out).2.2 | (with_reducible refine Kd.C_alloc ?_ _) | (with_reducible refine Kd.C_drewN ?_ _) | (with_reducible refine Kd.C_drew ?_))); (case side2 => exact (Kd.R_reads' HO_5.out).2.1); (case side3 => repeat (first | exact (Kd.R_reads' HO218.out).2.2 | (with_reducible refine Kd.C_alloc ?_ _) | (with_reducible refine Kd.C_drewN ?_ _) | (with_reducible refine Kd.C_drew ?_))); (case side4 => exact (Kd.R_reads' HO218.out).2.1); rintro e w33 ⟨v220, rfl, ho0, hb⟩; have n0_ := ka (Kd.R_elder' (by (with_reducible repeat (first | apply Kd.R_alloc | apply Kd.R_drewN | apply Kd.R_drew)); exact HO_5.out) (Kd.R_base ho0) hb); have n1_ := ka (Kd.R_elder' (by (with_reducible repeat (first | apply Kd.R_alloc | apply Kd.R_drewN | apply Kd.R_drew)); exact HO218.out) (Kd.R_base ho0) hb); have n2_ := ka (Kd.R_lower (Kd.R_new' (Kd.R_new' (Kd.R_newM (M := fun k_ => (w.heap.size ≤ k_)) ho0 (below_size (kw HB.out)) (fun k_ h_ => h_)) (Kd.R_lt (by (with_reducible repeat (first | apply Kd.R_alloc | apply Kd.R_drewN | apply Kd.R_drew)); exact HO_5.out))) (Kd.R_lt (by (with_reducible repeat (first | apply Kd.R_alloc | apply Kd.R_drewN | apply Kd.R_drew)); exact HO218.out))) (below_size (kw HB.out))); have n3_ := ka (blk_below (g := gb201) (kz BK201.out) hb); have n4_ := ka (blk_below (g := gb202) (kz BK202.out) hb); have n5_ := ka (blk_below (g := gb203) (kz BK203.out) hb); have n6_ := ka (below_step (kw HB.out) hb); clear HO_5; clear HO218; clear BK201; clear BK202; clear BK203; clear HB; have HO_5 := n0_; have HO218 := n1_; have HO221 := n2_; have BK201 := n3_; have BK202 := n4_; have BK203 := n5_; have HB := n6_; clear n0_ n1_ n2_ n3_ n4_ n5_ n6_; (try clear hb); (try clear hb2); (try clear hk); (try clear hi); (try clear ho0))))
          go_roundg k2
          case measure => have := HK1.out; have := HK2.out; omega
          case rel => exact ⟨(t219), (wrap64 (x6_1 + 1)), (by first | rfl | (simp; done) | (simp [*]; done)), H', ⟨by have := HK1.out; have := HK2.out; omega⟩, ⟨by (with_reducible repeat (first | apply Kd.R_alloc | apply Kd.R_drewN | apply Kd.R_drew)); exact Kd.R_mono HO221.out (fun _ hk => hk.1.1.1)⟩, ⟨by (with_reducible repeat (first | apply kb1 | apply kb2 | apply kb3)); exact BK201.out⟩, ⟨by (with_reducible repeat (first | apply kb1 | apply kb2 | apply kb3)); exact BK202.out⟩, ⟨by (with_reducible repeat (first | apply kb1 | apply kb2 | apply kb3)); exact BK203.out⟩, ⟨by repeat (first | (with_reducible first | exact HB.out | apply kc1 | apply kc2 | apply kc3 | refine kc4 ?_ GE201.out | refine kc4 ?_ GE202.out | refine kc4 ?_ GE203.out) | exact HB.out)⟩⟩
         ·rw [if_neg c25] at H
          exact absurd H (by simp)
     ·rw [if_neg c8] at H
      exact absurd H (by simp)
    ·rw [if_neg c7] at H
     exact absurd H (by simp)
   ·rw [if_neg c6] at H
    have c6b0 : decide (x6_1 < (l0_0.length : Int)) = false := decide_eq_false c6
    clear c6
    replace H := Option.bind_eq_some_iff.mp H
    obtain ⟨⟨t204, t207⟩, A340, H⟩ := H
    replace H : (some (t204, t207)) = some (r1, r2) := H
    have A34 := ka A340
    clear A340
    simp only [Option.some.injEq, Prod.mk.injEq] at H
    obtain ⟨rfl, rfl⟩ := H
    have hnb35 := NB201_202.out
    have hnc35 := NB202_201.out
    have hnb36 := NB201_203.out
    have hnc36 := NB203_201.out
    have hcz37 := blkAll2 BK201.out
    have hnb38 := NB202_203.out
    have hnc38 := NB203_202.out
    have hcz39 := blkAll2 BK202.out
    obtain ⟨Ao40, co40, eo40⟩ := Kd.R_slice HO_5.out
    subst eo40
    go_wp2_with (first | (go_at_call 31; (with_reducible refine (trivetref01_norm.calls k1 (fun k_ => some k_ = (.slice Ao40 x5_1.length co40 : Value).ownBlock) _ _ x5_1 (!(a0_1 == a1_1)) t204 t207 _ ?side1 A34.out).mono ?_); (case side1 => exact Kd.R_V (Kd.R_tight rfl (Kd.R_types (Kd.R_types (Kd.R_types (HO_5.out) BK201.out (by decide)) BK202.out (by decide)) BK203.out (by decide)))); rintro e w41 ⟨v205, rfl, ho0, hb⟩; have n0_ := ka (Kd.R_below (by (with_reducible repeat (first | apply Kd.R_alloc | apply Kd.R_drewN | apply Kd.R_drew)); exact HO_5.out) hb); have n1_ := ka (Kd.V_lower (Kd.V_mono (ok' := fun k_ => (w.heap.size ≤ k_) ∧ k_ ≠ gb201 ∧ k_ ≠ gb202 ∧ k_ ≠ gb203) ho0 (fun k_ hk_ => ⟨Or.elim hk_ (fun hs_ => ((Kd.R_types (Kd.R_types (Kd.R_types (HO_5.out) BK201.out (by decide)) BK202.out (by decide)) BK203.out (by decide)).1 k_ hs_.symm).1.1.1) (fun hn_ => (Nat.le_trans (below_size (kw HB.out)) hn_)), Or.elim hk_ (fun hs_ => ((Kd.R_types (Kd.R_types (Kd.R_types (HO_5.out) BK201.out (by decide)) BK202.out (by decide)) BK203.out (by decide)).1 k_ hs_.symm).1.1.2) (fun hn_ => (Kd.freshB (g := gb201) (kz BK201.out) k_ hn_)), Or.elim hk_ (fun hs_ => ((Kd.R_types (Kd.R_types (Kd.R_types (HO_5.out) BK201.out (by decide)) BK202.out (by decide)) BK203.out (by decide)).1 k_ hs_.symm).1.2) (fun hn_ => (Kd.freshB (g := gb202) (kz BK202.out) k_ hn_)), Or.elim hk_ (fun hs_ => ((Kd.R_types (Kd.R_types (Kd.R_types (HO_5.out) BK201.out (by decide)) BK202.out (by decide)) BK203.out (by decide)).1 k_ hs_.symm).2) (fun hn_ => (Kd.freshB (g := gb203) (kz BK203.out) k_ hn_))⟩)) (below_size (kw HB.out))); have n2_ := ka (blk_below (g := gb201) (kz BK201.out) hb); have n3_ := ka (blk_below (g := gb202) (kz BK202.out) hb); have n4_ := ka (blk_below (g := gb203) (kz BK203.out) hb); have n5_ := ka (below_step (kw HB.out) hb); clear HO_5; clear BK201; clear BK202; clear BK203; clear HB; have HO_5 := n0_; have HO206 := n1_; have BK201 := n2_; have BK202 := n3_; have BK203 := n4_; have HB := n5_; clear n0_ n1_ n2_ n3_ n4_ n5_; (try clear hb); (try clear hb2); (try clear hk); (try clear hi); (try clear ho0); obtain ⟨Ao42, co42, eo42⟩ := Kd.V_slice HO206.out; subst eo42; have hcz43 := blkAll2 BK203.out))
    repeat (go_quiet (first | (go_at_call 31; (with_reducible refine (trivetref01_norm.calls k1 (fun k_ => some k_ = (.slice Ao40 x5_1.length co40 : Value).ownBlock) _ _ x5_1 (!(a0_1 == a1_1)) t204 t207 _ ?side1 A34.out).mono ?_); (case side1 => exact Kd.R_V (Kd.R_tight rfl (Kd.R_types (Kd.R_types (Kd.R_types (HO_5.out) BK201.out (by decide)) BK202.out (by decide)) BK203.out (by decide)))); rintro e w41 ⟨v205, rfl, ho0, hb⟩; have n0_ := ka (Kd.R_below (by (with_reducible repeat (first | apply Kd.R_alloc | apply Kd.R_drewN | apply Kd.R_drew)); exact HO_5.out) hb); have n1_ := ka (Kd.V_lower (Kd.V_mono (ok' := fun k_ => (w.heap.size ≤ k_) ∧ k_ ≠ gb201 ∧ k_ ≠ gb202 ∧ k_ ≠ gb203) ho0 (fun k_ hk_ => ⟨Or.elim hk_ (fun hs_ => ((Kd.R_types (Kd.R_types (Kd.R_types (HO_5.out) BK201.out (by decide)) BK202.out (by decide)) BK203.out (by decide)).1 k_ hs_.symm).1.1.1) (fun hn_ => (Nat.le_trans (below_size (kw HB.out)) hn_)), Or.elim hk_ (fun hs_ => ((Kd.R_types (Kd.R_types (Kd.R_types (HO_5.out) BK201.out (by decide)) BK202.out (by decide)) BK203.out (by decide)).1 k_ hs_.symm).1.1.2) (fun hn_ => (Kd.freshB (g := gb201) (kz BK201.out) k_ hn_)), Or.elim hk_ (fun hs_ => ((Kd.R_types (Kd.R_types (Kd.R_types (HO_5.out) BK201.out (by decide)) BK202.out (by decide)) BK203.out (by decide)).1 k_ hs_.symm).1.2) (fun hn_ => (Kd.freshB (g := gb202) (kz BK202.out) k_ hn_)), Or.elim hk_ (fun hs_ => ((Kd.R_types (Kd.R_types (Kd.R_types (HO_5.out) BK201.out (by decide)) BK202.out (by decide)) BK203.out (by decide)).1 k_ hs_.symm).2) (fun hn_ => (Kd.freshB (g := gb203) (kz BK203.out) k_ hn_))⟩)) (below_size (kw HB.out))); have n2_ := ka (blk_below (g := gb201) (kz BK201.out) hb); have n3_ := ka (blk_below (g := gb202) (kz BK202.out) hb); have n4_ := ka (blk_below (g := gb203) (kz BK203.out) hb); have n5_ := ka (below_step (kw HB.out) hb); clear HO_5; clear BK201; clear BK202; clear BK203; clear HB; have HO_5 := n0_; have HO206 := n1_; have BK201 := n2_; have BK202 := n3_; have BK203 := n4_; have HB := n5_; clear n0_ n1_ n2_ n3_ n4_ n5_; (try clear hb); (try clear hb2); (try clear hk); (try clear hi); (try clear ho0); obtain ⟨Ao42, co42, eo42⟩ := Kd.V_slice HO206.out; subst eo42; have hcz43 := blkAll2 BK203.out)); try go_wp2_with (first | (go_at_call 31; (with_reducible refine (trivetref01_norm.calls k1 (fun k_ => some k_ = (.slice Ao40 x5_1.length co40 : Value).ownBlock) _ _ x5_1 (!(a0_1 == a1_1)) t204 t207 _ ?side1 A34.out).mono ?_); (case side1 => exact Kd.R_V (Kd.R_tight rfl (Kd.R_types (Kd.R_types (Kd.R_types (HO_5.out) BK201.out (by decide)) BK202.out (by decide)) BK203.out (by decide)))); rintro e w41 ⟨v205, rfl, ho0, hb⟩; have n0_ := ka (Kd.R_below (by (with_reducible repeat (first | apply Kd.R_alloc | apply Kd.R_drewN | apply Kd.R_drew)); exact HO_5.out) hb); have n1_ := ka (Kd.V_lower (Kd.V_mono (ok' := fun k_ => (w.heap.size ≤ k_) ∧ k_ ≠ gb201 ∧ k_ ≠ gb202 ∧ k_ ≠ gb203) ho0 (fun k_ hk_ => ⟨Or.elim hk_ (fun hs_ => ((Kd.R_types (Kd.R_types (Kd.R_types (HO_5.out) BK201.out (by decide)) BK202.out (by decide)) BK203.out (by decide)).1 k_ hs_.symm).1.1.1) (fun hn_ => (Nat.le_trans (below_size (kw HB.out)) hn_)), Or.elim hk_ (fun hs_ => ((Kd.R_types (Kd.R_types (Kd.R_types (HO_5.out) BK201.out (by decide)) BK202.out (by decide)) BK203.out (by decide)).1 k_ hs_.symm).1.1.2) (fun hn_ => (Kd.freshB (g := gb201) (kz BK201.out) k_ hn_)), Or.elim hk_ (fun hs_ => ((Kd.R_types (Kd.R_types (Kd.R_types (HO_5.out) BK201.out (by decide)) BK202.out (by decide)) BK203.out (by decide)).1 k_ hs_.symm).1.2) (fun hn_ => (Kd.freshB (g := gb202) (kz BK202.out) k_ hn_)), Or.elim hk_ (fun hs_ => ((Kd.R_types (Kd.R_types (Kd.R_types (HO_5.out) BK201.out (by decide)) BK202.out (by decide)) BK203.out (by decide)).1 k_ hs_.symm).2) (fun hn_ => (Kd.freshB (g := gb203) (kz BK203.out) k_ hn_))⟩)) (below_size (kw HB.out))); have n2_ := ka (blk_below (g := gb201) (kz BK201.out) hb); have n3_ := ka (blk_below (g := gb202) (kz BK202.out) hb); have n4_ := ka (blk_below (g := gb203) (kz BK203.out) hb); have n5_ := ka (below_step (kw HB.out) hb); clear HO_5; clear BK201; clear BK202; clear BK203; clear HB; have HO_5 := n0_; have HO206 := n1_; have BK201 := n2_; have BK202 := n3_; have BK203 := n4_; have HB := n5_; clear n0_ n1_ n2_ n3_ n4_ n5_; (try clear hb); (try clear hb2); (try clear hk); (try clear hi); (try clear ho0); obtain ⟨Ao42, co42, eo42⟩ := Kd.V_slice HO206.out; subst eo42; have hcz43 := blkAll2 BK203.out)))
    refine bodyPost_ret (results_cell_row rfl _ _ gb203 37 #[.slice Ao42 t204.length co42, .bool t207] (0, 0) _ rfl (by (with_reducible repeat (first | apply kb1 | apply kb2 | apply kb3 | apply blkPut2_1 | apply blkPut2_0)); exact BK203.out) Try.underlying37 rfl (by kernel_rfl)) rfl ?_
    exact ⟨_, by first | rfl | (simp [errW_none, errW_some] <;> rfl) | (simp [*, errW_none, errW_some] <;> rfl), by (with_reducible repeat (first | apply Kd.V_alloc | apply Kd.V_drewN | apply Kd.V_drew)); exact Kd.V_mono (Kd.V_far (p := ⟨gb203, 1, none⟩) (Kd.V_far (p := ⟨gb203, 0, none⟩) (Kd.V_mono HO206.out (fun k_ hk => (⟨hk, hk.2.2.2⟩ : _ ∧ k_ ≠ gb203))) (fun _ hk => hk.2) (.slice Ao42 t204.length co42)) (fun _ hk => hk.2) (.bool t207)) (fun _ hk => hk.1.1), by repeat (first | (with_reducible first | exact HB.out | apply kc1 | apply kc2 | apply kc3 | refine kc4 ?_ GE201.out | refine kc4 ?_ GE202.out | refine kc4 ?_ GE203.out) | exact HB.out)⟩

/-! ### trivetref01_Mul: function 22, its laws -/
theorem trivetref01_Mul.row (n : Nat) : ∀ (k : Nat) (a b out row : List Int) (c : Int) (i j : Nat) (am bm : Bool), U.Dg a → U.Dg b → U.Dg row → 0 ≤ c ∧ c < 65536 → i < a.length → a.length ≤ 1000 → b.length = j + n → b.length ≤ 1000 → row.length = i + j →
  ∃ row', trivetref01_Mul.l1 (k + n + 1) out i row c j a am b bm = (trivetref01_plus.f k out row').bind (fun t => trivetref01_Mul.l0 k t ((i + 1 : Nat) : Int) a am b bm) ∧ U.Dg row' ∧ U.val row' = U.val row + 65536 ^ (i + j) * (c + a.getD i 0 * U.val (b.drop j)) ∧ row'.length = i + b.length + 1 := by
 induction n with
 | zero =>
  intro k a b out row c i j am bm ha hb hr hc hi la lb lb2 hl
  refine ⟨row ++ [c], ?_, hr.add (U.Dg.one hc), ?_, by simp; omega⟩
  ·rw [Nat.add_zero]
   simp only [trivetref01_Mul.l1]
   rw [if_neg (by omega), if_pos (by omega), M.w64_id (n := (i : Int) + 1) (by omega) (by omega)]
   rfl
  ·rw [U.val_append, U.val_one, hl, List.drop_eq_nil_of_le (by omega)]
   simp [U.val]
 | succ n ih =>
  intro k a b out row c i j am bm ha hb hr hc hi la lb lb2 hl
  have ga := ha.get i
  have gb := hb.get j
  have hp0 : 0 ≤ a.getD i 0 * b.getD j 0 := Int.mul_nonneg ga.1 gb.1
  have hp1 : a.getD i 0 * b.getD j 0 ≤ 65535 * 65535 := Int.mul_le_mul (by omega) (by omega) gb.1 (by decide)
  have ih' := fun q r => ih k a b out (row ++ [r]) q i (j + 1) am bm ha hb
  have e : trivetref01_Mul.l1 (k + (n + 1) + 1) out i row c j a am b bm = trivetref01_Mul.l1 (k + n + 1) out i (row ++ [(a.getD i 0 * b.getD j 0 + c) % 65536]) ((a.getD i 0 * b.getD j 0 + c) / 65536) ((j + 1 : Nat) : Int) a am b bm := by
   have ra : rd a (i : Int) = a.getD i 0 := rfl
   have rb : rd b (j : Int) = b.getD j 0 := rfl
   rw [show k + (n + 1) + 1 = (k + n + 1) + 1 by omega]
   conv => lhs; simp only [trivetref01_Mul.l1]
   rw [if_pos (by omega), if_pos (by omega), if_pos (by omega), if_pos (by omega), if_pos (by omega), ra, rb]
   generalize a.getD i 0 * b.getD j 0 = p at *
   rw [M.wrapu_id (n := p) (by omega) (by omega), M.wrapu_id (n := p + c) (by omega) (by omega), M.tdivu (show 0 ≤ p + c by omega), M.tmodu (show 0 ≤ p + c by omega), M.wrapu_id (n := (p + c) / 65536) (by omega) (by omega), M.w64_id (n := (j : Int) + 1) (by omega) (by omega)]
   rfl
  obtain ⟨row', r1, r2, r3, r4⟩ := ih' ((a.getD i 0 * b.getD j 0 + c) / 65536) ((a.getD i 0 * b.getD j 0 + c) % 65536) (hr.add (U.Dg.one (by omega))) (by omega) hi la (by omega) lb2 (by simp; omega)
  refine ⟨row', by rw [e, r1], r2, ?_, r4⟩
  rw [r3, U.val_append, U.val_one, hl, show i + (j + 1) = (i + j) + 1 by omega, U.pow_succ, U.drop_step b j, Int.mul_add (a.getD i 0)]
  generalize a.getD i 0 * b.getD j 0 = p at *
  have hm : a.getD i 0 * (65536 * U.val (b.drop (j + 1))) = 65536 * (a.getD i 0 * U.val (b.drop (j + 1))) := by rw [← Int.mul_assoc, Int.mul_comm _ 65536, Int.mul_assoc]
  rw [hm]
  generalize a.getD i 0 * U.val (b.drop (j + 1)) = u
  have : c + (p + 65536 * u) = (p + c) % 65536 + 65536 * ((p + c) / 65536 + u) := by omega
  rw [this]
  generalize (p + c) % 65536 = r
  generalize (p + c) / 65536 + u = s
  generalize (65536 : Int) ^ (i + j) = z
  rw [Int.mul_add, Int.mul_comm 65536 z, Int.mul_assoc, Int.add_assoc]
theorem trivetref01_Mul.loop (n : Nat) : ∀ (k : Nat) (a b out : List Int) (i : Nat) (am bm : Bool), U.Dg a → U.Dg b → U.Dg out → a.length = i + n → a.length ≤ 100 → b.length ≤ 100 → out.length ≤ i + b.length + 1 → n * 110 + 2000 ≤ k →
  ∃ d, trivetref01_Mul.l0 k out i a am b bm = trivetref01_norm.f (k - 1 - n * (b.length + 2)) d (!(am == bm)) ∧ U.Dg d ∧ U.val d = U.val out + 65536 ^ i * (U.val (a.drop i) * U.val b) ∧ d.length ≤ a.length + b.length + 1 := by
 induction n with
 | zero =>
  intro k a b out i am bm ha hb ho la la2 lb lo hk
  obtain ⟨j, rfl⟩ : ∃ j, k = j + 1 := ⟨k - 1, by omega⟩
  refine ⟨out, ?_, ho, ?_, by omega⟩
  ·simp only [trivetref01_Mul.l0]
   rw [if_neg (by omega), show j + 1 - 1 - 0 * (b.length + 2) = j by omega]
   cases trivetref01_norm.f j out (!(am == bm)) <;> rfl
  ·rw [List.drop_eq_nil_of_le (by omega)]; simp [U.val]
 | succ n ih =>
  intro k a b out i am bm ha hb ho la la2 lb lo hk
  obtain ⟨j, rfl⟩ : ∃ j, k = (j + b.length + 1) + 1 := ⟨k - b.length - 2, by omega⟩
  obtain ⟨row, r1, r2, r3, r4⟩ := trivetref01_Mul.row b.length j a b out (List.replicate i 0) 0 i 0 am bm ha hb (U.Dg.zeros i) (by decide) (by omega) (by omega) (by omega) (by omega) (by simp)
  obtain ⟨t, t1, t2, t3, t4⟩ := trivetref01_plus.num j out row ho r2 (by omega) (by omega) (by omega)
  obtain ⟨d, d1, d2, d3, d4⟩ := ih j a b t (i + 1) am bm ha hb t2 (by omega) la2 lb (by omega) (by omega)
  have r1' : trivetref01_Mul.l1 (j + b.length + 1) out i (List.replicate i 0) 0 0 a am b bm = _ := r1
  refine ⟨d, ?_, d2, ?_, d4⟩
  ·conv => lhs; simp only [trivetref01_Mul.l0]
   rw [if_pos (by omega), if_pos (by omega), if_pos (by omega), show ((i : Int)).toNat = i from rfl, r1', t1, Option.bind_some, d1]
   congr 1
   rw [Nat.add_mul]
   omega
  ·rw [d3, t3, r3, U.val_zeros, U.drop_step a i, U.pow_succ]
   simp only [Nat.add_zero, Int.zero_add, List.drop_zero]
   generalize a.getD i 0 = x
   generalize U.val (a.drop (i + 1)) = u
   generalize U.val b = v
   generalize (65536 : Int) ^ i = p
   rw [Int.add_mul, Int.mul_add, Int.add_assoc, Int.mul_comm 65536 p, Int.mul_assoc p 65536, Int.mul_assoc 65536 u]
theorem trivetref01_Mul.num (k : Nat) (x y : Int) (hx : M.abs x < 65536 ^ 32) (hy : M.abs y < 65536 ^ 32) (hk : 6000 ≤ k) : trivetref01_Mul.f k (U.num x).1 (U.num x).2 (U.num y).1 (U.num y).2 = some (U.num (x * y)) := by
 have lx := U.len_dig 32 _ hx
 have ly := U.len_dig 32 _ hy
 have x0 := U.abs_nonneg x
 have y0 := U.abs_nonneg y
 have vx := U.val_dig x0
 have vy := U.val_dig y0
 have hmul : (U.dig (M.abs x)).length * ((U.dig (M.abs y)).length + 2) ≤ 32 * 34 := Nat.mul_le_mul lx (by omega)
 obtain ⟨d, d1, d2, d3, d4⟩ := trivetref01_Mul.loop (U.dig (M.abs x)).length k (U.dig (M.abs x)) (U.dig (M.abs y)) [] 0 (decide (x < 0)) (decide (y < 0)) (U.dig_dg _) (U.dig_dg _) U.Dg.nil (by omega) (by omega) (by omega) (by simp) (by omega)
 have d1' : trivetref01_Mul.l0 k [] 0 (U.dig (M.abs x)) (decide (x < 0)) (U.dig (M.abs y)) (decide (y < 0)) = _ := d1
 show trivetref01_Mul.f k (U.dig (M.abs x)) (decide (x < 0)) (U.dig (M.abs y)) (decide (y < 0)) = _
 unfold trivetref01_Mul.f
 rw [d1', trivetref01_norm.num _ d _ (x * y) d2 (by omega) (by omega)]
 ·rw [d3, List.drop_zero, vx, vy]
  unfold M.abs
  by_cases c : x < 0 <;> by_cases c2 : y < 0 <;> simp [c, c2, U.val, Int.neg_mul, Int.mul_neg]

end Go.Proofs.Ytdddiahgkpfikaa.P
