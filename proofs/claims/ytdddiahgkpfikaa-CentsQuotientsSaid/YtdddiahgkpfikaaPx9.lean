-- Written by a program of this session out of the translation of the seat: Lean functions and the proofs that the Go functions come to them.
import Derived.Test.YtdddiahgkpfikaaPx0
import Derived.Test.YtdddiahgkpfikaaPx3
import Derived.Test.YtdddiahgkpfikaaPx4
import Derived.Test.YtdddiahgkpfikaaPx6
import Derived.Test.YtdddiahgkpfikaaPx7
namespace Go.Proofs.Ytdddiahgkpfikaa.P
open Go.RowKit Go.Proofs.YtdddiahgkpfikaaW.PrintWords Go.Proofs.YtdddiahgkpfikaaW.PrintLast Go.Proofs.YtdddiahgkpfikaaW.PrintMore
attribute [local go_sem] max2_int min2_int max_two min_two max_three min_three max_four min_four   -- for this text's walks alone
set_option linter.unusedVariables false
set_option linter.unusedSimpArgs false

/-! ### trivetref01_floor: function 37 -/
mutual
def trivetref01_floor.l0 : Nat → List Int → Int → List Int → Bool → List Int → Bool → List Int → Bool → List Int → Bool → Option (List Int × Bool)
 | 0, _, _, _, _, _, _, _, _, _, _ => none
 | k + 1, x5, x8, x527000, x527001, x528000, x528001, x530000, x530001, x535000, x535001 => if x8 ≥ 0 then ((trivetref01_Mul.f k x530000 x530001 x535000 x535001).bind fun bt535 => (if 0 ≤ (wrap64 (Int.tdiv x8 16)) then (if (wrap64 (Int.tdiv x8 16)) < (x527000.length : Int) then (if 0 ≤ (Int.tmod x8 16) then (if (Go.bits .and .u64 (shr .u64 (rd x527000 (wrap64 (Int.tdiv x8 16))) (Int.tmod x8 16)) 1) = 1 then ((trivetref01_Of.f k 1).bind fun bt540 => ((trivetref01_Add.f k bt535.1 bt535.2 bt540.1 bt540.2).bind fun bt544 => (trivetref01_floor.j1 k x5 x8 x527000 x527001 x528000 x528001 bt544.1 bt544.2 x535000 x535001))) else (trivetref01_floor.j1 k x5 x8 x527000 x527001 x528000 x528001 bt535.1 bt535.2 x535000 x535001)) else (none)) else (none)) else (none))) else ((trivetref01_norm.f k x5 x527001).bind fun bt570 => (if x527001 = true then (trivetref01_floor.j2 k (decide ((x530000.length : Int) > 0)) bt570.1 bt570.2) else (trivetref01_floor.j2 k false bt570.1 bt570.2)))
def trivetref01_floor.j1 : Nat → List Int → Int → List Int → Bool → List Int → Bool → List Int → Bool → List Int → Bool → Option (List Int × Bool)
 | 0, _, _, _, _, _, _, _, _, _, _ => none
 | k + 1, x5, x8, x527000, x527001, x528000, x528001, x530000, x530001, x535000, x535001 => (trivetref01_plus.f k x5 x5).bind fun t548 => ((trivetref01_norm.f k t548 false).bind fun bt551 => ((trivetref01_Cmp.f k x530000 x530001 x528000 x528001).bind fun t555 => (if t555 ≥ 0 then ((trivetref01_Neg.f k x528000 x528001).bind fun bt556 => ((trivetref01_Add.f k x530000 x530001 bt556.1 bt556.2).bind fun bt560 => ((trivetref01_plus.f k bt551.1 (([1] : List Int))).bind fun t567 => (trivetref01_floor.l0 k t567 (wrap64 (x8 - 1)) x527000 x527001 x528000 x528001 bt560.1 bt560.2 x535000 x535001)))) else (trivetref01_floor.l0 k bt551.1 (wrap64 (x8 - 1)) x527000 x527001 x528000 x528001 x530000 x530001 x535000 x535001))))
def trivetref01_floor.j2 : Nat → Bool → List Int → Bool → Option (List Int × Bool)
 | 0, _, _, _ => none
 | k + 1, x65, x575000, x575001 => if x65 = true then ((trivetref01_Of.f k (-1)).bind fun bt575 => ((trivetref01_Add.f k x575000 x575001 bt575.1 bt575.2).bind fun bt579 => (some (bt579.1, bt579.2)))) else (some (x575000, x575001))
end
def trivetref01_floor.f (k : Nat) (l0_0 : List Int) (a0_1 : Bool) (l1_0 : List Int) (a1_1 : Bool) : Option (List Int × Bool) := (trivetref01_Of.f k 2).bind fun bt530 => (trivetref01_floor.l0 k ([] : List Int) (wrap64 ((wrap64 ((l0_0.length : Int) * 16)) - 1)) l0_0 a0_1 l1_0 a1_1 ([] : List Int) false bt530.1 bt530.2)
theorem trivetref01_floor.mono_l : ∀ k, (∀ y0 y1 y2 y3 y4 y5 y6 y7 y8 y9, LeO (trivetref01_floor.l0 k y0 y1 y2 y3 y4 y5 y6 y7 y8 y9) (trivetref01_floor.l0 (k + 1) y0 y1 y2 y3 y4 y5 y6 y7 y8 y9)) ∧ (∀ y0 y1 y2 y3 y4 y5 y6 y7 y8 y9, LeO (trivetref01_floor.j1 k y0 y1 y2 y3 y4 y5 y6 y7 y8 y9) (trivetref01_floor.j1 (k + 1) y0 y1 y2 y3 y4 y5 y6 y7 y8 y9)) ∧ (∀ y0 y1 y2, LeO (trivetref01_floor.j2 k y0 y1 y2) (trivetref01_floor.j2 (k + 1) y0 y1 y2))
 | 0 => ⟨fun _ _ _ _ _ _ _ _ _ _ r h => by simp [trivetref01_floor.l0] at h, fun _ _ _ _ _ _ _ _ _ _ r h => by simp [trivetref01_floor.j1] at h, fun _ _ _ r h => by simp [trivetref01_floor.j2] at h⟩
 | k + 1 => by
  obtain ⟨ih0, ih1, ih2⟩ := trivetref01_floor.mono_l k
  refine ⟨?_, ?_, ?_⟩
  ·intro y0 y1 y2 y3 y4 y5 y6 y7 y8 y9
   unfold trivetref01_floor.l0
   repeat' first
   | (with_reducible exact ih0 _ _ _ _ _ _ _ _ _ _)
   | (with_reducible exact ih1 _ _ _ _ _ _ _ _ _ _)
   | (with_reducible exact ih2 _ _ _)
   | (with_reducible exact trivetref01_Add.mono _ _ _ _ _)
   | (with_reducible exact trivetref01_Cmp.mono _ _ _ _ _)
   | (with_reducible exact trivetref01_Mul.mono _ _ _ _ _)
   | (with_reducible exact trivetref01_Neg.mono _ _ _)
   | (with_reducible exact trivetref01_Of.mono _ _)
   | (with_reducible exact trivetref01_norm.mono _ _ _)
   | (with_reducible exact trivetref01_plus.mono _ _ _)
   | (with_reducible exact LeO.refl _)
   | (with_reducible exact LeO.none _)
   | (with_reducible refine LeO.ite ?_ ?_)
   | (with_reducible refine LeO.bind ?_ (fun _ => ?_))
   | exact ih0 _ _ _ _ _ _ _ _ _ _
   | exact ih1 _ _ _ _ _ _ _ _ _ _
   | exact ih2 _ _ _
   | exact trivetref01_Add.mono _ _ _ _ _
   | exact trivetref01_Cmp.mono _ _ _ _ _
   | exact trivetref01_Mul.mono _ _ _ _ _
   | exact trivetref01_Neg.mono _ _ _
   | exact trivetref01_Of.mono _ _
   | exact trivetref01_norm.mono _ _ _
   | exact trivetref01_plus.mono _ _ _
   | exact LeO.none _
   | refine LeO.ite ?_ ?_
   | refine LeO.bind ?_ (fun _ => ?_)
  ·intro y0 y1 y2 y3 y4 y5 y6 y7 y8 y9
   unfold trivetref01_floor.j1
   repeat' first
   | (with_reducible exact ih0 _ _ _ _ _ _ _ _ _ _)
   | (with_reducible exact ih1 _ _ _ _ _ _ _ _ _ _)
   | (with_reducible exact ih2 _ _ _)
   | (with_reducible exact trivetref01_Add.mono _ _ _ _ _)
   | (with_reducible exact trivetref01_Cmp.mono _ _ _ _ _)
   | (with_reducible exact trivetref01_Mul.mono _ _ _ _ _)
   | (with_reducible exact trivetref01_Neg.mono _ _ _)
   | (with_reducible exact trivetref01_Of.mono _ _)
   | (with_reducible exact trivetref01_norm.mono _ _ _)
   | (with_reducible exact trivetref01_plus.mono _ _ _)
   | (with_reducible exact LeO.refl _)
   | (with_reducible exact LeO.none _)
   | (with_reducible refine LeO.ite ?_ ?_)
   | (with_reducible refine LeO.bind ?_ (fun _ => ?_))
   | exact ih0 _ _ _ _ _ _ _ _ _ _
   | exact ih1 _ _ _ _ _ _ _ _ _ _
   | exact ih2 _ _ _
   | exact trivetref01_Add.mono _ _ _ _ _
   | exact trivetref01_Cmp.mono _ _ _ _ _
   | exact trivetref01_Mul.mono _ _ _ _ _
   | exact trivetref01_Neg.mono _ _ _
   | exact trivetref01_Of.mono _ _
   | exact trivetref01_norm.mono _ _ _
   | exact trivetref01_plus.mono _ _ _
   | exact LeO.none _
   | refine LeO.ite ?_ ?_
   | refine LeO.bind ?_ (fun _ => ?_)
  ·intro y0 y1 y2
   unfold trivetref01_floor.j2
   repeat' first
   | (with_reducible exact ih0 _ _ _ _ _ _ _ _ _ _)
   | (with_reducible exact ih1 _ _ _ _ _ _ _ _ _ _)
   | (with_reducible exact ih2 _ _ _)
   | (with_reducible exact trivetref01_Add.mono _ _ _ _ _)
   | (with_reducible exact trivetref01_Cmp.mono _ _ _ _ _)
   | (with_reducible exact trivetref01_Mul.mono _ _ _ _ _)
   | (with_reducible exact trivetref01_Neg.mono _ _ _)
   | (with_reducible exact trivetref01_Of.mono _ _)
   | (with_reducible exact trivetref01_norm.mono _ _ _)
   | (with_reducible exact trivetref01_plus.mono _ _ _)
   | (with_reducible exact LeO.refl _)
   | (with_reducible exact LeO.none _)
   | (with_reducible refine LeO.ite ?_ ?_)
   | (with_reducible refine LeO.bind ?_ (fun _ => ?_))
   | exact ih0 _ _ _ _ _ _ _ _ _ _
   | exact ih1 _ _ _ _ _ _ _ _ _ _
   | exact ih2 _ _ _
   | exact trivetref01_Add.mono _ _ _ _ _
   | exact trivetref01_Cmp.mono _ _ _ _ _
   | exact trivetref01_Mul.mono _ _ _ _ _
   | exact trivetref01_Neg.mono _ _ _
   | exact trivetref01_Of.mono _ _
   | exact trivetref01_norm.mono _ _ _
   | exact trivetref01_plus.mono _ _ _
   | exact LeO.none _
   | refine LeO.ite ?_ ?_
   | refine LeO.bind ?_ (fun _ => ?_)
theorem trivetref01_floor.mono : ∀ a0 a1 a2 a3 k, LeO (trivetref01_floor.f k a0 a1 a2 a3) (trivetref01_floor.f (k + 1) a0 a1 a2 a3) := by
 intro a0 a1 a2 a3 k
 obtain ⟨ih0, ih1, ih2⟩ := trivetref01_floor.mono_l k
 unfold trivetref01_floor.f
 repeat' first
   | (with_reducible exact ih0 _ _ _ _ _ _ _ _ _ _)
   | (with_reducible exact ih1 _ _ _ _ _ _ _ _ _ _)
   | (with_reducible exact ih2 _ _ _)
   | (with_reducible exact trivetref01_Add.mono _ _ _ _ _)
   | (with_reducible exact trivetref01_Cmp.mono _ _ _ _ _)
   | (with_reducible exact trivetref01_Mul.mono _ _ _ _ _)
   | (with_reducible exact trivetref01_Neg.mono _ _ _)
   | (with_reducible exact trivetref01_Of.mono _ _)
   | (with_reducible exact trivetref01_norm.mono _ _ _)
   | (with_reducible exact trivetref01_plus.mono _ _ _)
   | (with_reducible exact LeO.refl _)
   | (with_reducible exact LeO.none _)
   | (with_reducible refine LeO.ite ?_ ?_)
   | (with_reducible refine LeO.bind ?_ (fun _ => ?_))
   | exact ih0 _ _ _ _ _ _ _ _ _ _
   | exact ih1 _ _ _ _ _ _ _ _ _ _
   | exact ih2 _ _ _
   | exact trivetref01_Add.mono _ _ _ _ _
   | exact trivetref01_Cmp.mono _ _ _ _ _
   | exact trivetref01_Mul.mono _ _ _ _ _
   | exact trivetref01_Neg.mono _ _ _
   | exact trivetref01_Of.mono _ _
   | exact trivetref01_norm.mono _ _ _
   | exact trivetref01_plus.mono _ _ _
   | exact LeO.none _
   | refine LeO.ite ?_ ?_
   | refine LeO.bind ?_ (fun _ => ?_)
set_option maxHeartbeats 8000000 in
set_option maxRecDepth 100000 in
theorem trivetref01_floor.calls (k : Nat) (A0_0 : Option Addr) (c0_0 : Nat) (l0_0 : List Int) (a0_1 : Bool) (P1_0_ : Nat → Prop) (A1_0 : Option Addr) (c1_0 : Nat) (l1_0 : List Int) (a1_1 : Bool) (r1 : List Int) (r2 : Bool) (w : World) (hr0_0 : Kd.C (Kd.int .u64) w A0_0 l0_0.length l0_0) (hc0_0 : l0_0.length ≤ c0_0) (hs1_0 : Kd.V (Kd.int .u64) 46 w w.heap.size (fun k_ => P1_0_ k_) (.slice A1_0 l1_0.length c1_0) l1_0) (h : trivetref01_floor.f k l0_0 a0_1 l1_0 a1_1 = some (r1, r2)) :
  Calls Try.prog 37 #[.agg #[.slice A0_0 l0_0.length c0_0, .bool a0_1], .agg #[.slice A1_0 l1_0.length c1_0, .bool a1_1]] w fun e w' => ∃ v0_ : Value, e = .returned (.agg #[v0_, .bool r2]) ∧ Kd.V (Kd.int .u64) 46 w' w.heap.size (fun k_ => (P1_0_ k_ ∨ w.heap.size ≤ k_)) v0_ r1 ∧ Below w.heap.size w w' := by
 have hu37 := Try.underlying37
 have HR0_0 := ka hr0_0
 have HC0_0 := ka hc0_0
 clear hr0_0 hc0_0
 have HO1_0 := ka (show Kd.V (Kd.int .u64) 46 w w.heap.size (fun k_ => (P1_0_ k_ ∨ w.heap.size ≤ k_)) (.slice A1_0 l1_0.length c1_0) l1_0 from Kd.V_mono hs1_0 (fun k_ hk => .inl hk))
 have HB := ka (Below.refl w.heap.size w)
 have H : ((trivetref01_Of.f k 2).bind fun bt530 => (trivetref01_floor.l0 k ([] : List Int) (wrap64 ((wrap64 ((l0_0.length : Int) * 16)) - 1)) l0_0 a0_1 l1_0 a1_1 ([] : List Int) false bt530.1 bt530.2)) = some (r1, r2) := h
 clear h
 replace H := Option.bind_eq_some_iff.mp H
 obtain ⟨⟨t530, t533⟩, A30, H⟩ := H
 replace H : (trivetref01_floor.l0 k ([] : List Int) (wrap64 ((wrap64 ((l0_0.length : Int) * 16)) - 1)) l0_0 a0_1 l1_0 a1_1 ([] : List Int) false t530 t533) = some (r1, r2) := H
 have A3 := ka A30
 clear A30
 have H' := ka H
 clear H
 go_enter Try.func37, Try.ntmps37
 go_wp2_with (first | ((with_reducible refine gate_dst (N := 2) rfl ?_); (try (refine gate_guard (by rfl) ?_; dsimp only)); refine kx (N := 2) (cs := #[.slice A0_0 l0_0.length c0_0, .bool a0_1]) (t := 37) ?_; intro gb526 hg w4 hbox hb; have n0_ := ka (Kd.V_below (Kd.V_elderB (kv HO1_0.out) gb526 (Nat.le_of_eq hg.symm)) hb); have n1_ := ka (below_step (kw HB.out) hb); have n2_ := ka (hbox); have n3_ := ka ((by rw [hg]; exact (below_size (kw HB.out)) : w.heap.size ≤ gb526)); have n4_ := n3_; clear HO1_0; clear HB; have HO1_0 := n0_; have HB := n1_; have BK526 := n2_; have GW526 := n3_; have GE526 := n4_; clear n0_ n1_ n2_ n3_ n4_; clear hb hbox hg) | ((with_reducible refine gate_dst (N := 3) rfl ?_); (try (refine gate_guard (by rfl) ?_; dsimp only)); refine kx (N := 3) (cs := #[.slice A1_0 l1_0.length c1_0, .bool a1_1]) (t := 37) ?_; intro gb527 hg w5 hbox hb; have n0_ := ka (Kd.V_below (Kd.V_elderB (kv HO1_0.out) gb527 (Nat.le_of_eq hg.symm)) hb); have n1_ := ka (blk_below (g := gb526) (kz BK526.out) hb); have n2_ := ka (below_step (kw HB.out) hb); have n3_ := ka (hbox); have n4_ := ka ((by rw [hg]; exact (below_size (kw HB.out)) : w.heap.size ≤ gb527)); have n5_ := n4_; have n6_ := ka ((by rw [hg]; exact Nat.ne_of_lt (blk_lt (g := gb526) (kz BK526.out)) : gb526 ≠ gb527)); have n7_ := ka n6_.out.symm; clear HO1_0; clear BK526; clear HB; have HO1_0 := n0_; have BK526 := n1_; have HB := n2_; have BK527 := n3_; have GW527 := n4_; have GE527 := n5_; have NB526_527 := n6_; have NB527_526 := n7_; clear n0_ n1_ n2_ n3_ n4_ n5_ n6_ n7_; clear hb hbox hg) | ((with_reducible refine gate_dst (N := 4) rfl ?_); (try (refine gate_guard (by rfl) ?_; dsimp only)); refine kx (N := 4) (cs := #[.slice none 0 0, .bool false]) (t := 37) ?_; intro gb528 hg w6 hbox hb; have n0_ := ka (Kd.V_below (Kd.V_elderB (kv HO1_0.out) gb528 (Nat.le_of_eq hg.symm)) hb); have n1_ := ka (blk_below (g := gb526) (kz BK526.out) hb); have n2_ := ka (blk_below (g := gb527) (kz BK527.out) hb); have n3_ := ka (below_step (kw HB.out) hb); have n4_ := ka (hbox); have n5_ := ka ((by rw [hg]; exact (below_size (kw HB.out)) : w.heap.size ≤ gb528)); have n6_ := n5_; have n7_ := ka ((by rw [hg]; exact Nat.ne_of_lt (blk_lt (g := gb526) (kz BK526.out)) : gb526 ≠ gb528)); have n8_ := ka n7_.out.symm; have n9_ := ka ((by rw [hg]; exact Nat.ne_of_lt (blk_lt (g := gb527) (kz BK527.out)) : gb527 ≠ gb528)); have n10_ := ka n9_.out.symm; clear HO1_0; clear BK526; clear BK527; clear HB; have HO1_0 := n0_; have BK526 := n1_; have BK527 := n2_; have HB := n3_; have BK528 := n4_; have GW528 := n5_; have GE528 := n6_; have NB526_528 := n7_; have NB528_526 := n8_; have NB527_528 := n9_; have NB528_527 := n10_; clear n0_ n1_ n2_ n3_ n4_ n5_ n6_ n7_ n8_ n9_ n10_; clear hb hbox hg) | ((with_reducible refine gate_dst (N := 6) rfl ?_); (try (refine gate_guard (by rfl) ?_; dsimp only)); refine kx (N := 6) (cs := #[.slice none 0 0, .bool false]) (t := 37) ?_; intro gb529 hg w7 hbox hb; have n0_ := ka (Kd.V_below (Kd.V_elderB (kv HO1_0.out) gb529 (Nat.le_of_eq hg.symm)) hb); have n1_ := ka (blk_below (g := gb526) (kz BK526.out) hb); have n2_ := ka (blk_below (g := gb527) (kz BK527.out) hb); have n3_ := ka (blk_below (g := gb528) (kz BK528.out) hb); have n4_ := ka (below_step (kw HB.out) hb); have n5_ := ka (hbox); have n6_ := ka ((by rw [hg]; exact (below_size (kw HB.out)) : w.heap.size ≤ gb529)); have n7_ := n6_; have n8_ := ka ((by rw [hg]; exact Nat.ne_of_lt (blk_lt (g := gb526) (kz BK526.out)) : gb526 ≠ gb529)); have n9_ := ka n8_.out.symm; have n10_ := ka ((by rw [hg]; exact Nat.ne_of_lt (blk_lt (g := gb527) (kz BK527.out)) : gb527 ≠ gb529)); have n11_ := ka n10_.out.symm; have n12_ := ka ((by rw [hg]; exact Nat.ne_of_lt (blk_lt (g := gb528) (kz BK528.out)) : gb528 ≠ gb529)); have n13_ := ka n12_.out.symm; clear HO1_0; clear BK526; clear BK527; clear BK528; clear HB; have HO1_0 := n0_; have BK526 := n1_; have BK527 := n2_; have BK528 := n3_; have HB := n4_; have BK529 := n5_; have GW529 := n6_; have GE529 := n7_; have NB526_529 := n8_; have NB529_526 := n9_; have NB527_529 := n10_; have NB529_527 := n11_; have NB528_529 := n12_; have NB529_528 := n13_; clear n0_ n1_ n2_ n3_ n4_ n5_ n6_ n7_ n8_ n9_ n10_ n11_ n12_ n13_; clear hb hbox hg; have hnb8 := NB529_526.out; have hnc8 := NB526_529.out; have hnb9 := NB529_527.out; have hnc9 := NB527_529.out; have hnb10 := NB529_528.out; have hnc10 := NB528_529.out; have hcz11 := blkAll2 BK529.out) | ((with_reducible refine gate_callee (f := 18) rfl ?_); refine kg (some 11) rfl rfl Try.func18 (by kernel_rfl) rfl #[.int .i64 2] rfl ?_; (with_reducible refine (trivetref01_Of.calls k 2 t530 t533 _ A3.out).mono ?_); rintro e w12 ⟨v531, rfl, ho0, hb⟩; refine ⟨_, rfl, ?_⟩; replace HO1_0 := ka (Kd.V_below (kv ((Kd.V_mono (Kd.V_far (p := ⟨gb529, 1, none⟩) (Kd.V_far (p := ⟨gb529, 0, none⟩) (Kd.V_mono HO1_0.out (fun k_ hk => (⟨hk, hk.2⟩ : _ ∧ k_ ≠ gb529))) (fun _ hk => hk.2) (.slice none 0 0)) (fun _ hk => hk.2) (.bool false)) (fun _ h_ => h_.1)))) hb); have HO532 := ka (Kd.V_lower (Kd.V_mono (ok' := fun k_ => (P1_0_ k_ ∨ w.heap.size ≤ k_) ∧ k_ ≠ gb526 ∧ k_ ≠ gb527 ∧ k_ ≠ gb528 ∧ k_ ≠ gb529) ho0 (fun k_ hk_ => ⟨(.inr (Nat.le_trans (below_size (kw HB.out)) hk_)), (Kd.freshB (g := gb526) (o := .cells #[.slice A0_0 l0_0.length c0_0, .bool a0_1] 37 (0, 0)) (by (with_reducible repeat (first | apply kb1 | apply kb2 | apply kb3 | refine kb4 ?_ NB526_529.out _)); exact BK526.out) k_ hk_), (Kd.freshB (g := gb527) (o := .cells #[.slice A1_0 l1_0.length c1_0, .bool a1_1] 37 (0, 0)) (by (with_reducible repeat (first | apply kb1 | apply kb2 | apply kb3 | refine kb4 ?_ NB527_529.out _)); exact BK527.out) k_ hk_), (Kd.freshB (g := gb528) (o := .cells #[.slice none 0 0, .bool false] 37 (0, 0)) (by (with_reducible repeat (first | apply kb1 | apply kb2 | apply kb3 | refine kb4 ?_ NB528_529.out _)); exact BK528.out) k_ hk_), (Kd.freshB (g := gb529) (o := .cells #[.slice none 0 0, .bool false] 37 (0, 0)) (by (with_reducible repeat (first | apply kb1 | apply kb2 | apply kb3 | apply blkPut2_1 | apply blkPut2_0)); exact BK529.out) k_ hk_)⟩)) (below_size (kw HB.out))); replace BK526 := ka (blk_below (g := gb526) (o := .cells #[.slice A0_0 l0_0.length c0_0, .bool a0_1] 37 (0, 0)) (by (with_reducible repeat (first | apply kb1 | apply kb2 | apply kb3 | refine kb4 ?_ NB526_529.out _)); exact BK526.out) hb); replace BK527 := ka (blk_below (g := gb527) (o := .cells #[.slice A1_0 l1_0.length c1_0, .bool a1_1] 37 (0, 0)) (by (with_reducible repeat (first | apply kb1 | apply kb2 | apply kb3 | refine kb4 ?_ NB527_529.out _)); exact BK527.out) hb); replace BK528 := ka (blk_below (g := gb528) (o := .cells #[.slice none 0 0, .bool false] 37 (0, 0)) (by (with_reducible repeat (first | apply kb1 | apply kb2 | apply kb3 | refine kb4 ?_ NB528_529.out _)); exact BK528.out) hb); replace BK529 := ka (blk_below (g := gb529) (o := .cells #[.slice none 0 0, .bool false] 37 (0, 0)) (by (with_reducible repeat (first | apply kb1 | apply kb2 | apply kb3 | apply blkPut2_1 | apply blkPut2_0)); exact BK529.out) hb); replace HB := ka (below_step (kw HB.out) hb); (try clear hb); (try clear hb2); (try clear hk); (try clear hi); (try clear ho0)) | ((with_reducible refine gate_dst (N := 7) rfl ?_); (try (refine gate_guard (by rfl) ?_; dsimp only)); refine kx (N := 7) (cs := #[.slice none 0 0, .bool false]) (t := 37) ?_; intro gb534 hg w13 hbox hb; have n0_ := ka (Kd.V_below (Kd.V_elderB (kv HO1_0.out) gb534 (Nat.le_of_eq hg.symm)) hb); have n1_ := ka (Kd.V_below (Kd.V_elderB (kv HO532.out) gb534 (Nat.le_of_eq hg.symm)) hb); have n2_ := ka (blk_below (g := gb526) (kz BK526.out) hb); have n3_ := ka (blk_below (g := gb527) (kz BK527.out) hb); have n4_ := ka (blk_below (g := gb528) (kz BK528.out) hb); have n5_ := ka (blk_below (g := gb529) (kz BK529.out) hb); have n6_ := ka (below_step (kw HB.out) hb); have n7_ := ka (hbox); have n8_ := ka ((by rw [hg]; exact (below_size (kw HB.out)) : w.heap.size ≤ gb534)); have n9_ := n8_; have n10_ := ka ((by rw [hg]; exact Nat.ne_of_lt (blk_lt (g := gb526) (kz BK526.out)) : gb526 ≠ gb534)); have n11_ := ka n10_.out.symm; have n12_ := ka ((by rw [hg]; exact Nat.ne_of_lt (blk_lt (g := gb527) (kz BK527.out)) : gb527 ≠ gb534)); have n13_ := ka n12_.out.symm; have n14_ := ka ((by rw [hg]; exact Nat.ne_of_lt (blk_lt (g := gb528) (kz BK528.out)) : gb528 ≠ gb534)); have n15_ := ka n14_.out.symm; have n16_ := ka ((by rw [hg]; exact Nat.ne_of_lt (blk_lt (g := gb529) (kz BK529.out)) : gb529 ≠ gb534)); have n17_ := ka n16_.out.symm; clear HO1_0; clear HO532; clear BK526; clear BK527; clear BK528; clear BK529; clear HB; have HO1_0 := n0_; have HO532 := n1_; have BK526 := n2_; have BK527 := n3_; have BK528 := n4_; have BK529 := n5_; have HB := n6_; have BK534 := n7_; have GW534 := n8_; have GE534 := n9_; have NB526_534 := n10_; have NB534_526 := n11_; have NB527_534 := n12_; have NB534_527 := n13_; have NB528_534 := n14_; have NB534_528 := n15_; have NB529_534 := n16_; have NB534_529 := n17_; clear n0_ n1_ n2_ n3_ n4_ n5_ n6_ n7_ n8_ n9_ n10_ n11_ n12_ n13_ n14_ n15_ n16_ n17_; clear hb hbox hg; obtain ⟨Ao14, co14, eo14⟩ := Kd.V_slice HO532.out; subst eo14; have hnb15 := NB534_526.out; have hnc15 := NB526_534.out; have hnb16 := NB534_527.out; have hnc16 := NB527_534.out; have hnb17 := NB534_528.out; have hnc17 := NB528_534.out; have hnb18 := NB534_529.out; have hnc18 := NB529_534.out; have hcz19 := blkAll2 BK534.out; have hnb20 := NB526_527.out; have hnc20 := NB527_526.out; have hnb21 := NB526_528.out; have hnc21 := NB528_526.out; have hcz22 := blkAll2 BK526.out))
 (try simp only [Act.put, List.setIfInBounds_toArray, List.set_cons_zero, List.set_cons_succ])
 go_loopg [5, 8] k (fun kq v5 v8 w' => ∃ (x5_1 : List Int) (x8_1 : Int) (x530000_1 : List Int) (x530001_1 : Bool) (u530000 : Value), v8 = .int .i64 x8_1 ∧ Aside0 (trivetref01_floor.l0 kq x5_1 x8_1 l0_0 a0_1 l1_0 a1_1 x530000_1 x530001_1 t530 t533 = some (r1, r2)) ∧ Aside0 (kq ≤ k) ∧ Aside0 (Kd.V (Kd.int .u64) 46 w' w.heap.size (fun k_ => (P1_0_ k_ ∨ w.heap.size ≤ k_) ∧ k_ ≠ gb526 ∧ k_ ≠ gb527 ∧ k_ ≠ gb528 ∧ k_ ≠ gb529 ∧ k_ ≠ gb534) v5 x5_1) ∧ Aside0 (Kd.V (Kd.int .u64) 46 w' w.heap.size (fun k_ => (P1_0_ k_ ∨ w.heap.size ≤ k_) ∧ k_ ≠ gb526 ∧ k_ ≠ gb527 ∧ k_ ≠ gb528 ∧ k_ ≠ gb529 ∧ k_ ≠ gb534) (.slice A1_0 l1_0.length c1_0) l1_0) ∧ Aside0 (Kd.V (Kd.int .u64) 46 w' w.heap.size (fun k_ => (P1_0_ k_ ∨ w.heap.size ≤ k_) ∧ k_ ≠ gb526 ∧ k_ ≠ gb527 ∧ k_ ≠ gb528 ∧ k_ ≠ gb529 ∧ k_ ≠ gb534) u530000 x530000_1) ∧ Aside0 (Kd.V (Kd.int .u64) 46 w' w.heap.size (fun k_ => (P1_0_ k_ ∨ w.heap.size ≤ k_) ∧ k_ ≠ gb526 ∧ k_ ≠ gb527 ∧ k_ ≠ gb528 ∧ k_ ≠ gb529 ∧ k_ ≠ gb534) (.slice Ao14 t530.length co14) t530) ∧ Aside0 (w'.heap[gb526]? = some (.cells #[(.slice A0_0 l0_0.length c0_0), .bool a0_1] 37 (0, 0))) ∧ Aside0 (w'.heap[gb527]? = some (.cells #[(.slice A1_0 l1_0.length c1_0), .bool a1_1] 37 (0, 0))) ∧ Aside0 (w'.heap[gb528]? = some (.cells #[(.slice none 0 0), .bool false] 37 (0, 0))) ∧ Aside0 (w'.heap[gb529]? = some (.cells #[u530000, .bool x530001_1] 37 (0, 0))) ∧ Aside0 (w'.heap[gb534]? = some (.cells #[(.slice Ao14 t530.length co14), .bool t533] 37 (0, 0))) ∧ Aside0 (Below w.heap.size w w'))
 case atStart => exact ⟨(([] : List Int)), (wrap64 ((wrap64 ((l0_0.length : Int) * 16)) - 1)), (([] : List Int)), (false), (.slice none 0 0), (by first | rfl | (simp; done) | (simp [*]; done)), H', ⟨Nat.le_refl _⟩, ⟨Kd.V_nil _ _ _ _ _⟩, ⟨kv (Kd.V_mono (Kd.V_far (p := ⟨gb534, 1, none⟩) (Kd.V_far (p := ⟨gb534, 0, none⟩) (Kd.V_mono HO1_0.out (fun k_ hk => (⟨hk, hk.2⟩ : _ ∧ k_ ≠ gb534))) (fun _ hk => hk.2) (.slice Ao14 t530.length co14)) (fun _ hk => hk.2) (.bool t533)) (fun _ hk => ⟨hk.1.1.1.1.1.1, ⟨hk.1.1.1.1.1.2, ⟨hk.1.1.1.1.2, ⟨hk.1.1.1.2, ⟨hk.1.1.2, hk.1.2⟩⟩⟩⟩⟩))⟩, ⟨Kd.V_nil _ _ _ _ _⟩, ⟨kv (Kd.V_mono (Kd.V_far (p := ⟨gb534, 1, none⟩) (Kd.V_far (p := ⟨gb534, 0, none⟩) (Kd.V_mono HO532.out (fun k_ hk => (⟨hk, hk.2⟩ : _ ∧ k_ ≠ gb534))) (fun _ hk => hk.2) (.slice Ao14 t530.length co14)) (fun _ hk => hk.2) (.bool t533)) (fun _ hk => ⟨hk.1.1.1, ⟨hk.1.1.2.1, ⟨hk.1.1.2.2.1, ⟨hk.1.1.2.2.2.1, ⟨hk.1.1.2.2.2.2, hk.1.2⟩⟩⟩⟩⟩))⟩, ⟨by (with_reducible repeat (first | apply kb1 | apply kb2 | apply kb3 | refine kb4 ?_ NB526_534.out _)); exact BK526.out⟩, ⟨by (with_reducible repeat (first | apply kb1 | apply kb2 | apply kb3 | refine kb4 ?_ NB527_534.out _)); exact BK527.out⟩, ⟨by (with_reducible repeat (first | apply kb1 | apply kb2 | apply kb3 | refine kb4 ?_ NB528_534.out _)); exact BK528.out⟩, ⟨by (with_reducible repeat (first | apply kb1 | apply kb2 | apply kb3 | refine kb4 ?_ NB529_534.out _)); exact BK529.out⟩, ⟨by (with_reducible repeat (first | apply kb1 | apply kb2 | apply kb3 | apply blkPut2_1 | apply blkPut2_0)); exact BK534.out⟩, ⟨by repeat (first | (with_reducible first | exact HB.out | apply kc1 | apply kc2 | apply kc3 | refine kc4 ?_ GE526.out | refine kc4 ?_ GE527.out | refine kc4 ?_ GE528.out | refine kc4 ?_ GE529.out | refine kc4 ?_ GE534.out) | exact HB.out)⟩⟩
 case round =>
  clear H'
  try clear c1
  try clear c2
  try clear p2
  try clear c3
  try clear p6
  try clear c8
  try clear c9
  try clear c10
  try clear c15
  try clear c16
  try clear c17
  try clear c18
  try clear c20
  try clear c21
  try clear hcz11
  try clear hcz19
  try clear hcz22
  obtain ⟨x5_1, x8_1, x530000_1, x530001_1, u530000, rfl, HA, HK1, HO_5, HO_528000, HO_530000, HO_535000, BK526, BK527, BK528, BK529, BK534, HB⟩ := hrel
  cases gk with
  | zero => exact absurd HA.out (by simp [trivetref01_floor.l0])
  | succ k1 =>
   have H := HA.out
   clear HA
   simp only [trivetref01_floor.l0] at H
   by_cases c23 : x8_1 ≥ 0
   ·rw [if_pos c23] at H
    have c23b0 : decide (0 ≤ x8_1) = true := decide_eq_true c23
    clear c23
    replace H := Option.bind_eq_some_iff.mp H
    obtain ⟨⟨t535, t538⟩, A240, H⟩ := H
    replace H : (if 0 ≤ (wrap64 (Int.tdiv x8_1 16)) then (if (wrap64 (Int.tdiv x8_1 16)) < (l0_0.length : Int) then (if 0 ≤ (Int.tmod x8_1 16) then (if (Go.bits .and .u64 (shr .u64 (rd l0_0 (wrap64 (Int.tdiv x8_1 16))) (Int.tmod x8_1 16)) 1) = 1 then ((trivetref01_Of.f k1 1).bind fun bt540 => ((trivetref01_Add.f k1 t535 t538 bt540.1 bt540.2).bind fun bt544 => (trivetref01_floor.j1 k1 x5_1 x8_1 l0_0 a0_1 l1_0 a1_1 bt544.1 bt544.2 t530 t533))) else (trivetref01_floor.j1 k1 x5_1 x8_1 l0_0 a0_1 l1_0 a1_1 t535 t538 t530 t533)) else (none)) else (none)) else (none)) = some (r1, r2) := H
    have A24 := ka A240
    clear A240
    obtain ⟨ji25, hji25⟩ : ∃ j_ : Int, (wrap64 (Int.tdiv x8_1 16)) = j_ := ⟨_, rfl⟩
    replace H : (if 0 ≤ (ji25) then (if (ji25) < (l0_0.length : Int) then (if 0 ≤ (Int.tmod x8_1 16) then (if (Go.bits .and .u64 (shr .u64 (rd l0_0 (ji25)) (Int.tmod x8_1 16)) 1) = 1 then ((trivetref01_Of.f k1 1).bind fun bt540 => ((trivetref01_Add.f k1 t535 t538 bt540.1 bt540.2).bind fun bt544 => (trivetref01_floor.j1 k1 x5_1 x8_1 l0_0 a0_1 l1_0 a1_1 bt544.1 bt544.2 t530 t533))) else (trivetref01_floor.j1 k1 x5_1 x8_1 l0_0 a0_1 l1_0 a1_1 t535 t538 t530 t533)) else (none)) else (none)) else (none)) = some (r1, r2) := by first | (rw [hji25] at H; exact H) | (simp only [hji25] at H ⊢; exact H)
    (try rw [hji25] at A24)
    have hji25w : (IntKind.i64.wrap (Int.tdiv x8_1 16)) = ji25 := (i64_w _).trans hji25
    by_cases c26 : 0 ≤ (ji25)
    ·rw [if_pos c26] at H
     have c26b0 : decide (0 ≤ (ji25)) = true := decide_eq_true c26
     clear c26
     by_cases c27 : (ji25) < (l0_0.length : Int)
     ·rw [if_pos c27] at H
      have c27b0 : decide ((ji25) < (l0_0.length : Int)) = true := decide_eq_true c27
      clear c27
      obtain ⟨ji28, hji28⟩ : ∃ j_ : Int, (Int.tmod x8_1 16) = j_ := ⟨_, rfl⟩
      replace H : (if 0 ≤ (ji28) then (if (Go.bits .and .u64 (shr .u64 (rd l0_0 (ji25)) (ji28)) 1) = 1 then ((trivetref01_Of.f k1 1).bind fun bt540 => ((trivetref01_Add.f k1 t535 t538 bt540.1 bt540.2).bind fun bt544 => (trivetref01_floor.j1 k1 x5_1 x8_1 l0_0 a0_1 l1_0 a1_1 bt544.1 bt544.2 t530 t533))) else (trivetref01_floor.j1 k1 x5_1 x8_1 l0_0 a0_1 l1_0 a1_1 t535 t538 t530 t533)) else (none)) = some (r1, r2) := by first | (rw [hji28] at H; exact H) | (simp only [hji28] at H ⊢; exact H)
      (try rw [hji28] at A24)
      by_cases c29 : 0 ≤ (ji28)
      ·rw [if_pos c29] at H
       have c29b0 := eq_true c29
       have c29b1 : decide (0 ≤ (ji28)) = true := decide_eq_true c29
       clear c29
       obtain ⟨ji30, hji30⟩ : ∃ j_ : Int, (shr .u64 (rd l0_0 (ji25)) (ji28)) = j_ := ⟨_, rfl⟩
       replace H : (if (Go.bits .and .u64 (ji30) 1) = 1 then ((trivetref01_Of.f k1 1).bind fun bt540 => ((trivetref01_Add.f k1 t535 t538 bt540.1 bt540.2).bind fun bt544 => (trivetref01_floor.j1 k1 x5_1 x8_1 l0_0 a0_1 l1_0 a1_1 bt544.1 bt544.2 t530 t533))) else (trivetref01_floor.j1 k1 x5_1 x8_1 l0_0 a0_1 l1_0 a1_1 t535 t538 t530 t533)) = some (r1, r2) := by first | (rw [hji30] at H; exact H) | (simp only [hji30] at H ⊢; exact H)
       (try rw [hji30] at A24)
       have hji30_ : ((rd l0_0 (ji25)) / 2 ^ min (ji28).toNat 64) = ji30 := hji30
       have hji30z : (ji28) ≤ 64 → ((rd l0_0 (ji25)) / 2 ^ (ji28).toNat) = ji30 := shr_small hji30
       have HC31 := ka H
       clear H
       have hnb32 := NB529_526.out
       have hnc32 := NB526_529.out
       have hnb33 := NB529_527.out
       have hnc33 := NB527_529.out
       have hnb34 := NB529_528.out
       have hnc34 := NB528_529.out
       have hnb35 := NB529_534.out
       have hnc35 := NB534_529.out
       have hcz36 := blkAll2 BK529.out
       have hnb37 := NB534_526.out
       have hnc37 := NB526_534.out
       have hnb38 := NB534_527.out
       have hnc38 := NB527_534.out
       have hnb39 := NB534_528.out
       have hnc39 := NB528_534.out
       have hcz40 := blkAll2 BK534.out
       obtain ⟨Ao41, co41, eo41⟩ := Kd.V_slice HO_530000.out
       subst eo41
       go_upto_if 34 with (first | ((with_reducible refine gate_callee (f := 22) rfl ?_); refine kg (some 23) rfl rfl Try.func22 (by kernel_rfl) rfl #[.agg #[.slice Ao41 x530000_1.length co41, .bool x530001_1], .agg #[.slice Ao14 t530.length co14, .bool t533]] rfl ?_; (with_reducible refine (trivetref01_Mul.calls k1 _ _ x530000_1 x530001_1 _ _ t530 t533 t535 t538 _ ?side1 ?side2 ?side3 ?side4 A24.out).mono ?_); (case side1 => repeat (first | exact (Kd.V_reads' HO_530000.out).2.2 | (with_reducible refine Kd.C_alloc ?_ _) | (with_reducible refine Kd.C_drewN ?_ _) | (with_reducible refine Kd.C_drew ?_))); (case side2 => exact (Kd.V_reads' HO_530000.out).2.1); (case side3 => repeat (first | exact (Kd.V_reads' HO_535000.out).2.2 | (with_reducible refine Kd.C_alloc ?_ _) | (with_reducible refine Kd.C_drewN ?_ _) | (with_reducible refine Kd.C_drew ?_))); (case side4 => exact (Kd.V_reads' HO_535000.out).2.1); rintro e w42 ⟨v536, rfl, ho0, hb⟩; refine ⟨_, rfl, ?_⟩; replace HO_5 := kvb HO_5 hb; replace HO_528000 := kvb HO_528000 hb; replace HO_530000 := kvb HO_530000 hb; replace HO_535000 := kvb HO_535000 hb; have HO537 := ka (Kd.V_lower (Kd.V_mono (ok' := fun k_ => (P1_0_ k_ ∨ w.heap.size ≤ k_) ∧ k_ ≠ gb526 ∧ k_ ≠ gb527 ∧ k_ ≠ gb528 ∧ k_ ≠ gb529 ∧ k_ ≠ gb534) ho0 (fun k_ hk_ => ⟨(.inr (Nat.le_trans (below_size (kw HB.out)) hk_)), (kf BK526 hk_), (kf BK527 hk_), (kf BK528 hk_), (kf BK529 hk_), (kf BK534 hk_)⟩)) (below_size (kw HB.out))); replace BK526 := kbb BK526 hb; replace BK527 := kbb BK527 hb; replace BK528 := kbb BK528 hb; replace BK529 := kbb BK529 hb; replace BK534 := kbb BK534 hb; replace HB := ka (below_step (kw HB.out) hb); (try clear hb); (try clear hb2); (try clear hk); (try clear hi); (try clear ho0); obtain ⟨Ao43, co43, eo43⟩ := Kd.V_slice HO537.out; subst eo43; have hcz44 := blkAll2 BK529.out; have hnb45 := NB526_527.out; have hnc45 := NB527_526.out; have hnb46 := NB526_528.out; have hnc46 := NB528_526.out; have hcz47 := blkAll2 BK526.out; have p539 : 0 ≤ ((ji25) : Int) := of_decide_eq_true (by first | (with_reducible assumption) | assumption); have q539 : (ji25) < (l0_0.length : Int) := of_decide_eq_true (by first | (with_reducible assumption) | assumption); obtain ⟨ad539, e539, hx539_0⟩ := Kd.at_int HR0_0.out (ji25) p539 q539; cases e539; have hn539_0 : ad539.block ≠ gb529 := Nat.ne_of_lt (Nat.lt_of_lt_of_le (by have := World.block_lt_of_cell? _ _ hx539_0; first | rwa [add_block] at this | exact this) GW529.out); have hn539_1 : ad539.block ≠ gb529 := Nat.ne_of_lt (Nat.lt_of_lt_of_le (by have := World.block_lt_of_cell? _ _ hx539_0; first | rwa [add_block] at this | exact this) GW529.out); replace hx539_0 := (HB.out.cell (World.block_lt_of_cell? w _ hx539_0)).trans hx539_0; replace hx539_0 := (cell_far (p := ⟨gb529, 0, none⟩) (by first | (rw [add_block]; exact hn539_0) | (show (Addr.add _ _).block ≠ _; rw [add_block]; exact hn539_0) | exact hn539_0) (.slice Ao43 t535.length co43)).trans hx539_0; replace hx539_0 := (cell_far (p := ⟨gb529, 1, none⟩) (by first | (rw [add_block]; exact hn539_1) | (show (Addr.add _ _).block ≠ _; rw [add_block]; exact hn539_1) | exact hn539_1) (.bool t538)).trans hx539_0; clear hn539_0; clear hn539_1; replace p539 := eq_true p539; replace q539 := eq_true q539))
       (try simp only [Act.put, List.setIfInBounds_toArray, List.set_cons_zero, List.set_cons_succ])
       go_cut [] (fun wc => ∃ (kq : Nat) (x530000_30 : List Int) (x530001_30 : Bool) (u530000 : Value), Aside0 (trivetref01_floor.j1 kq x5_1 x8_1 l0_0 a0_1 l1_0 a1_1 x530000_30 x530001_30 t530 t533 = some (r1, r2)) ∧ Aside0 (kq ≤ k1) ∧ Aside0 (Kd.V (Kd.int .u64) 46 wc w.heap.size (fun k_ => (P1_0_ k_ ∨ w.heap.size ≤ k_) ∧ k_ ≠ gb526 ∧ k_ ≠ gb527 ∧ k_ ≠ gb528 ∧ k_ ≠ gb529 ∧ k_ ≠ gb534) u5 x5_1) ∧ Aside0 (Kd.V (Kd.int .u64) 46 wc w.heap.size (fun k_ => (P1_0_ k_ ∨ w.heap.size ≤ k_) ∧ k_ ≠ gb526 ∧ k_ ≠ gb527 ∧ k_ ≠ gb528 ∧ k_ ≠ gb529 ∧ k_ ≠ gb534) (.slice A1_0 l1_0.length c1_0) l1_0) ∧ Aside0 (Kd.V (Kd.int .u64) 46 wc w.heap.size (fun k_ => (P1_0_ k_ ∨ w.heap.size ≤ k_) ∧ k_ ≠ gb526 ∧ k_ ≠ gb527 ∧ k_ ≠ gb528 ∧ k_ ≠ gb529 ∧ k_ ≠ gb534) u530000 x530000_30) ∧ Aside0 (Kd.V (Kd.int .u64) 46 wc w.heap.size (fun k_ => (P1_0_ k_ ∨ w.heap.size ≤ k_) ∧ k_ ≠ gb526 ∧ k_ ≠ gb527 ∧ k_ ≠ gb528 ∧ k_ ≠ gb529 ∧ k_ ≠ gb534) (.slice Ao14 t530.length co14) t530) ∧ Aside0 (wc.heap[gb526]? = some (.cells #[(.slice (some ad539) l0_0.length c0_0), .bool a0_1] 37 (0, 0))) ∧ Aside0 (wc.heap[gb527]? = some (.cells #[(.slice A1_0 l1_0.length c1_0), .bool a1_1] 37 (0, 0))) ∧ Aside0 (wc.heap[gb528]? = some (.cells #[(.slice none 0 0), .bool false] 37 (0, 0))) ∧ Aside0 (wc.heap[gb529]? = some (.cells #[u530000, .bool x530001_30] 37 (0, 0))) ∧ Aside0 (wc.heap[gb534]? = some (.cells #[(.slice Ao14 t530.length co14), .bool t533] 37 (0, 0))) ∧ Aside0 (Below w.heap.size w wc))
       case first =>
        have H := HC31.out
        clear HC31
        by_cases c48 : (Go.bits .and .u64 (ji30) 1) = 1
        ·rw [if_pos c48] at H
         have c48b0 : ((Go.bits .and .u64 (ji30) 1) == 1) = true := beq_iff_eq.mpr c48
         have c48b1 : ((Go.bits .and .u64 (ji30) 1) != 1) = false := bne_eq_false_iff_eq.mpr c48
         clear c48
         (first | rw [c48b0] | (simp only [i64_w, i32_w]; rw [c48b0]) | skip)
         replace H := Option.bind_eq_some_iff.mp H
         obtain ⟨⟨t540, t543⟩, A490, H⟩ := H
         replace H : ((trivetref01_Add.f k1 t535 t538 t540 t543).bind fun bt544 => (trivetref01_floor.j1 k1 x5_1 x8_1 l0_0 a0_1 l1_0 a1_1 bt544.1 bt544.2 t530 t533)) = some (r1, r2) := H
         have A49 := ka A490
         clear A490
         replace H := Option.bind_eq_some_iff.mp H
         obtain ⟨⟨t544, t547⟩, A500, H⟩ := H
         replace H : (trivetref01_floor.j1 k1 x5_1 x8_1 l0_0 a0_1 l1_0 a1_1 t544 t547 t530 t533) = some (r1, r2) := H
         have A50 := ka A500
         clear A500
         have H' := ka H
         clear H
         try go_wp2
         have n0_ : Aside0 (Kd.V (Kd.int .u64) 46 ((w42.setCell ⟨gb529, 0, none⟩ (.slice Ao43 t535.length co43)).setCell ⟨gb529, 1, none⟩ (.bool t538)) w.heap.size (fun k_ => (P1_0_ k_ ∨ w.heap.size ≤ k_) ∧ k_ ≠ gb526 ∧ k_ ≠ gb527 ∧ k_ ≠ gb528 ∧ k_ ≠ gb529 ∧ k_ ≠ gb534) u5 x5_1) := ⟨kv (Kd.V_mono (Kd.V_far (p := ⟨gb529, 1, none⟩) (Kd.V_far (p := ⟨gb529, 0, none⟩) (Kd.V_mono HO_5.out (fun k_ hk => (⟨hk, hk.2.2.2.2.1⟩ : _ ∧ k_ ≠ gb529))) (fun _ hk => hk.2) (.slice Ao43 t535.length co43)) (fun _ hk => hk.2) (.bool t538)) (fun _ hk => ⟨hk.1.1, ⟨hk.1.2.1, ⟨hk.1.2.2.1, ⟨hk.1.2.2.2.1, ⟨hk.1.2.2.2.2.1, hk.1.2.2.2.2.2⟩⟩⟩⟩⟩))⟩
         have n1_ : Aside0 (Kd.V (Kd.int .u64) 46 ((w42.setCell ⟨gb529, 0, none⟩ (.slice Ao43 t535.length co43)).setCell ⟨gb529, 1, none⟩ (.bool t538)) w.heap.size (fun k_ => (P1_0_ k_ ∨ w.heap.size ≤ k_) ∧ k_ ≠ gb526 ∧ k_ ≠ gb527 ∧ k_ ≠ gb528 ∧ k_ ≠ gb529 ∧ k_ ≠ gb534) (.slice A1_0 l1_0.length c1_0) l1_0) := ⟨kv (Kd.V_mono (Kd.V_far (p := ⟨gb529, 1, none⟩) (Kd.V_far (p := ⟨gb529, 0, none⟩) (Kd.V_mono HO_528000.out (fun k_ hk => (⟨hk, hk.2.2.2.2.1⟩ : _ ∧ k_ ≠ gb529))) (fun _ hk => hk.2) (.slice Ao43 t535.length co43)) (fun _ hk => hk.2) (.bool t538)) (fun _ hk => ⟨hk.1.1, ⟨hk.1.2.1, ⟨hk.1.2.2.1, ⟨hk.1.2.2.2.1, ⟨hk.1.2.2.2.2.1, hk.1.2.2.2.2.2⟩⟩⟩⟩⟩))⟩
         have n2_ : Aside0 (Kd.V (Kd.int .u64) 46 ((w42.setCell ⟨gb529, 0, none⟩ (.slice Ao43 t535.length co43)).setCell ⟨gb529, 1, none⟩ (.bool t538)) w.heap.size (fun k_ => (P1_0_ k_ ∨ w.heap.size ≤ k_) ∧ k_ ≠ gb526 ∧ k_ ≠ gb527 ∧ k_ ≠ gb528 ∧ k_ ≠ gb529 ∧ k_ ≠ gb534) (.slice Ao41 x530000_1.length co41) x530000_1) := ⟨kv (Kd.V_mono (Kd.V_far (p := ⟨gb529, 1, none⟩) (Kd.V_far (p := ⟨gb529, 0, none⟩) (Kd.V_mono HO_530000.out (fun k_ hk => (⟨hk, hk.2.2.2.2.1⟩ : _ ∧ k_ ≠ gb529))) (fun _ hk => hk.2) (.slice Ao43 t535.length co43)) (fun _ hk => hk.2) (.bool t538)) (fun _ hk => ⟨hk.1.1, ⟨hk.1.2.1, ⟨hk.1.2.2.1, ⟨hk.1.2.2.2.1, ⟨hk.1.2.2.2.2.1, hk.1.2.2.2.2.2⟩⟩⟩⟩⟩))⟩
         have n3_ : Aside0 (Kd.V (Kd.int .u64) 46 ((w42.setCell ⟨gb529, 0, none⟩ (.slice Ao43 t535.length co43)).setCell ⟨gb529, 1, none⟩ (.bool t538)) w.heap.size (fun k_ => (P1_0_ k_ ∨ w.heap.size ≤ k_) ∧ k_ ≠ gb526 ∧ k_ ≠ gb527 ∧ k_ ≠ gb528 ∧ k_ ≠ gb529 ∧ k_ ≠ gb534) (.slice Ao14 t530.length co14) t530) := ⟨kv (Kd.V_mono (Kd.V_far (p := ⟨gb529, 1, none⟩) (Kd.V_far (p := ⟨gb529, 0, none⟩) (Kd.V_mono HO_535000.out (fun k_ hk => (⟨hk, hk.2.2.2.2.1⟩ : _ ∧ k_ ≠ gb529))) (fun _ hk => hk.2) (.slice Ao43 t535.length co43)) (fun _ hk => hk.2) (.bool t538)) (fun _ hk => ⟨hk.1.1, ⟨hk.1.2.1, ⟨hk.1.2.2.1, ⟨hk.1.2.2.2.1, ⟨hk.1.2.2.2.2.1, hk.1.2.2.2.2.2⟩⟩⟩⟩⟩))⟩
         have n4_ : Aside0 (Kd.V (Kd.int .u64) 46 ((w42.setCell ⟨gb529, 0, none⟩ (.slice Ao43 t535.length co43)).setCell ⟨gb529, 1, none⟩ (.bool t538)) w.heap.size (fun k_ => (P1_0_ k_ ∨ w.heap.size ≤ k_) ∧ k_ ≠ gb526 ∧ k_ ≠ gb527 ∧ k_ ≠ gb528 ∧ k_ ≠ gb529 ∧ k_ ≠ gb534) (.slice Ao43 t535.length co43) t535) := ⟨kv (Kd.V_mono (Kd.V_far (p := ⟨gb529, 1, none⟩) (Kd.V_far (p := ⟨gb529, 0, none⟩) (Kd.V_mono HO537.out (fun k_ hk => (⟨hk, hk.2.2.2.2.1⟩ : _ ∧ k_ ≠ gb529))) (fun _ hk => hk.2) (.slice Ao43 t535.length co43)) (fun _ hk => hk.2) (.bool t538)) (fun _ hk => ⟨hk.1.1, ⟨hk.1.2.1, ⟨hk.1.2.2.1, ⟨hk.1.2.2.2.1, ⟨hk.1.2.2.2.2.1, hk.1.2.2.2.2.2⟩⟩⟩⟩⟩))⟩
         have n5_ : Aside0 (((w42.setCell ⟨gb529, 0, none⟩ (.slice Ao43 t535.length co43)).setCell ⟨gb529, 1, none⟩ (.bool t538)).heap[gb526]? = some (.cells #[.slice (some ad539) l0_0.length c0_0, .bool a0_1] 37 (0, 0))) := ⟨by (with_reducible repeat (first | apply kb1 | apply kb2 | apply kb3 | refine kb4 ?_ NB526_529.out _)); exact BK526.out⟩
         have n6_ : Aside0 (((w42.setCell ⟨gb529, 0, none⟩ (.slice Ao43 t535.length co43)).setCell ⟨gb529, 1, none⟩ (.bool t538)).heap[gb527]? = some (.cells #[.slice A1_0 l1_0.length c1_0, .bool a1_1] 37 (0, 0))) := ⟨by (with_reducible repeat (first | apply kb1 | apply kb2 | apply kb3 | refine kb4 ?_ NB527_529.out _)); exact BK527.out⟩
         have n7_ : Aside0 (((w42.setCell ⟨gb529, 0, none⟩ (.slice Ao43 t535.length co43)).setCell ⟨gb529, 1, none⟩ (.bool t538)).heap[gb528]? = some (.cells #[.slice none 0 0, .bool false] 37 (0, 0))) := ⟨by (with_reducible repeat (first | apply kb1 | apply kb2 | apply kb3 | refine kb4 ?_ NB528_529.out _)); exact BK528.out⟩
         have n8_ : Aside0 (((w42.setCell ⟨gb529, 0, none⟩ (.slice Ao43 t535.length co43)).setCell ⟨gb529, 1, none⟩ (.bool t538)).heap[gb529]? = some (.cells #[.slice Ao43 t535.length co43, .bool t538] 37 (0, 0))) := ⟨by (with_reducible repeat (first | apply kb1 | apply kb2 | apply kb3 | apply blkPut2_1 | apply blkPut2_0)); exact BK529.out⟩
         have n9_ : Aside0 (((w42.setCell ⟨gb529, 0, none⟩ (.slice Ao43 t535.length co43)).setCell ⟨gb529, 1, none⟩ (.bool t538)).heap[gb534]? = some (.cells #[.slice Ao14 t530.length co14, .bool t533] 37 (0, 0))) := ⟨by (with_reducible repeat (first | apply kb1 | apply kb2 | apply kb3 | refine kb4 ?_ NB534_529.out _)); exact BK534.out⟩
         have n10_ : Aside0 (Below w.heap.size w ((w42.setCell ⟨gb529, 0, none⟩ (.slice Ao43 t535.length co43)).setCell ⟨gb529, 1, none⟩ (.bool t538))) := ⟨by repeat (first | (with_reducible first | exact HB.out | apply kc1 | apply kc2 | apply kc3 | refine kc4 ?_ GE526.out | refine kc4 ?_ GE527.out | refine kc4 ?_ GE528.out | refine kc4 ?_ GE529.out | refine kc4 ?_ GE534.out) | exact HB.out)⟩
         (try clear HO_5)
         (try clear HO_528000)
         (try clear HO_530000)
         (try clear HO_535000)
         (try clear HO537)
         (try clear BK526)
         (try clear BK527)
         (try clear BK528)
         (try clear BK529)
         (try clear BK534)
         (try clear HB)
         generalize ((w42.setCell ⟨gb529, 0, none⟩ (.slice Ao43 t535.length co43)).setCell ⟨gb529, 1, none⟩ (.bool t538)) = w51 at n0_ n1_ n2_ n3_ n4_ n5_ n6_ n7_ n8_ n9_ n10_ ⊢
         have HO_5 := n0_
         have HO_528000 := n1_
         have HO_530000 := n2_
         have HO_535000 := n3_
         have HO537 := n4_
         have BK526 := n5_
         have BK527 := n6_
         have BK528 := n7_
         have BK529 := n8_
         have BK534 := n9_
         have HB := n10_
         clear n0_ n1_ n2_ n3_ n4_ n5_ n6_ n7_ n8_ n9_ n10_
         replace HO_5 := ka (Kd.V_drew HO_5.out)
         replace HO_528000 := ka (Kd.V_drew HO_528000.out)
         replace HO_530000 := ka (Kd.V_drew HO_530000.out)
         replace HO_535000 := ka (Kd.V_drew HO_535000.out)
         replace HO537 := ka (Kd.V_drew HO537.out)
         replace BK526 := ka (blk_drew BK526.out)
         replace BK527 := ka (blk_drew BK527.out)
         replace BK528 := ka (blk_drew BK528.out)
         replace BK529 := ka (blk_drew BK529.out)
         replace BK534 := ka (blk_drew BK534.out)
         replace HB := ka (below_drew1 HB.out)
         refine start_ (n := 4) (S := fun w' => w'.cell? ⟨gb529, 0, none⟩ = some (.slice Ao43 t535.length co43) ∧ w'.cell? ⟨gb529, 1, none⟩ = some (.bool t538)) (ds := [3]) #[false, false, false, false] (by kernel_rfl) rfl rfl ⟨(blk_cell BK529.out 0).trans rfl, (blk_cell BK529.out 1).trans rfl⟩ (fun hHeld => ?_)
         generalize w51.drew = w52 at HO_5 HO_528000 HO_530000 HO_535000 HO537 BK526 BK527 BK528 BK529 BK534 HB hHeld ⊢
         refine take_ (i := 0) (N := some 35) (v := ?_) (a' := ?_) #[true, false, false, false] rfl rfl (by kernel_rfl) (fun _ _ _ h => h) (Or.inl ⟨by rfl, ?_⟩) hHeld ?_ ?_
         rotate_left
         ·rintro w' ⟨s0, s1⟩
          go_simp
          with_reducible rfl
         rotate_left
         ·simp only [Act.put, List.setIfInBounds_toArray, List.set_cons_zero, List.set_cons_succ, i64_w, i32_w]
          rfl
         refine one_ (i := 1) (N := some 36) #[true, true, false, false] rfl rfl (by kernel_rfl) (by decide) (fun K hK => ?_)
         refine goes_ Try.func18 (by kernel_rfl) rfl #[.int .i64 1] (by rfl) rfl rfl (by (try simp only [List.map_toArray, List.map_cons, List.map_nil]); first | done | rfl | (simp only [List.length_drop, List.length_take]; rfl)) ?_
         with_reducible refine (trivetref01_Of.calls k1 1 t540 t543 _ A49.out).mono ?_
         rintro e w53 ⟨v541, rfl, ho0, hb⟩
         refine ⟨_, rfl, ?_⟩
         replace HO_5 := kvb HO_5 hb
         replace HO_528000 := kvb HO_528000 hb
         replace HO_530000 := kvb HO_530000 hb
         replace HO_535000 := kvb HO_535000 hb
         replace HO537 := kvb HO537 hb
         have HO542 := ka (Kd.V_lower (Kd.V_mono (ok' := fun k_ => (P1_0_ k_ ∨ w.heap.size ≤ k_) ∧ k_ ≠ gb526 ∧ k_ ≠ gb527 ∧ k_ ≠ gb528 ∧ k_ ≠ gb529 ∧ k_ ≠ gb534) ho0 (fun k_ hk_ => ⟨(.inr (Nat.le_trans (below_size (kw HB.out)) hk_)), (kf BK526 hk_), (kf BK527 hk_), (kf BK528 hk_), (kf BK529 hk_), (kf BK534 hk_)⟩)) (below_size (kw HB.out)))
         replace BK526 := kbb BK526 hb
         replace BK527 := kbb BK527 hb
         replace BK528 := kbb BK528 hb
         replace BK529 := kbb BK529 hb
         replace BK534 := kbb BK534 hb
         replace HB := ka (below_step (kw HB.out) hb)
         (try clear hb)
         (try clear hb2)
         (try clear hk)
         (try clear hi)
         (try clear ho0)
         obtain ⟨Ao54, co54, eo54⟩ := Kd.V_slice HO542.out
         (first | subst eo54 | (injection eo54 with f1_ f2_ f3_; have f4_ := f1_.symm; have f5_ := f3_.symm; clear f1_ f2_ f3_; subst f4_; subst f5_))
         refine hK.out _ _ ⟨(blk_cell BK529.out 0).trans rfl, (blk_cell BK529.out 1).trans rfl⟩ (fun hHeld => ?_)
         clear hK K
         refine norm_ (a' := ?_) ?_ ?_
         rotate_left
         ·show Act.put _ (some 36) _ = _
          simp only [Act.put, List.setIfInBounds_toArray, List.set_cons_zero, List.set_cons_succ, i64_w, i32_w]
          rfl
         refine one_ (i := 2) (N := some 37) #[true, true, true, false] rfl rfl (by kernel_rfl) (by decide) (fun K hK => ?_)
         refine goes_ Try.func20 (by kernel_rfl) rfl #[.agg #[.slice Ao43 t535.length co43, .bool t538], .agg #[.slice Ao54 t540.length co54, .bool t543]] (by rfl) rfl rfl (by (try simp only [List.map_toArray, List.map_cons, List.map_nil]); first | done | rfl | (simp only [List.length_drop, List.length_take]; rfl)) ?_
         with_reducible refine (trivetref01_Add.calls k1 _ _ t535 t538 _ _ t540 t543 t544 t547 _ ?side1 ?side2 ?side3 ?side4 A50.out).mono ?_
         (case side1 => repeat (first | exact (Kd.V_reads' HO537.out).2.2 | (with_reducible refine Kd.C_alloc ?_ _) | (with_reducible refine Kd.C_drewN ?_ _) | (with_reducible refine Kd.C_drew ?_)))
         (case side2 => exact (Kd.V_reads' HO537.out).2.1)
         (case side3 => repeat (first | exact (Kd.V_reads' HO542.out).2.2 | (with_reducible refine Kd.C_alloc ?_ _) | (with_reducible refine Kd.C_drewN ?_ _) | (with_reducible refine Kd.C_drew ?_)))
         (case side4 => exact (Kd.V_reads' HO542.out).2.1)
         rintro e w55 ⟨v545, rfl, ho0, hb⟩
         refine ⟨_, rfl, ?_⟩
         replace HO_5 := kvb HO_5 hb
         replace HO_528000 := kvb HO_528000 hb
         replace HO_530000 := kvb HO_530000 hb
         replace HO_535000 := kvb HO_535000 hb
         replace HO537 := kvb HO537 hb
         replace HO542 := kvb HO542 hb
         have HO546 := ka (Kd.V_lower (Kd.V_mono (ok' := fun k_ => (P1_0_ k_ ∨ w.heap.size ≤ k_) ∧ k_ ≠ gb526 ∧ k_ ≠ gb527 ∧ k_ ≠ gb528 ∧ k_ ≠ gb529 ∧ k_ ≠ gb534) ho0 (fun k_ hk_ => ⟨(.inr (Nat.le_trans (below_size (kw HB.out)) hk_)), (kf BK526 hk_), (kf BK527 hk_), (kf BK528 hk_), (kf BK529 hk_), (kf BK534 hk_)⟩)) (below_size (kw HB.out)))
         replace BK526 := kbb BK526 hb
         replace BK527 := kbb BK527 hb
         replace BK528 := kbb BK528 hb
         replace BK529 := kbb BK529 hb
         replace BK534 := kbb BK534 hb
         replace HB := ka (below_step (kw HB.out) hb)
         (try clear hb)
         (try clear hb2)
         (try clear hk)
         (try clear hi)
         (try clear ho0)
         obtain ⟨Ao56, co56, eo56⟩ := Kd.V_slice HO546.out
         (first | subst eo56 | (injection eo56 with f1_ f2_ f3_; have f4_ := f1_.symm; have f5_ := f3_.symm; clear f1_ f2_ f3_; subst f4_; subst f5_))
         refine hK.out _ _ ⟨(blk_cell BK529.out 0).trans rfl, (blk_cell BK529.out 1).trans rfl⟩ (fun hHeld => ?_)
         clear hK K
         refine norm_ (a' := ?_) ?_ ?_
         rotate_left
         ·show Act.put _ (some 37) _ = _
          simp only [Act.put, List.setIfInBounds_toArray, List.set_cons_zero, List.set_cons_succ, i64_w, i32_w]
          rfl
         refine last_ (i := 3) (N := none) #[true, true, true, true] rfl rfl (by kernel_rfl) (by decide) (fun K hK => ?_)
         have hs57 : w55.cell? ⟨gb529, 0, none⟩ = some (.slice Ao43 t535.length co43) := (blk_cell BK529.out 0).trans rfl
         have hfs57 := blk_frozen BK529.out 0
         have hns57_0 := NB526_529.out
         have hns57_1 := NB527_529.out
         have hns57_2 := NB528_529.out
         have hns57_4 := NB534_529.out
         have hms57_0 := NB529_526.out
         have hms57_1 := NB529_527.out
         have hms57_2 := NB529_528.out
         have hms57_4 := NB529_534.out
         have hs58 : w55.cell? ⟨gb529, 1, none⟩ = some (.bool t538) := (blk_cell BK529.out 1).trans rfl
         have hfs58 := blk_frozen BK529.out 1
         have hns58_0 := NB526_529.out
         have hns58_1 := NB527_529.out
         have hns58_2 := NB528_529.out
         have hns58_4 := NB534_529.out
         have hms58_0 := NB529_526.out
         have hms58_1 := NB529_527.out
         have hms58_2 := NB529_528.out
         have hms58_4 := NB529_534.out
         refine skip_ (w1 := ?_) (by rfl) rfl ?_ ?_
         rotate_left
         ·go_simp
          rfl
         refine hK.out _ _ ?_
         clear hK K
         refine done_ (by kernel_rfl) ?_
         try go_wp2
         go_meet
         case rel => exact ⟨_, (t544), (t547), (.slice Ao56 t544.length co56), H', ⟨by have := HK1.out; first | omega | exact Nat.le_refl _⟩, ⟨kv (Kd.V_mono (Kd.V_far (p := ⟨gb529, 1, none⟩) (Kd.V_far (p := ⟨gb529, 0, none⟩) (Kd.V_mono HO_5.out (fun k_ hk => (⟨hk, hk.2.2.2.2.1⟩ : _ ∧ k_ ≠ gb529))) (fun _ hk => hk.2) (.slice Ao56 t544.length co56)) (fun _ hk => hk.2) (.bool t547)) (fun _ hk => ⟨hk.1.1, ⟨hk.1.2.1, ⟨hk.1.2.2.1, ⟨hk.1.2.2.2.1, ⟨hk.1.2.2.2.2.1, hk.1.2.2.2.2.2⟩⟩⟩⟩⟩))⟩, ⟨kv (Kd.V_mono (Kd.V_far (p := ⟨gb529, 1, none⟩) (Kd.V_far (p := ⟨gb529, 0, none⟩) (Kd.V_mono HO_528000.out (fun k_ hk => (⟨hk, hk.2.2.2.2.1⟩ : _ ∧ k_ ≠ gb529))) (fun _ hk => hk.2) (.slice Ao56 t544.length co56)) (fun _ hk => hk.2) (.bool t547)) (fun _ hk => ⟨hk.1.1, ⟨hk.1.2.1, ⟨hk.1.2.2.1, ⟨hk.1.2.2.2.1, ⟨hk.1.2.2.2.2.1, hk.1.2.2.2.2.2⟩⟩⟩⟩⟩))⟩, ⟨kv (Kd.V_mono (Kd.V_far (p := ⟨gb529, 1, none⟩) (Kd.V_far (p := ⟨gb529, 0, none⟩) (Kd.V_mono HO546.out (fun k_ hk => (⟨hk, hk.2.2.2.2.1⟩ : _ ∧ k_ ≠ gb529))) (fun _ hk => hk.2) (.slice Ao56 t544.length co56)) (fun _ hk => hk.2) (.bool t547)) (fun _ hk => ⟨hk.1.1, ⟨hk.1.2.1, ⟨hk.1.2.2.1, ⟨hk.1.2.2.2.1, ⟨hk.1.2.2.2.2.1, hk.1.2.2.2.2.2⟩⟩⟩⟩⟩))⟩, ⟨kv (Kd.V_mono (Kd.V_far (p := ⟨gb529, 1, none⟩) (Kd.V_far (p := ⟨gb529, 0, none⟩) (Kd.V_mono HO_535000.out (fun k_ hk => (⟨hk, hk.2.2.2.2.1⟩ : _ ∧ k_ ≠ gb529))) (fun _ hk => hk.2) (.slice Ao56 t544.length co56)) (fun _ hk => hk.2) (.bool t547)) (fun _ hk => ⟨hk.1.1, ⟨hk.1.2.1, ⟨hk.1.2.2.1, ⟨hk.1.2.2.2.1, ⟨hk.1.2.2.2.2.1, hk.1.2.2.2.2.2⟩⟩⟩⟩⟩))⟩, ⟨by (with_reducible repeat (first | apply kb1 | apply kb2 | apply kb3 | refine kb4 ?_ NB526_529.out _)); exact BK526.out⟩, ⟨by (with_reducible repeat (first | apply kb1 | apply kb2 | apply kb3 | refine kb4 ?_ NB527_529.out _)); exact BK527.out⟩, ⟨by (with_reducible repeat (first | apply kb1 | apply kb2 | apply kb3 | refine kb4 ?_ NB528_529.out _)); exact BK528.out⟩, ⟨by (with_reducible repeat (first | apply kb1 | apply kb2 | apply kb3 | apply blkPut2_1 | apply blkPut2_0)); exact BK529.out⟩, ⟨by (with_reducible repeat (first | apply kb1 | apply kb2 | apply kb3 | refine kb4 ?_ NB534_529.out _)); exact BK534.out⟩, ⟨by repeat (first | (with_reducible first | exact HB.out | apply kc1 | apply kc2 | apply kc3 | refine kc4 ?_ GE526.out | refine kc4 ?_ GE527.out | refine kc4 ?_ GE528.out | refine kc4 ?_ GE529.out | refine kc4 ?_ GE534.out) | exact HB.out)⟩⟩
        ·rw [if_neg c48] at H
         have c48b0 : ((Go.bits .and .u64 (ji30) 1) == 1) = false := beq_eq_false_iff_ne.mpr c48
         have c48b1 : ((Go.bits .and .u64 (ji30) 1) != 1) = true := bne_iff_ne.mpr c48
         (first | rw [c48b0] | (simp only [i64_w, i32_w]; rw [c48b0]) | skip)
         have H' := ka H
         clear H
         go_wp2
         go_meet
         case rel => exact ⟨_, (t535), (t538), (.slice Ao43 t535.length co43), H', ⟨by have := HK1.out; first | omega | exact Nat.le_refl _⟩, ⟨kv (Kd.V_mono (Kd.V_far (p := ⟨gb529, 1, none⟩) (Kd.V_far (p := ⟨gb529, 0, none⟩) (Kd.V_mono HO_5.out (fun k_ hk => (⟨hk, hk.2.2.2.2.1⟩ : _ ∧ k_ ≠ gb529))) (fun _ hk => hk.2) (.slice Ao43 t535.length co43)) (fun _ hk => hk.2) (.bool t538)) (fun _ hk => ⟨hk.1.1, ⟨hk.1.2.1, ⟨hk.1.2.2.1, ⟨hk.1.2.2.2.1, ⟨hk.1.2.2.2.2.1, hk.1.2.2.2.2.2⟩⟩⟩⟩⟩))⟩, ⟨kv (Kd.V_mono (Kd.V_far (p := ⟨gb529, 1, none⟩) (Kd.V_far (p := ⟨gb529, 0, none⟩) (Kd.V_mono HO_528000.out (fun k_ hk => (⟨hk, hk.2.2.2.2.1⟩ : _ ∧ k_ ≠ gb529))) (fun _ hk => hk.2) (.slice Ao43 t535.length co43)) (fun _ hk => hk.2) (.bool t538)) (fun _ hk => ⟨hk.1.1, ⟨hk.1.2.1, ⟨hk.1.2.2.1, ⟨hk.1.2.2.2.1, ⟨hk.1.2.2.2.2.1, hk.1.2.2.2.2.2⟩⟩⟩⟩⟩))⟩, ⟨kv (Kd.V_mono (Kd.V_far (p := ⟨gb529, 1, none⟩) (Kd.V_far (p := ⟨gb529, 0, none⟩) (Kd.V_mono HO537.out (fun k_ hk => (⟨hk, hk.2.2.2.2.1⟩ : _ ∧ k_ ≠ gb529))) (fun _ hk => hk.2) (.slice Ao43 t535.length co43)) (fun _ hk => hk.2) (.bool t538)) (fun _ hk => ⟨hk.1.1, ⟨hk.1.2.1, ⟨hk.1.2.2.1, ⟨hk.1.2.2.2.1, ⟨hk.1.2.2.2.2.1, hk.1.2.2.2.2.2⟩⟩⟩⟩⟩))⟩, ⟨kv (Kd.V_mono (Kd.V_far (p := ⟨gb529, 1, none⟩) (Kd.V_far (p := ⟨gb529, 0, none⟩) (Kd.V_mono HO_535000.out (fun k_ hk => (⟨hk, hk.2.2.2.2.1⟩ : _ ∧ k_ ≠ gb529))) (fun _ hk => hk.2) (.slice Ao43 t535.length co43)) (fun _ hk => hk.2) (.bool t538)) (fun _ hk => ⟨hk.1.1, ⟨hk.1.2.1, ⟨hk.1.2.2.1, ⟨hk.1.2.2.2.1, ⟨hk.1.2.2.2.2.1, hk.1.2.2.2.2.2⟩⟩⟩⟩⟩))⟩, ⟨by (with_reducible repeat (first | apply kb1 | apply kb2 | apply kb3 | refine kb4 ?_ NB526_529.out _)); exact BK526.out⟩, ⟨by (with_reducible repeat (first | apply kb1 | apply kb2 | apply kb3 | refine kb4 ?_ NB527_529.out _)); exact BK527.out⟩, ⟨by (with_reducible repeat (first | apply kb1 | apply kb2 | apply kb3 | refine kb4 ?_ NB528_529.out _)); exact BK528.out⟩, ⟨by (with_reducible repeat (first | apply kb1 | apply kb2 | apply kb3 | apply blkPut2_1 | apply blkPut2_0)); exact BK529.out⟩, ⟨by (with_reducible repeat (first | apply kb1 | apply kb2 | apply kb3 | refine kb4 ?_ NB534_529.out _)); exact BK534.out⟩, ⟨by repeat (first | (with_reducible first | exact HB.out | apply kc1 | apply kc2 | apply kc3 | refine kc4 ?_ GE526.out | refine kc4 ?_ GE527.out | refine kc4 ?_ GE528.out | refine kc4 ?_ GE529.out | refine kc4 ?_ GE534.out) | exact HB.out)⟩⟩
       case rest =>
        clear HC31
        try clear c1
        try clear c2
        try clear p2
        try clear c3
        try clear c4
        try clear p5
        try clear q5
        try clear hx5
        try clear p6
        try clear c8
        try clear c9
        try clear c10
        try clear c15
        try clear c16
        try clear c17
        try clear c18
        try clear c20
        try clear c21
        try clear c22
        try clear c23
        try clear c23b0
        try clear c26
        try clear c26b0
        try clear c27
        try clear c27b0
        try clear c29
        try clear c29b0
        try clear c29b1
        try clear c32
        try clear c33
        try clear c34
        try clear c35
        try clear c37
        try clear c38
        try clear c39
        try clear c45
        try clear c46
        try clear c48
        try clear c48b0
        try clear c48b1
        try clear p53
        try clear q53
        try clear hx53
        try clear hcz11
        try clear hcz19
        try clear hcz22
        try clear hcz36
        try clear hcz40
        try clear hcz44
        try clear hcz47
        try clear hx539_0
        try clear p2
        try clear p539
        try clear p6
        try clear q539
        obtain ⟨kq, x530000_30, x530001_30, u530000, HA, HJ30, HO_5, HO_528000, HO_530000, HO_535000, BK526, BK527, BK528, BK529, BK534, HB⟩ := hcut
        cases kq with
        | zero => exact absurd HA.out (by simp [trivetref01_floor.j1])
        | succ kj30 =>
         have H := HA.out
         clear HA
         simp only [trivetref01_floor.j1] at H
         replace H := Option.bind_eq_some_iff.mp H
         obtain ⟨t548, A590, H⟩ := H
         replace H : ((trivetref01_norm.f kj30 t548 false).bind fun bt551 => ((trivetref01_Cmp.f kj30 x530000_30 x530001_30 l1_0 a1_1).bind fun t555 => (if t555 ≥ 0 then ((trivetref01_Neg.f kj30 l1_0 a1_1).bind fun bt556 => ((trivetref01_Add.f kj30 x530000_30 x530001_30 bt556.1 bt556.2).bind fun bt560 => ((trivetref01_plus.f kj30 bt551.1 (([1] : List Int))).bind fun t567 => (trivetref01_floor.l0 kj30 t567 (wrap64 (x8_1 - 1)) l0_0 a0_1 l1_0 a1_1 bt560.1 bt560.2 t530 t533)))) else (trivetref01_floor.l0 kj30 bt551.1 (wrap64 (x8_1 - 1)) l0_0 a0_1 l1_0 a1_1 x530000_30 x530001_30 t530 t533)))) = some (r1, r2) := H
         have A59 := ka A590
         clear A590
         replace H := Option.bind_eq_some_iff.mp H
         obtain ⟨⟨t551, t554⟩, A600, H⟩ := H
         replace H : ((trivetref01_Cmp.f kj30 x530000_30 x530001_30 l1_0 a1_1).bind fun t555 => (if t555 ≥ 0 then ((trivetref01_Neg.f kj30 l1_0 a1_1).bind fun bt556 => ((trivetref01_Add.f kj30 x530000_30 x530001_30 bt556.1 bt556.2).bind fun bt560 => ((trivetref01_plus.f kj30 t551 (([1] : List Int))).bind fun t567 => (trivetref01_floor.l0 kj30 t567 (wrap64 (x8_1 - 1)) l0_0 a0_1 l1_0 a1_1 bt560.1 bt560.2 t530 t533)))) else (trivetref01_floor.l0 kj30 t551 (wrap64 (x8_1 - 1)) l0_0 a0_1 l1_0 a1_1 x530000_30 x530001_30 t530 t533))) = some (r1, r2) := H
         have A60 := ka A600
         clear A600
         replace H := Option.bind_eq_some_iff.mp H
         obtain ⟨t555, A610, H⟩ := H
         replace H : (if t555 ≥ 0 then ((trivetref01_Neg.f kj30 l1_0 a1_1).bind fun bt556 => ((trivetref01_Add.f kj30 x530000_30 x530001_30 bt556.1 bt556.2).bind fun bt560 => ((trivetref01_plus.f kj30 t551 (([1] : List Int))).bind fun t567 => (trivetref01_floor.l0 kj30 t567 (wrap64 (x8_1 - 1)) l0_0 a0_1 l1_0 a1_1 bt560.1 bt560.2 t530 t533)))) else (trivetref01_floor.l0 kj30 t551 (wrap64 (x8_1 - 1)) l0_0 a0_1 l1_0 a1_1 x530000_30 x530001_30 t530 t533)) = some (r1, r2) := H
         have A61 := ka A610
         clear A610
         by_cases c62 : t555 ≥ 0
         ·rw [if_pos c62] at H
          have c62b0 : decide (0 ≤ t555) = true := decide_eq_true c62
          clear c62
          replace H := Option.bind_eq_some_iff.mp H
          obtain ⟨⟨t556, t559⟩, A630, H⟩ := H
          replace H : ((trivetref01_Add.f kj30 x530000_30 x530001_30 t556 t559).bind fun bt560 => ((trivetref01_plus.f kj30 t551 (([1] : List Int))).bind fun t567 => (trivetref01_floor.l0 kj30 t567 (wrap64 (x8_1 - 1)) l0_0 a0_1 l1_0 a1_1 bt560.1 bt560.2 t530 t533))) = some (r1, r2) := H
          have A63 := ka A630
          clear A630
          replace H := Option.bind_eq_some_iff.mp H
          obtain ⟨⟨t560, t563⟩, A640, H⟩ := H
          replace H : ((trivetref01_plus.f kj30 t551 (([1] : List Int))).bind fun t567 => (trivetref01_floor.l0 kj30 t567 (wrap64 (x8_1 - 1)) l0_0 a0_1 l1_0 a1_1 t560 t563 t530 t533)) = some (r1, r2) := H
          have A64 := ka A640
          clear A640
          obtain ⟨y564, hy564⟩ : ∃ y_ : List Int, y_ = (([1] : List Int)) := ⟨_, rfl⟩
          replace H : ((trivetref01_plus.f kj30 t551 y564).bind fun t567 => (trivetref01_floor.l0 kj30 t567 (wrap64 (x8_1 - 1)) l0_0 a0_1 l1_0 a1_1 t560 t563 t530 t533)) = some (r1, r2) := by first | (rw [hy564]; with_reducible exact H) | (have H2_ := (Option.bind_some _ _).symm.trans H; rw [hy564]; with_reducible exact H2_) | (have H2_ := (Option.bind_some _ _).symm.trans H; with_reducible exact H2_) | with_reducible exact H | (rw [hy564]; exact H) | exact H
          have Ny564 := ka hy564
          clear hy564
          replace H := Option.bind_eq_some_iff.mp H
          obtain ⟨t567, A650, H⟩ := H
          replace H : (trivetref01_floor.l0 kj30 t567 (wrap64 (x8_1 - 1)) l0_0 a0_1 l1_0 a1_1 t560 t563 t530 t533) = some (r1, r2) := H
          have A65 := ka A650
          clear A650
          have H' := ka H
          clear H
          obtain ⟨Ao66, co66, eo66⟩ := Kd.V_slice HO_5.out
          subst eo66
          try go_wp2_with (first | ((with_reducible refine gate_callee (f := 32) rfl ?_); refine kg (some 40) rfl rfl Try.func32 (by kernel_rfl) rfl #[.slice Ao66 x5_1.length co66, .slice Ao66 x5_1.length co66] rfl ?_; (with_reducible refine (trivetref01_plus.calls kj30 _ _ x5_1 _ _ x5_1 t548 _ ?side1 ?side2 ?side3 ?side4 A59.out).mono ?_); (case side1 => repeat (first | exact (Kd.V_reads' HO_5.out).2.2 | (with_reducible refine Kd.C_alloc ?_ _) | (with_reducible refine Kd.C_drewN ?_ _) | (with_reducible refine Kd.C_drew ?_))); (case side2 => exact (Kd.V_reads' HO_5.out).2.1); (case side3 => repeat (first | exact (Kd.V_reads' HO_5.out).2.2 | (with_reducible refine Kd.C_alloc ?_ _) | (with_reducible refine Kd.C_drewN ?_ _) | (with_reducible refine Kd.C_drew ?_))); (case side4 => exact (Kd.V_reads' HO_5.out).2.1); rintro e w67 ⟨v549, rfl, ho0, hb⟩; refine ⟨_, rfl, ?_⟩; replace HO_5 := ka (Kd.V_elder' (kv HO_5.out) (Kd.R_base ho0) hb); replace HO_528000 := ka (Kd.V_elder' (kv HO_528000.out) (Kd.R_base ho0) hb); replace HO_530000 := ka (Kd.V_elder' (kv HO_530000.out) (Kd.R_base ho0) hb); replace HO_535000 := ka (Kd.V_elder' (kv HO_535000.out) (Kd.R_base ho0) hb); have HO550 := ka (Kd.R_lower (Kd.R_newM (M := fun k_ => (w.heap.size ≤ k_)) ho0 (below_size (kw HB.out)) (fun k_ h_ => h_)) (below_size (kw HB.out))); replace BK526 := kbb BK526 hb; replace BK527 := kbb BK527 hb; replace BK528 := kbb BK528 hb; replace BK529 := kbb BK529 hb; replace BK534 := kbb BK534 hb; replace HB := ka (below_step (kw HB.out) hb); (try clear hb); (try clear hb2); (try clear hk); (try clear hi); (try clear ho0); obtain ⟨Ao68, co68, eo68⟩ := Kd.R_slice HO550.out; subst eo68) | ((with_reducible refine gate_callee (f := 31) rfl ?_); refine kg (some 41) rfl rfl Try.func31 (by kernel_rfl) rfl #[.slice Ao68 t548.length co68, .bool false] rfl ?_; (with_reducible refine (trivetref01_norm.calls kj30 (fun k_ => some k_ = (.slice Ao68 t548.length co68 : Value).ownBlock) _ _ t548 false t551 t554 _ ?side1 A60.out).mono ?_); (case side1 => exact Kd.R_V (Kd.R_tight rfl (Kd.R_types (Kd.R_types (Kd.R_types (Kd.R_types (Kd.R_types (HO550.out) BK526.out (by decide)) BK527.out (by decide)) BK528.out (by decide)) BK529.out (by decide)) BK534.out (by decide)))); rintro e w69 ⟨v552, rfl, ho0, hb⟩; refine ⟨_, rfl, ?_⟩; replace HO_5 := kvb HO_5 hb; replace HO_528000 := kvb HO_528000 hb; replace HO_530000 := kvb HO_530000 hb; replace HO_535000 := kvb HO_535000 hb; have HO553 := ka (Kd.V_lower (Kd.V_mono (ok' := fun k_ => (P1_0_ k_ ∨ w.heap.size ≤ k_) ∧ k_ ≠ gb526 ∧ k_ ≠ gb527 ∧ k_ ≠ gb528 ∧ k_ ≠ gb529 ∧ k_ ≠ gb534) ho0 (fun k_ hk_ => ⟨Or.elim hk_ (fun hs_ => (.inr (((Kd.R_types (Kd.R_types (Kd.R_types (Kd.R_types (Kd.R_types (HO550.out) BK526.out (by decide)) BK527.out (by decide)) BK528.out (by decide)) BK529.out (by decide)) BK534.out (by decide)).1 k_ hs_.symm).1.1.1.1.1.1))) (fun hn_ => (.inr (Nat.le_trans (below_size (kw HB.out)) hn_))), Or.elim hk_ (fun hs_ => ((Kd.R_types (Kd.R_types (Kd.R_types (Kd.R_types (Kd.R_types (HO550.out) BK526.out (by decide)) BK527.out (by decide)) BK528.out (by decide)) BK529.out (by decide)) BK534.out (by decide)).1 k_ hs_.symm).1.1.1.1.2) (fun hn_ => (kf BK526 hn_)), Or.elim hk_ (fun hs_ => ((Kd.R_types (Kd.R_types (Kd.R_types (Kd.R_types (Kd.R_types (HO550.out) BK526.out (by decide)) BK527.out (by decide)) BK528.out (by decide)) BK529.out (by decide)) BK534.out (by decide)).1 k_ hs_.symm).1.1.1.2) (fun hn_ => (kf BK527 hn_)), Or.elim hk_ (fun hs_ => ((Kd.R_types (Kd.R_types (Kd.R_types (Kd.R_types (Kd.R_types (HO550.out) BK526.out (by decide)) BK527.out (by decide)) BK528.out (by decide)) BK529.out (by decide)) BK534.out (by decide)).1 k_ hs_.symm).1.1.2) (fun hn_ => (kf BK528 hn_)), Or.elim hk_ (fun hs_ => ((Kd.R_types (Kd.R_types (Kd.R_types (Kd.R_types (Kd.R_types (HO550.out) BK526.out (by decide)) BK527.out (by decide)) BK528.out (by decide)) BK529.out (by decide)) BK534.out (by decide)).1 k_ hs_.symm).1.2) (fun hn_ => (kf BK529 hn_)), Or.elim hk_ (fun hs_ => ((Kd.R_types (Kd.R_types (Kd.R_types (Kd.R_types (Kd.R_types (HO550.out) BK526.out (by decide)) BK527.out (by decide)) BK528.out (by decide)) BK529.out (by decide)) BK534.out (by decide)).1 k_ hs_.symm).2) (fun hn_ => (kf BK534 hn_))⟩)) (below_size (kw HB.out))); replace HO550 := ka (Kd.R_below (kr HO550.out) hb); replace BK526 := kbb BK526 hb; replace BK527 := kbb BK527 hb; replace BK528 := kbb BK528 hb; replace BK529 := kbb BK529 hb; replace BK534 := kbb BK534 hb; replace HB := ka (below_step (kw HB.out) hb); (try clear hb); (try clear hb2); (try clear hk); (try clear hi); (try clear ho0); have hnb70 := NB529_526.out; have hnc70 := NB526_529.out; have hnb71 := NB529_527.out; have hnc71 := NB527_529.out; have hnb72 := NB529_528.out; have hnc72 := NB528_529.out; have hnb73 := NB529_534.out; have hnc73 := NB534_529.out; have hcz74 := blkAll2 BK529.out; have hnb75 := NB527_526.out; have hnc75 := NB526_527.out; have hnb76 := NB527_528.out; have hnc76 := NB528_527.out; have hnb77 := NB527_534.out; have hnc77 := NB534_527.out; have hcz78 := blkAll2 BK527.out; obtain ⟨Ao79, co79, eo79⟩ := Kd.V_slice HO_530000.out; subst eo79) | ((with_reducible refine gate_callee (f := 38) rfl ?_); refine kg (some 45) rfl rfl Try.func38 (by kernel_rfl) rfl #[.agg #[.slice Ao79 x530000_30.length co79, .bool x530001_30], .agg #[.slice A1_0 l1_0.length c1_0, .bool a1_1]] rfl ?_; (with_reducible refine (trivetref01_Cmp.calls kj30 _ _ x530000_30 x530001_30 _ _ l1_0 a1_1 t555 _ ?side1 ?side2 ?side3 ?side4 A61.out).mono ?_); (case side1 => repeat (first | exact (Kd.V_reads' HO_530000.out).2.2 | (with_reducible refine Kd.C_alloc ?_ _) | (with_reducible refine Kd.C_drewN ?_ _) | (with_reducible refine Kd.C_drew ?_))); (case side2 => exact (Kd.V_reads' HO_530000.out).2.1); (case side3 => repeat (first | exact (Kd.V_reads' HO_528000.out).2.2 | (with_reducible refine Kd.C_alloc ?_ _) | (with_reducible refine Kd.C_drewN ?_ _) | (with_reducible refine Kd.C_drew ?_))); (case side4 => exact (Kd.V_reads' HO_528000.out).2.1); rintro e w80 ⟨rfl, hb⟩; refine ⟨_, rfl, ?_⟩; replace HO_5 := kvb HO_5 hb; replace HO_528000 := kvb HO_528000 hb; replace HO_530000 := kvb HO_530000 hb; replace HO_535000 := kvb HO_535000 hb; replace HO550 := ka (Kd.R_below (kr HO550.out) hb); replace HO553 := kvb HO553 hb; replace BK526 := kbb BK526 hb; replace BK527 := kbb BK527 hb; replace BK528 := kbb BK528 hb; replace BK529 := kbb BK529 hb; replace BK534 := kbb BK534 hb; replace HB := ka (below_step (kw HB.out) hb); (try clear hb); (try clear hb2); (try clear hk); (try clear hi)))
          replace HO_5 := ka (Kd.V_drew HO_5.out)
          replace HO_528000 := ka (Kd.V_drew HO_528000.out)
          replace HO_530000 := ka (Kd.V_drew HO_530000.out)
          replace HO_535000 := ka (Kd.V_drew HO_535000.out)
          replace HO550 := ka (Kd.R_drew HO550.out)
          replace HO553 := ka (Kd.V_drew HO553.out)
          replace BK526 := ka (blk_drew BK526.out)
          replace BK527 := ka (blk_drew BK527.out)
          replace BK528 := ka (blk_drew BK528.out)
          replace BK529 := ka (blk_drew BK529.out)
          replace BK534 := ka (blk_drew BK534.out)
          replace HB := ka (below_drew1 HB.out)
          refine start_ (n := 5) (S := fun w' => w'.cell? ⟨gb529, 0, none⟩ = some (.slice Ao79 x530000_30.length co79) ∧ w'.cell? ⟨gb529, 1, none⟩ = some (.bool x530001_30) ∧ w'.cell? ⟨gb527, 0, none⟩ = some (.slice A1_0 l1_0.length c1_0) ∧ w'.cell? ⟨gb527, 1, none⟩ = some (.bool a1_1)) (ds := [4]) #[false, false, false, false, false] (by kernel_rfl) rfl rfl ⟨(blk_cell BK529.out 0).trans rfl, (blk_cell BK529.out 1).trans rfl, (blk_cell BK527.out 0).trans rfl, (blk_cell BK527.out 1).trans rfl⟩ (fun hHeld => ?_)
          generalize w80.drew = w81 at HO_5 HO_528000 HO_530000 HO_535000 HO550 HO553 BK526 BK527 BK528 BK529 BK534 HB hHeld ⊢
          refine take_ (i := 0) (N := some 47) (v := ?_) (a' := ?_) #[true, false, false, false, false] rfl rfl (by kernel_rfl) (fun _ _ _ h => h) (Or.inl ⟨by rfl, ?_⟩) hHeld ?_ ?_
          rotate_left
          ·rintro w' ⟨s0, s1, s2, s3⟩
           go_simp
           with_reducible rfl
          rotate_left
          ·simp only [Act.put, List.setIfInBounds_toArray, List.set_cons_zero, List.set_cons_succ, i64_w, i32_w]
           rfl
          refine take_ (i := 1) (N := some 48) (v := ?_) (a' := ?_) #[true, true, false, false, false] rfl rfl (by kernel_rfl) (fun _ _ _ h => h) (Or.inl ⟨by rfl, ?_⟩) hHeld ?_ ?_
          rotate_left
          ·rintro w' ⟨s0, s1, s2, s3⟩
           go_simp
           with_reducible rfl
          rotate_left
          ·simp only [Act.put, List.setIfInBounds_toArray, List.set_cons_zero, List.set_cons_succ, i64_w, i32_w]
           rfl
          refine one_ (i := 2) (N := some 49) #[true, true, true, false, false] rfl rfl (by kernel_rfl) (by decide) (fun K hK => ?_)
          refine goes_ Try.func21 (by kernel_rfl) rfl #[.agg #[.slice A1_0 l1_0.length c1_0, .bool a1_1]] (by rfl) rfl rfl (by (try simp only [List.map_toArray, List.map_cons, List.map_nil]); first | done | rfl | (simp only [List.length_drop, List.length_take]; rfl)) ?_
          with_reducible refine (trivetref01_Neg.calls kj30 (fun k_ => (((P1_0_ k_ ∨ w.heap.size ≤ k_) ∧ (k_ ≠ gb526 ∧ (k_ ≠ gb527 ∧ (k_ ≠ gb528 ∧ (k_ ≠ gb529 ∧ k_ ≠ gb534))))) ∧ some k_ ≠ (.slice Ao68 t548.length co68 : Value).ownBlock)) _ _ l1_0 a1_1 t556 t559 _ ?side1 A63.out).mono ?_
          (case side1 => exact HO_528000.out)
          rintro e w82 ⟨v557, rfl, ho0, hb⟩
          refine ⟨_, rfl, ?_⟩
          replace HO_5 := kvb HO_5 hb
          replace HO_528000 := kvb HO_528000 hb
          replace HO_530000 := kvb HO_530000 hb
          replace HO_535000 := kvb HO_535000 hb
          replace HO553 := kvb HO553 hb
          have HO558 := ka (Kd.V_lower (Kd.V_mono (ok' := fun k_ => (P1_0_ k_ ∨ w.heap.size ≤ k_) ∧ some k_ ≠ (.slice Ao68 t548.length co68 : Value).ownBlock ∧ k_ ≠ gb526 ∧ k_ ≠ gb527 ∧ k_ ≠ gb528 ∧ k_ ≠ gb529 ∧ k_ ≠ gb534) ho0 (fun k_ hk_ => ⟨Or.elim hk_ (fun hs_ => hs_.1.1) (fun hn_ => (.inr (Nat.le_trans (below_size (kw HB.out)) hn_))), Or.elim hk_ (fun hs_ => hs_.2) (fun hn_ => (Kd.fresh' (Kd.R_lt (kr HO550.out)) k_ hn_)), Or.elim hk_ (fun hs_ => hs_.1.2.1) (fun hn_ => (kf BK526 hn_)), Or.elim hk_ (fun hs_ => hs_.1.2.2.1) (fun hn_ => (kf BK527 hn_)), Or.elim hk_ (fun hs_ => hs_.1.2.2.2.1) (fun hn_ => (kf BK528 hn_)), Or.elim hk_ (fun hs_ => hs_.1.2.2.2.2.1) (fun hn_ => (kf BK529 hn_)), Or.elim hk_ (fun hs_ => hs_.1.2.2.2.2.2) (fun hn_ => (kf BK534 hn_))⟩)) (below_size (kw HB.out)))
          replace HO550 := ka (Kd.R_below (kr HO550.out) hb)
          replace BK526 := kbb BK526 hb
          replace BK527 := kbb BK527 hb
          replace BK528 := kbb BK528 hb
          replace BK529 := kbb BK529 hb
          replace BK534 := kbb BK534 hb
          replace HB := ka (below_step (kw HB.out) hb)
          (try clear hb)
          (try clear hb2)
          (try clear hk)
          (try clear hi)
          (try clear ho0)
          obtain ⟨Ao83, co83, eo83⟩ := Kd.V_slice HO558.out
          (first | subst eo83 | (injection eo83 with f1_ f2_ f3_; have f4_ := f1_.symm; have f5_ := f3_.symm; clear f1_ f2_ f3_; subst f4_; subst f5_))
          refine hK.out _ _ ⟨(blk_cell BK529.out 0).trans rfl, (blk_cell BK529.out 1).trans rfl, (blk_cell BK527.out 0).trans rfl, (blk_cell BK527.out 1).trans rfl⟩ (fun hHeld => ?_)
          clear hK K
          refine norm_ (a' := ?_) ?_ ?_
          rotate_left
          ·show Act.put _ (some 49) _ = _
           simp only [Act.put, List.setIfInBounds_toArray, List.set_cons_zero, List.set_cons_succ, i64_w, i32_w]
           rfl
          refine one_ (i := 3) (N := some 50) #[true, true, true, true, false] rfl rfl (by kernel_rfl) (by decide) (fun K hK => ?_)
          refine goes_ Try.func20 (by kernel_rfl) rfl #[.agg #[.slice Ao79 x530000_30.length co79, .bool x530001_30], .agg #[.slice Ao83 t556.length co83, .bool t559]] (by rfl) rfl rfl (by (try simp only [List.map_toArray, List.map_cons, List.map_nil]); first | done | rfl | (simp only [List.length_drop, List.length_take]; rfl)) ?_
          with_reducible refine (trivetref01_Add.calls kj30 _ _ x530000_30 x530001_30 _ _ t556 t559 t560 t563 _ ?side1 ?side2 ?side3 ?side4 A64.out).mono ?_
          (case side1 => repeat (first | exact (Kd.V_reads' HO_530000.out).2.2 | (with_reducible refine Kd.C_alloc ?_ _) | (with_reducible refine Kd.C_drewN ?_ _) | (with_reducible refine Kd.C_drew ?_)))
          (case side2 => exact (Kd.V_reads' HO_530000.out).2.1)
          (case side3 => repeat (first | exact (Kd.V_reads' HO558.out).2.2 | (with_reducible refine Kd.C_alloc ?_ _) | (with_reducible refine Kd.C_drewN ?_ _) | (with_reducible refine Kd.C_drew ?_)))
          (case side4 => exact (Kd.V_reads' HO558.out).2.1)
          rintro e w84 ⟨v561, rfl, ho0, hb⟩
          refine ⟨_, rfl, ?_⟩
          replace HO_5 := kvb HO_5 hb
          replace HO_528000 := kvb HO_528000 hb
          replace HO_530000 := kvb HO_530000 hb
          replace HO_535000 := kvb HO_535000 hb
          replace HO553 := kvb HO553 hb
          replace HO558 := kvb HO558 hb
          have HO562 := ka (Kd.V_lower (Kd.V_mono (ok' := fun k_ => (P1_0_ k_ ∨ w.heap.size ≤ k_) ∧ some k_ ≠ (.slice Ao68 t548.length co68 : Value).ownBlock ∧ k_ ≠ gb526 ∧ k_ ≠ gb527 ∧ k_ ≠ gb528 ∧ k_ ≠ gb529 ∧ k_ ≠ gb534) ho0 (fun k_ hk_ => ⟨(.inr (Nat.le_trans (below_size (kw HB.out)) hk_)), (Kd.fresh' (Kd.R_lt (kr HO550.out)) k_ hk_), (kf BK526 hk_), (kf BK527 hk_), (kf BK528 hk_), (kf BK529 hk_), (kf BK534 hk_)⟩)) (below_size (kw HB.out)))
          replace HO550 := ka (Kd.R_below (kr HO550.out) hb)
          replace BK526 := kbb BK526 hb
          replace BK527 := kbb BK527 hb
          replace BK528 := kbb BK528 hb
          replace BK529 := kbb BK529 hb
          replace BK534 := kbb BK534 hb
          replace HB := ka (below_step (kw HB.out) hb)
          (try clear hb)
          (try clear hb2)
          (try clear hk)
          (try clear hi)
          (try clear ho0)
          obtain ⟨Ao85, co85, eo85⟩ := Kd.V_slice HO562.out
          (first | subst eo85 | (injection eo85 with f1_ f2_ f3_; have f4_ := f1_.symm; have f5_ := f3_.symm; clear f1_ f2_ f3_; subst f4_; subst f5_))
          refine hK.out _ _ ⟨(blk_cell BK529.out 0).trans rfl, (blk_cell BK529.out 1).trans rfl, (blk_cell BK527.out 0).trans rfl, (blk_cell BK527.out 1).trans rfl⟩ (fun hHeld => ?_)
          clear hK K
          refine norm_ (a' := ?_) ?_ ?_
          rotate_left
          ·show Act.put _ (some 50) _ = _
           simp only [Act.put, List.setIfInBounds_toArray, List.set_cons_zero, List.set_cons_succ, i64_w, i32_w]
           rfl
          refine last_ (i := 4) (N := none) #[true, true, true, true, true] rfl rfl (by kernel_rfl) (by decide) (fun K hK => ?_)
          have hs86 : w84.cell? ⟨gb529, 0, none⟩ = some (.slice Ao79 x530000_30.length co79) := (blk_cell BK529.out 0).trans rfl
          have hfs86 := blk_frozen BK529.out 0
          have hns86_0 := NB526_529.out
          have hns86_1 := NB527_529.out
          have hns86_2 := NB528_529.out
          have hns86_4 := NB534_529.out
          have hms86_0 := NB529_526.out
          have hms86_1 := NB529_527.out
          have hms86_2 := NB529_528.out
          have hms86_4 := NB529_534.out
          have hs87 : w84.cell? ⟨gb529, 1, none⟩ = some (.bool x530001_30) := (blk_cell BK529.out 1).trans rfl
          have hfs87 := blk_frozen BK529.out 1
          have hns87_0 := NB526_529.out
          have hns87_1 := NB527_529.out
          have hns87_2 := NB528_529.out
          have hns87_4 := NB534_529.out
          have hms87_0 := NB529_526.out
          have hms87_1 := NB529_527.out
          have hms87_2 := NB529_528.out
          have hms87_4 := NB529_534.out
          refine skip_ (w1 := ?_) (by rfl) rfl ?_ ?_
          rotate_left
          ·go_simp
           rfl
          refine hK.out _ _ ?_
          clear hK K
          refine done_ (by kernel_rfl) ?_
          try go_wp2_with (first | ((with_reducible refine gate_dst (N := 52) rfl ?_); (try (refine gate_guard (by rfl) ?_; dsimp only)); refine Kd.R_lit (Kd.int .u64) _ 46 ?hg (N := 52) ?hd (xs := ([1] : List Int)) (inner := [.int .u64 1]) (ok := fun _ => True) (okp := fun _ => True) ?hr ?hp (fun _ hk => hk) trivial (Below.refl _ _) (Nat.le_refl _) (by simp) ?_; (case hd => rfl); (case hg => rfl); (case hr => first | (go_simp; done) | (go_simp; rfl)); (case hp => exact (Reps.one (show Kd.M (Kd.int .u64) _ _ _ 1 [.int .u64 1] from rfl) (Reps.none _ _))); intro v565 w88 ho89 hb hg_ hnew_; clear hg_ hnew_; (first | rw [← Ny564.out] at ho89 | (simp only [Int.reduceToNat] at ho89; rw [← Ny564.out] at ho89)); replace HO_5 := ka (Kd.V_elder' (kv ((Kd.V_mono (Kd.V_far (p := ⟨gb529, 1, none⟩) (Kd.V_far (p := ⟨gb529, 0, none⟩) (Kd.V_mono HO_5.out (fun k_ hk => (⟨hk, hk.1.2.2.2.2.1⟩ : _ ∧ k_ ≠ gb529))) (fun _ hk => hk.2) (.slice Ao85 t560.length co85)) (fun _ hk => hk.2) (.bool t563)) (fun _ h_ => h_.1)))) (Kd.R_base ho89) hb); replace HO_528000 := ka (Kd.V_elder' (kv ((Kd.V_mono (Kd.V_far (p := ⟨gb529, 1, none⟩) (Kd.V_far (p := ⟨gb529, 0, none⟩) (Kd.V_mono HO_528000.out (fun k_ hk => (⟨hk, hk.1.2.2.2.2.1⟩ : _ ∧ k_ ≠ gb529))) (fun _ hk => hk.2) (.slice Ao85 t560.length co85)) (fun _ hk => hk.2) (.bool t563)) (fun _ h_ => h_.1)))) (Kd.R_base ho89) hb); replace HO_530000 := ka (Kd.V_elder' (kv ((Kd.V_mono (Kd.V_far (p := ⟨gb529, 1, none⟩) (Kd.V_far (p := ⟨gb529, 0, none⟩) (Kd.V_mono HO_530000.out (fun k_ hk => (⟨hk, hk.1.2.2.2.2.1⟩ : _ ∧ k_ ≠ gb529))) (fun _ hk => hk.2) (.slice Ao85 t560.length co85)) (fun _ hk => hk.2) (.bool t563)) (fun _ h_ => h_.1)))) (Kd.R_base ho89) hb); replace HO_535000 := ka (Kd.V_elder' (kv ((Kd.V_mono (Kd.V_far (p := ⟨gb529, 1, none⟩) (Kd.V_far (p := ⟨gb529, 0, none⟩) (Kd.V_mono HO_535000.out (fun k_ hk => (⟨hk, hk.1.2.2.2.2.1⟩ : _ ∧ k_ ≠ gb529))) (fun _ hk => hk.2) (.slice Ao85 t560.length co85)) (fun _ hk => hk.2) (.bool t563)) (fun _ h_ => h_.1)))) (Kd.R_base ho89) hb); replace HO553 := ka (Kd.V_elder' (kv ((Kd.V_mono (Kd.V_far (p := ⟨gb529, 1, none⟩) (Kd.V_far (p := ⟨gb529, 0, none⟩) (Kd.V_mono HO553.out (fun k_ hk => (⟨hk, hk.2.2.2.2.1⟩ : _ ∧ k_ ≠ gb529))) (fun _ hk => hk.2) (.slice Ao85 t560.length co85)) (fun _ hk => hk.2) (.bool t563)) (fun _ h_ => h_.1)))) (Kd.R_base ho89) hb); replace HO558 := ka (Kd.V_elder' (kv ((Kd.V_mono (Kd.V_far (p := ⟨gb529, 1, none⟩) (Kd.V_far (p := ⟨gb529, 0, none⟩) (Kd.V_mono HO558.out (fun k_ hk => (⟨hk, hk.2.2.2.2.2.1⟩ : _ ∧ k_ ≠ gb529))) (fun _ hk => hk.2) (.slice Ao85 t560.length co85)) (fun _ hk => hk.2) (.bool t563)) (fun _ h_ => h_.1)))) (Kd.R_base ho89) hb); replace HO562 := ka (Kd.V_elder' (kv ((Kd.V_mono (Kd.V_far (p := ⟨gb529, 1, none⟩) (Kd.V_far (p := ⟨gb529, 0, none⟩) (Kd.V_mono HO562.out (fun k_ hk => (⟨hk, hk.2.2.2.2.2.1⟩ : _ ∧ k_ ≠ gb529))) (fun _ hk => hk.2) (.slice Ao85 t560.length co85)) (fun _ hk => hk.2) (.bool t563)) (fun _ h_ => h_.1)))) (Kd.R_base ho89) hb); have HO566 := ka (Kd.R_lower (Kd.R_new' (Kd.R_newM (M := fun k_ => (w.heap.size ≤ k_)) ho89 (below_size (kw HB.out)) (fun k_ h_ => h_)) (Kd.R_lt (kr ((Kd.R_mono (Kd.R_far (p := ⟨gb529, 1, none⟩) (Kd.R_far (p := ⟨gb529, 0, none⟩) (Kd.R_types HO550.out BK529.out (by decide)) (fun _ hk => hk.2) (.slice Ao85 t560.length co85)) (fun _ hk => hk.2) (.bool t563)) (fun _ h_ => h_.1)))))) (below_size (kw HB.out))); replace HO550 := ka (Kd.R_elder' (kr ((Kd.R_mono (Kd.R_far (p := ⟨gb529, 1, none⟩) (Kd.R_far (p := ⟨gb529, 0, none⟩) (Kd.R_types HO550.out BK529.out (by decide)) (fun _ hk => hk.2) (.slice Ao85 t560.length co85)) (fun _ hk => hk.2) (.bool t563)) (fun _ h_ => h_.1)))) (Kd.R_base ho89) hb); replace BK526 := ka (blk_below (g := gb526) (o := .cells #[.slice (some ad539) l0_0.length c0_0, .bool a0_1] 37 (0, 0)) (by (with_reducible repeat (first | apply kb1 | apply kb2 | apply kb3 | refine kb4 ?_ NB526_529.out _)); exact BK526.out) hb); replace BK527 := ka (blk_below (g := gb527) (o := .cells #[.slice A1_0 l1_0.length c1_0, .bool a1_1] 37 (0, 0)) (by (with_reducible repeat (first | apply kb1 | apply kb2 | apply kb3 | refine kb4 ?_ NB527_529.out _)); exact BK527.out) hb); replace BK528 := ka (blk_below (g := gb528) (o := .cells #[.slice none 0 0, .bool false] 37 (0, 0)) (by (with_reducible repeat (first | apply kb1 | apply kb2 | apply kb3 | refine kb4 ?_ NB528_529.out _)); exact BK528.out) hb); replace BK529 := ka (blk_below (g := gb529) (o := .cells #[.slice Ao85 t560.length co85, .bool t563] 37 (0, 0)) (by (with_reducible repeat (first | apply kb1 | apply kb2 | apply kb3 | apply blkPut2_1 | apply blkPut2_0)); exact BK529.out) hb); replace BK534 := ka (blk_below (g := gb534) (o := .cells #[.slice Ao14 t530.length co14, .bool t533] 37 (0, 0)) (by (with_reducible repeat (first | apply kb1 | apply kb2 | apply kb3 | refine kb4 ?_ NB534_529.out _)); exact BK534.out) hb); replace HB := ka (below_step (kw HB.out) hb); clear hb ho89; obtain ⟨Ao90, co90, eo90⟩ := Kd.V_slice HO553.out; subst eo90; obtain ⟨Ao91, co91, eo91⟩ := Kd.R_slice HO566.out; subst eo91) | ((with_reducible refine gate_callee (f := 32) rfl ?_); refine kg (some 53) rfl rfl Try.func32 (by kernel_rfl) rfl #[.slice Ao90 t551.length co90, .slice Ao91 y564.length co91] rfl ?_; (with_reducible refine (trivetref01_plus.calls kj30 _ _ t551 _ _ y564 t567 _ ?side1 ?side2 ?side3 ?side4 A65.out).mono ?_); (case side1 => repeat (first | exact (Kd.V_reads' HO553.out).2.2 | (with_reducible refine Kd.C_alloc ?_ _) | (with_reducible refine Kd.C_drewN ?_ _) | (with_reducible refine Kd.C_drew ?_))); (case side2 => exact (Kd.V_reads' HO553.out).2.1); (case side3 => repeat (first | exact (Kd.R_reads' HO566.out).2.2 | (with_reducible refine Kd.C_alloc ?_ _) | (with_reducible refine Kd.C_drewN ?_ _) | (with_reducible refine Kd.C_drew ?_))); (case side4 => exact (Kd.R_reads' HO566.out).2.1); rintro e w92 ⟨v568, rfl, ho0, hb⟩; refine ⟨_, rfl, ?_⟩; replace HO_5 := ka (Kd.V_elder' (kv HO_5.out) (Kd.R_base ho0) hb); replace HO_528000 := ka (Kd.V_elder' (kv HO_528000.out) (Kd.R_base ho0) hb); replace HO_530000 := ka (Kd.V_elder' (kv HO_530000.out) (Kd.R_base ho0) hb); replace HO_535000 := ka (Kd.V_elder' (kv HO_535000.out) (Kd.R_base ho0) hb); replace HO553 := ka (Kd.V_elder' (kv HO553.out) (Kd.R_base ho0) hb); replace HO558 := ka (Kd.V_elder' (kv HO558.out) (Kd.R_base ho0) hb); replace HO562 := ka (Kd.V_elder' (kv HO562.out) (Kd.R_base ho0) hb); have HO569 := ka (Kd.R_lower (Kd.R_new' (Kd.R_new' (Kd.R_newM (M := fun k_ => (w.heap.size ≤ k_)) ho0 (below_size (kw HB.out)) (fun k_ h_ => h_)) (Kd.R_lt (kr HO550.out))) (Kd.R_lt (kr HO566.out))) (below_size (kw HB.out))); replace HO550 := ka (Kd.R_elder' (kr HO550.out) (Kd.R_base ho0) hb); replace HO566 := ka (Kd.R_elder' (kr HO566.out) (Kd.R_base ho0) hb); replace BK526 := kbb BK526 hb; replace BK527 := kbb BK527 hb; replace BK528 := kbb BK528 hb; replace BK529 := kbb BK529 hb; replace BK534 := kbb BK534 hb; replace HB := ka (below_step (kw HB.out) hb); (try clear hb); (try clear hb2); (try clear hk); (try clear hi); (try clear ho0)))
          go_roundg kj30
          case measure => have := HK1.out; have := HJ30.out; omega
          case rel => exact ⟨(t567), (wrap64 (x8_1 - 1)), (t560), (t563), (.slice Ao85 t560.length co85), (by first | rfl | (simp; done) | (simp [*]; done)), H', ⟨by have := HK1.out; have := HJ30.out; omega⟩, ⟨(by (first | refine vMine ?_ | refine vMine0 ?_); exact Kd.R_V (kr (Kd.R_mono (Kd.R_types (Kd.R_types (Kd.R_types (Kd.R_types (Kd.R_types HO569.out BK526.out (by decide)) BK527.out (by decide)) BK528.out (by decide)) BK529.out (by decide)) BK534.out (by decide)) (fun _ hk => ⟨hk.1.1.1.1.1.1.1.1, ⟨hk.1.1.1.1.2, ⟨hk.1.1.1.2, ⟨hk.1.1.2, ⟨hk.1.2, hk.2⟩⟩⟩⟩⟩))))⟩, ⟨kv (Kd.V_mono HO_528000.out (fun _ hk => ⟨hk.1.1.1.1, ⟨hk.1.1.1.2.1, ⟨hk.1.1.1.2.2.1, ⟨hk.1.1.1.2.2.2.1, ⟨hk.1.1.1.2.2.2.2.1, hk.1.1.1.2.2.2.2.2⟩⟩⟩⟩⟩))⟩, ⟨kv (Kd.V_mono HO562.out (fun _ hk => ⟨hk.1.1.1, ⟨hk.1.1.2.2.1, ⟨hk.1.1.2.2.2.1, ⟨hk.1.1.2.2.2.2.1, ⟨hk.1.1.2.2.2.2.2.1, hk.1.1.2.2.2.2.2.2⟩⟩⟩⟩⟩))⟩, ⟨kv (Kd.V_mono HO_535000.out (fun _ hk => ⟨hk.1.1.1.1, ⟨hk.1.1.1.2.1, ⟨hk.1.1.1.2.2.1, ⟨hk.1.1.1.2.2.2.1, ⟨hk.1.1.1.2.2.2.2.1, hk.1.1.1.2.2.2.2.2⟩⟩⟩⟩⟩))⟩, ⟨by (with_reducible repeat (first | apply kb1 | apply kb2 | apply kb3)); exact BK526.out⟩, ⟨by (with_reducible repeat (first | apply kb1 | apply kb2 | apply kb3)); exact BK527.out⟩, ⟨by (with_reducible repeat (first | apply kb1 | apply kb2 | apply kb3)); exact BK528.out⟩, ⟨by (with_reducible repeat (first | apply kb1 | apply kb2 | apply kb3)); exact BK529.out⟩, ⟨by (with_reducible repeat (first | apply kb1 | apply kb2 | apply kb3)); exact BK534.out⟩, ⟨by repeat (first | (with_reducible first | exact HB.out | apply kc1 | apply kc2 | apply kc3 | refine kc4 ?_ GE526.out | refine kc4 ?_ GE527.out | refine kc4 ?_ GE528.out | refine kc4 ?_ GE529.out | refine kc4 ?_ GE534.out) | exact HB.out)⟩⟩
         ·rw [if_neg c62] at H
          have c62b0 : decide (0 ≤ t555) = false := decide_eq_false c62
          clear c62
          have H' := ka H
          clear H
          obtain ⟨Ao93, co93, eo93⟩ := Kd.V_slice HO_5.out
          subst eo93
          go_wp2_with (first | ((with_reducible refine gate_callee (f := 32) rfl ?_); refine kg (some 40) rfl rfl Try.func32 (by kernel_rfl) rfl #[.slice Ao93 x5_1.length co93, .slice Ao93 x5_1.length co93] rfl ?_; (with_reducible refine (trivetref01_plus.calls kj30 _ _ x5_1 _ _ x5_1 t548 _ ?side1 ?side2 ?side3 ?side4 A59.out).mono ?_); (case side1 => repeat (first | exact (Kd.V_reads' HO_5.out).2.2 | (with_reducible refine Kd.C_alloc ?_ _) | (with_reducible refine Kd.C_drewN ?_ _) | (with_reducible refine Kd.C_drew ?_))); (case side2 => exact (Kd.V_reads' HO_5.out).2.1); (case side3 => repeat (first | exact (Kd.V_reads' HO_5.out).2.2 | (with_reducible refine Kd.C_alloc ?_ _) | (with_reducible refine Kd.C_drewN ?_ _) | (with_reducible refine Kd.C_drew ?_))); (case side4 => exact (Kd.V_reads' HO_5.out).2.1); rintro e w94 ⟨v549, rfl, ho0, hb⟩; refine ⟨_, rfl, ?_⟩; replace HO_5 := ka (Kd.V_elder' (kv HO_5.out) (Kd.R_base ho0) hb); replace HO_528000 := ka (Kd.V_elder' (kv HO_528000.out) (Kd.R_base ho0) hb); replace HO_530000 := ka (Kd.V_elder' (kv HO_530000.out) (Kd.R_base ho0) hb); replace HO_535000 := ka (Kd.V_elder' (kv HO_535000.out) (Kd.R_base ho0) hb); have HO550 := ka (Kd.R_lower (Kd.R_newM (M := fun k_ => (w.heap.size ≤ k_)) ho0 (below_size (kw HB.out)) (fun k_ h_ => h_)) (below_size (kw HB.out))); replace BK526 := kbb BK526 hb; replace BK527 := kbb BK527 hb; replace BK528 := kbb BK528 hb; replace BK529 := kbb BK529 hb; replace BK534 := kbb BK534 hb; replace HB := ka (below_step (kw HB.out) hb); (try clear hb); (try clear hb2); (try clear hk); (try clear hi); (try clear ho0); obtain ⟨Ao95, co95, eo95⟩ := Kd.R_slice HO550.out; subst eo95) | ((with_reducible refine gate_callee (f := 31) rfl ?_); refine kg (some 41) rfl rfl Try.func31 (by kernel_rfl) rfl #[.slice Ao95 t548.length co95, .bool false] rfl ?_; (with_reducible refine (trivetref01_norm.calls kj30 (fun k_ => some k_ = (.slice Ao95 t548.length co95 : Value).ownBlock) _ _ t548 false t551 t554 _ ?side1 A60.out).mono ?_); (case side1 => exact Kd.R_V (Kd.R_tight rfl (Kd.R_types (Kd.R_types (Kd.R_types (Kd.R_types (Kd.R_types (HO550.out) BK526.out (by decide)) BK527.out (by decide)) BK528.out (by decide)) BK529.out (by decide)) BK534.out (by decide)))); rintro e w96 ⟨v552, rfl, ho0, hb⟩; refine ⟨_, rfl, ?_⟩; replace HO_5 := kvb HO_5 hb; replace HO_528000 := kvb HO_528000 hb; replace HO_530000 := kvb HO_530000 hb; replace HO_535000 := kvb HO_535000 hb; have HO553 := ka (Kd.V_lower (Kd.V_mono (ok' := fun k_ => (P1_0_ k_ ∨ w.heap.size ≤ k_) ∧ k_ ≠ gb526 ∧ k_ ≠ gb527 ∧ k_ ≠ gb528 ∧ k_ ≠ gb529 ∧ k_ ≠ gb534) ho0 (fun k_ hk_ => ⟨Or.elim hk_ (fun hs_ => (.inr (((Kd.R_types (Kd.R_types (Kd.R_types (Kd.R_types (Kd.R_types (HO550.out) BK526.out (by decide)) BK527.out (by decide)) BK528.out (by decide)) BK529.out (by decide)) BK534.out (by decide)).1 k_ hs_.symm).1.1.1.1.1.1))) (fun hn_ => (.inr (Nat.le_trans (below_size (kw HB.out)) hn_))), Or.elim hk_ (fun hs_ => ((Kd.R_types (Kd.R_types (Kd.R_types (Kd.R_types (Kd.R_types (HO550.out) BK526.out (by decide)) BK527.out (by decide)) BK528.out (by decide)) BK529.out (by decide)) BK534.out (by decide)).1 k_ hs_.symm).1.1.1.1.2) (fun hn_ => (kf BK526 hn_)), Or.elim hk_ (fun hs_ => ((Kd.R_types (Kd.R_types (Kd.R_types (Kd.R_types (Kd.R_types (HO550.out) BK526.out (by decide)) BK527.out (by decide)) BK528.out (by decide)) BK529.out (by decide)) BK534.out (by decide)).1 k_ hs_.symm).1.1.1.2) (fun hn_ => (kf BK527 hn_)), Or.elim hk_ (fun hs_ => ((Kd.R_types (Kd.R_types (Kd.R_types (Kd.R_types (Kd.R_types (HO550.out) BK526.out (by decide)) BK527.out (by decide)) BK528.out (by decide)) BK529.out (by decide)) BK534.out (by decide)).1 k_ hs_.symm).1.1.2) (fun hn_ => (kf BK528 hn_)), Or.elim hk_ (fun hs_ => ((Kd.R_types (Kd.R_types (Kd.R_types (Kd.R_types (Kd.R_types (HO550.out) BK526.out (by decide)) BK527.out (by decide)) BK528.out (by decide)) BK529.out (by decide)) BK534.out (by decide)).1 k_ hs_.symm).1.2) (fun hn_ => (kf BK529 hn_)), Or.elim hk_ (fun hs_ => ((Kd.R_types (Kd.R_types (Kd.R_types (Kd.R_types (Kd.R_types (HO550.out) BK526.out (by decide)) BK527.out (by decide)) BK528.out (by decide)) BK529.out (by decide)) BK534.out (by decide)).1 k_ hs_.symm).2) (fun hn_ => (kf BK534 hn_))⟩)) (below_size (kw HB.out))); replace HO550 := ka (Kd.R_below (kr HO550.out) hb); replace BK526 := kbb BK526 hb; replace BK527 := kbb BK527 hb; replace BK528 := kbb BK528 hb; replace BK529 := kbb BK529 hb; replace BK534 := kbb BK534 hb; replace HB := ka (below_step (kw HB.out) hb); (try clear hb); (try clear hb2); (try clear hk); (try clear hi); (try clear ho0); have hnb97 := NB529_526.out; have hnc97 := NB526_529.out; have hnb98 := NB529_527.out; have hnc98 := NB527_529.out; have hnb99 := NB529_528.out; have hnc99 := NB528_529.out; have hnb100 := NB529_534.out; have hnc100 := NB534_529.out; have hcz101 := blkAll2 BK529.out; have hnb102 := NB527_526.out; have hnc102 := NB526_527.out; have hnb103 := NB527_528.out; have hnc103 := NB528_527.out; have hnb104 := NB527_534.out; have hnc104 := NB534_527.out; have hcz105 := blkAll2 BK527.out; obtain ⟨Ao106, co106, eo106⟩ := Kd.V_slice HO_530000.out; subst eo106) | ((with_reducible refine gate_callee (f := 38) rfl ?_); refine kg (some 45) rfl rfl Try.func38 (by kernel_rfl) rfl #[.agg #[.slice Ao106 x530000_30.length co106, .bool x530001_30], .agg #[.slice A1_0 l1_0.length c1_0, .bool a1_1]] rfl ?_; (with_reducible refine (trivetref01_Cmp.calls kj30 _ _ x530000_30 x530001_30 _ _ l1_0 a1_1 t555 _ ?side1 ?side2 ?side3 ?side4 A61.out).mono ?_); (case side1 => repeat (first | exact (Kd.V_reads' HO_530000.out).2.2 | (with_reducible refine Kd.C_alloc ?_ _) | (with_reducible refine Kd.C_drewN ?_ _) | (with_reducible refine Kd.C_drew ?_))); (case side2 => exact (Kd.V_reads' HO_530000.out).2.1); (case side3 => repeat (first | exact (Kd.V_reads' HO_528000.out).2.2 | (with_reducible refine Kd.C_alloc ?_ _) | (with_reducible refine Kd.C_drewN ?_ _) | (with_reducible refine Kd.C_drew ?_))); (case side4 => exact (Kd.V_reads' HO_528000.out).2.1); rintro e w107 ⟨rfl, hb⟩; refine ⟨_, rfl, ?_⟩; replace HO_5 := kvb HO_5 hb; replace HO_528000 := kvb HO_528000 hb; replace HO_530000 := kvb HO_530000 hb; replace HO_535000 := kvb HO_535000 hb; replace HO550 := ka (Kd.R_below (kr HO550.out) hb); replace HO553 := kvb HO553 hb; replace BK526 := kbb BK526 hb; replace BK527 := kbb BK527 hb; replace BK528 := kbb BK528 hb; replace BK529 := kbb BK529 hb; replace BK534 := kbb BK534 hb; replace HB := ka (below_step (kw HB.out) hb); (try clear hb); (try clear hb2); (try clear hk); (try clear hi)))
          go_roundg kj30
          case measure => have := HK1.out; have := HJ30.out; omega
          case rel => exact ⟨(t551), (wrap64 (x8_1 - 1)), (x530000_30), (x530001_30), (.slice Ao106 x530000_30.length co106), (by first | rfl | (simp; done) | (simp [*]; done)), H', ⟨by have := HK1.out; have := HJ30.out; omega⟩, ⟨kv HO553.out⟩, ⟨kv (Kd.V_mono HO_528000.out (fun _ hk => ⟨hk.1.1, ⟨hk.1.2.1, ⟨hk.1.2.2.1, ⟨hk.1.2.2.2.1, ⟨hk.1.2.2.2.2.1, hk.1.2.2.2.2.2⟩⟩⟩⟩⟩))⟩, ⟨kv (Kd.V_mono HO_530000.out (fun _ hk => ⟨hk.1.1, ⟨hk.1.2.1, ⟨hk.1.2.2.1, ⟨hk.1.2.2.2.1, ⟨hk.1.2.2.2.2.1, hk.1.2.2.2.2.2⟩⟩⟩⟩⟩))⟩, ⟨kv (Kd.V_mono HO_535000.out (fun _ hk => ⟨hk.1.1, ⟨hk.1.2.1, ⟨hk.1.2.2.1, ⟨hk.1.2.2.2.1, ⟨hk.1.2.2.2.2.1, hk.1.2.2.2.2.2⟩⟩⟩⟩⟩))⟩, ⟨by (with_reducible repeat (first | apply kb1 | apply kb2 | apply kb3)); exact BK526.out⟩, ⟨by (with_reducible repeat (first | apply kb1 | apply kb2 | apply kb3)); exact BK527.out⟩, ⟨by (with_reducible repeat (first | apply kb1 | apply kb2 | apply kb3)); exact BK528.out⟩, ⟨by (with_reducible repeat (first | apply kb1 | apply kb2 | apply kb3)); exact BK529.out⟩, ⟨by (with_reducible repeat (first | apply kb1 | apply kb2 | apply kb3)); exact BK534.out⟩, ⟨by repeat (first | (with_reducible first | exact HB.out | apply kc1 | apply kc2 | apply kc3 | refine kc4 ?_ GE526.out | refine kc4 ?_ GE527.out | refine kc4 ?_ GE528.out | refine kc4 ?_ GE529.out | refine kc4 ?_ GE534.out) | exact HB.out)⟩⟩
      ·rw [if_neg c29] at H
       exact absurd H (by simp)
     ·rw [if_neg c27] at H
      exact absurd H (by simp)
    ·rw [if_neg c26] at H
     exact absurd H (by simp)
   ·rw [if_neg c23] at H
    have c23b0 : decide (0 ≤ x8_1) = false := decide_eq_false c23
    clear c23
    replace H := Option.bind_eq_some_iff.mp H
    obtain ⟨⟨t570, t573⟩, A1080, H⟩ := H
    replace H : (if a0_1 = true then (trivetref01_floor.j2 k1 (decide ((x530000_1.length : Int) > 0)) t570 t573) else (trivetref01_floor.j2 k1 false t570 t573)) = some (r1, r2) := H
    have A108 := ka A1080
    clear A1080
    have HC109 := ka H
    clear H
    have hnb110 := NB526_527.out
    have hnc110 := NB527_526.out
    have hnb111 := NB526_528.out
    have hnc111 := NB528_526.out
    have hnb112 := NB526_529.out
    have hnc112 := NB529_526.out
    have hnb113 := NB526_534.out
    have hnc113 := NB534_526.out
    have hcz114 := blkAll2 BK526.out
    obtain ⟨Ao115, co115, eo115⟩ := Kd.V_slice HO_5.out
    subst eo115
    go_upto_region 15 with (first | ((with_reducible refine gate_callee (f := 31) rfl ?_); refine kg (some 57) rfl rfl Try.func31 (by kernel_rfl) rfl #[.slice Ao115 x5_1.length co115, .bool a0_1] rfl ?_; (with_reducible refine (trivetref01_norm.calls k1 (fun k_ => ((P1_0_ k_ ∨ w.heap.size ≤ k_) ∧ (k_ ≠ gb526 ∧ (k_ ≠ gb527 ∧ (k_ ≠ gb528 ∧ (k_ ≠ gb529 ∧ k_ ≠ gb534)))))) _ _ x5_1 a0_1 t570 t573 _ ?side1 A108.out).mono ?_); (case side1 => exact HO_5.out); rintro e w116 ⟨v571, rfl, ho0, hb⟩; refine ⟨_, rfl, ?_⟩; replace HO_5 := kvb HO_5 hb; replace HO_528000 := kvb HO_528000 hb; replace HO_530000 := kvb HO_530000 hb; replace HO_535000 := kvb HO_535000 hb; have HO572 := ka (Kd.V_lower (Kd.V_mono (ok' := fun k_ => (P1_0_ k_ ∨ w.heap.size ≤ k_) ∧ k_ ≠ gb526 ∧ k_ ≠ gb527 ∧ k_ ≠ gb528 ∧ k_ ≠ gb529 ∧ k_ ≠ gb534) ho0 (fun k_ hk_ => ⟨Or.elim hk_ (fun hs_ => hs_.1) (fun hn_ => (.inr (Nat.le_trans (below_size (kw HB.out)) hn_))), Or.elim hk_ (fun hs_ => hs_.2.1) (fun hn_ => (kf BK526 hn_)), Or.elim hk_ (fun hs_ => hs_.2.2.1) (fun hn_ => (kf BK527 hn_)), Or.elim hk_ (fun hs_ => hs_.2.2.2.1) (fun hn_ => (kf BK528 hn_)), Or.elim hk_ (fun hs_ => hs_.2.2.2.2.1) (fun hn_ => (kf BK529 hn_)), Or.elim hk_ (fun hs_ => hs_.2.2.2.2.2) (fun hn_ => (kf BK534 hn_))⟩)) (below_size (kw HB.out))); replace BK526 := kbb BK526 hb; replace BK527 := kbb BK527 hb; replace BK528 := kbb BK528 hb; replace BK529 := kbb BK529 hb; replace BK534 := kbb BK534 hb; replace HB := ka (below_step (kw HB.out) hb); (try clear hb); (try clear hb2); (try clear hk); (try clear hi); (try clear ho0)) | ((with_reducible refine gate_dst (N := 9) rfl ?_); (try (refine gate_guard (by rfl) ?_; dsimp only)); refine kx (N := 9) (cs := #[.slice none 0 0, .bool false]) (t := 37) ?_; intro gb574 hg w117 hbox hb; have n0_ := ka (Kd.V_below (Kd.V_elderB (kv HO_5.out) gb574 (Nat.le_of_eq hg.symm)) hb); have n1_ := ka (Kd.V_below (Kd.V_elderB (kv HO_528000.out) gb574 (Nat.le_of_eq hg.symm)) hb); have n2_ := ka (Kd.V_below (Kd.V_elderB (kv HO_530000.out) gb574 (Nat.le_of_eq hg.symm)) hb); have n3_ := ka (Kd.V_below (Kd.V_elderB (kv HO_535000.out) gb574 (Nat.le_of_eq hg.symm)) hb); have n4_ := ka (Kd.V_below (Kd.V_elderB (kv HO572.out) gb574 (Nat.le_of_eq hg.symm)) hb); have n5_ := ka (blk_below (g := gb526) (kz BK526.out) hb); have n6_ := ka (blk_below (g := gb527) (kz BK527.out) hb); have n7_ := ka (blk_below (g := gb528) (kz BK528.out) hb); have n8_ := ka (blk_below (g := gb529) (kz BK529.out) hb); have n9_ := ka (blk_below (g := gb534) (kz BK534.out) hb); have n10_ := ka (below_step (kw HB.out) hb); have n11_ := ka (hbox); have n12_ := ka ((by rw [hg]; exact (below_size (kw HB.out)) : w.heap.size ≤ gb574)); have n13_ := n12_; have n14_ := ka ((by rw [hg]; exact Nat.ne_of_lt (blk_lt (g := gb526) (kz BK526.out)) : gb526 ≠ gb574)); have n15_ := ka n14_.out.symm; have n16_ := ka ((by rw [hg]; exact Nat.ne_of_lt (blk_lt (g := gb527) (kz BK527.out)) : gb527 ≠ gb574)); have n17_ := ka n16_.out.symm; have n18_ := ka ((by rw [hg]; exact Nat.ne_of_lt (blk_lt (g := gb528) (kz BK528.out)) : gb528 ≠ gb574)); have n19_ := ka n18_.out.symm; have n20_ := ka ((by rw [hg]; exact Nat.ne_of_lt (blk_lt (g := gb529) (kz BK529.out)) : gb529 ≠ gb574)); have n21_ := ka n20_.out.symm; have n22_ := ka ((by rw [hg]; exact Nat.ne_of_lt (blk_lt (g := gb534) (kz BK534.out)) : gb534 ≠ gb574)); have n23_ := ka n22_.out.symm; clear HO_5; clear HO_528000; clear HO_530000; clear HO_535000; clear HO572; clear BK526; clear BK527; clear BK528; clear BK529; clear BK534; clear HB; have HO_5 := n0_; have HO_528000 := n1_; have HO_530000 := n2_; have HO_535000 := n3_; have HO572 := n4_; have BK526 := n5_; have BK527 := n6_; have BK528 := n7_; have BK529 := n8_; have BK534 := n9_; have HB := n10_; have BK574 := n11_; have GW574 := n12_; have GE574 := n13_; have NB526_574 := n14_; have NB574_526 := n15_; have NB527_574 := n16_; have NB574_527 := n17_; have NB528_574 := n18_; have NB574_528 := n19_; have NB529_574 := n20_; have NB574_529 := n21_; have NB534_574 := n22_; have NB574_534 := n23_; clear n0_ n1_ n2_ n3_ n4_ n5_ n6_ n7_ n8_ n9_ n10_ n11_ n12_ n13_ n14_ n15_ n16_ n17_ n18_ n19_ n20_ n21_ n22_ n23_; clear hb hbox hg; obtain ⟨Ao118, co118, eo118⟩ := Kd.V_slice HO572.out; subst eo118; have hnb119 := NB574_526.out; have hnc119 := NB526_574.out; have hnb120 := NB574_527.out; have hnc120 := NB527_574.out; have hnb121 := NB574_528.out; have hnc121 := NB528_574.out; have hnb122 := NB574_529.out; have hnc122 := NB529_574.out; have hnb123 := NB574_534.out; have hnc123 := NB534_574.out; have hcz124 := blkAll2 BK574.out))
    (try simp only [Act.put, List.setIfInBounds_toArray, List.set_cons_zero, List.set_cons_succ])
    go_cut [65] (fun v65 wc => ∃ (kq : Nat) (x65_108 : Bool), v65 = .bool x65_108 ∧ Aside0 (trivetref01_floor.j2 kq x65_108 t570 t573 = some (r1, r2)) ∧ Aside0 (kq ≤ k1) ∧ Aside0 (Kd.V (Kd.int .u64) 46 wc w.heap.size (fun k_ => (P1_0_ k_ ∨ w.heap.size ≤ k_) ∧ k_ ≠ gb526 ∧ k_ ≠ gb527 ∧ k_ ≠ gb528 ∧ k_ ≠ gb529 ∧ k_ ≠ gb534 ∧ k_ ≠ gb574) (.slice A1_0 l1_0.length c1_0) l1_0) ∧ Aside0 (Kd.V (Kd.int .u64) 46 wc w.heap.size (fun k_ => (P1_0_ k_ ∨ w.heap.size ≤ k_) ∧ k_ ≠ gb526 ∧ k_ ≠ gb527 ∧ k_ ≠ gb528 ∧ k_ ≠ gb529 ∧ k_ ≠ gb534 ∧ k_ ≠ gb574) u530000 x530000_1) ∧ Aside0 (Kd.V (Kd.int .u64) 46 wc w.heap.size (fun k_ => (P1_0_ k_ ∨ w.heap.size ≤ k_) ∧ k_ ≠ gb526 ∧ k_ ≠ gb527 ∧ k_ ≠ gb528 ∧ k_ ≠ gb529 ∧ k_ ≠ gb534 ∧ k_ ≠ gb574) (.slice Ao14 t530.length co14) t530) ∧ Aside0 (Kd.V (Kd.int .u64) 46 wc w.heap.size (fun k_ => (P1_0_ k_ ∨ w.heap.size ≤ k_) ∧ k_ ≠ gb526 ∧ k_ ≠ gb527 ∧ k_ ≠ gb528 ∧ k_ ≠ gb529 ∧ k_ ≠ gb534 ∧ k_ ≠ gb574) (.slice Ao118 t570.length co118) t570) ∧ Aside0 (wc.heap[gb526]? = some (.cells #[(.slice A0_0 l0_0.length c0_0), .bool a0_1] 37 (0, 0))) ∧ Aside0 (wc.heap[gb527]? = some (.cells #[(.slice A1_0 l1_0.length c1_0), .bool a1_1] 37 (0, 0))) ∧ Aside0 (wc.heap[gb528]? = some (.cells #[(.slice none 0 0), .bool false] 37 (0, 0))) ∧ Aside0 (wc.heap[gb529]? = some (.cells #[u530000, .bool x530001_1] 37 (0, 0))) ∧ Aside0 (wc.heap[gb534]? = some (.cells #[(.slice Ao14 t530.length co14), .bool t533] 37 (0, 0))) ∧ Aside0 (wc.heap[gb574]? = some (.cells #[(.slice Ao118 t570.length co118), .bool t573] 37 (0, 0))) ∧ Aside0 (Below w.heap.size w wc))
    case first =>
     have H := HC109.out
     clear HC109
     by_cases c125 : a0_1 = true
     ·subst c125
      have H1 : (trivetref01_floor.j2 k1 (decide ((x530000_1.length : Int) > 0)) t570 t573) = some (r1, r2) := by rw [if_pos rfl] at H; exact H
      clear H
      have H := H1
      clear H1
      have H' := ka H
      clear H
      have hnb126 := NB526_527.out
      have hnc126 := NB527_526.out
      have hnb127 := NB526_528.out
      have hnc127 := NB528_526.out
      have hnb128 := NB526_529.out
      have hnc128 := NB529_526.out
      have hnb129 := NB526_534.out
      have hnc129 := NB534_526.out
      have hnb130 := NB526_574.out
      have hnc130 := NB574_526.out
      have hcz131 := blkAll2 BK526.out
      have hnb132 := NB529_527.out
      have hnc132 := NB527_529.out
      have hnb133 := NB529_528.out
      have hnc133 := NB528_529.out
      have hnb134 := NB529_534.out
      have hnc134 := NB534_529.out
      have hnb135 := NB529_574.out
      have hnc135 := NB574_529.out
      have hcz136 := blkAll2 BK529.out
      obtain ⟨Ao137, co137, eo137⟩ := Kd.V_slice HO_530000.out
      subst eo137
      go_wp2
      go_meet
      case rel => exact ⟨_, (decide ((x530000_1.length : Int) > 0)), (by first | rfl | (simp; done) | (simp [*]; done)), H', ⟨by have := HK1.out; first | omega | exact Nat.le_refl _⟩, ⟨kv (Kd.V_mono (Kd.V_far (p := ⟨gb574, 1, none⟩) (Kd.V_far (p := ⟨gb574, 0, none⟩) (Kd.V_mono HO_528000.out (fun k_ hk => (⟨hk, hk.2⟩ : _ ∧ k_ ≠ gb574))) (fun _ hk => hk.2) (.slice Ao118 t570.length co118)) (fun _ hk => hk.2) (.bool t573)) (fun _ hk => ⟨hk.1.1.1, ⟨hk.1.1.2.1, ⟨hk.1.1.2.2.1, ⟨hk.1.1.2.2.2.1, ⟨hk.1.1.2.2.2.2.1, ⟨hk.1.1.2.2.2.2.2, hk.1.2⟩⟩⟩⟩⟩⟩))⟩, ⟨kv (Kd.V_mono (Kd.V_far (p := ⟨gb574, 1, none⟩) (Kd.V_far (p := ⟨gb574, 0, none⟩) (Kd.V_mono HO_530000.out (fun k_ hk => (⟨hk, hk.2⟩ : _ ∧ k_ ≠ gb574))) (fun _ hk => hk.2) (.slice Ao118 t570.length co118)) (fun _ hk => hk.2) (.bool t573)) (fun _ hk => ⟨hk.1.1.1, ⟨hk.1.1.2.1, ⟨hk.1.1.2.2.1, ⟨hk.1.1.2.2.2.1, ⟨hk.1.1.2.2.2.2.1, ⟨hk.1.1.2.2.2.2.2, hk.1.2⟩⟩⟩⟩⟩⟩))⟩, ⟨kv (Kd.V_mono (Kd.V_far (p := ⟨gb574, 1, none⟩) (Kd.V_far (p := ⟨gb574, 0, none⟩) (Kd.V_mono HO_535000.out (fun k_ hk => (⟨hk, hk.2⟩ : _ ∧ k_ ≠ gb574))) (fun _ hk => hk.2) (.slice Ao118 t570.length co118)) (fun _ hk => hk.2) (.bool t573)) (fun _ hk => ⟨hk.1.1.1, ⟨hk.1.1.2.1, ⟨hk.1.1.2.2.1, ⟨hk.1.1.2.2.2.1, ⟨hk.1.1.2.2.2.2.1, ⟨hk.1.1.2.2.2.2.2, hk.1.2⟩⟩⟩⟩⟩⟩))⟩, ⟨kv (Kd.V_mono (Kd.V_far (p := ⟨gb574, 1, none⟩) (Kd.V_far (p := ⟨gb574, 0, none⟩) (Kd.V_mono HO572.out (fun k_ hk => (⟨hk, hk.2⟩ : _ ∧ k_ ≠ gb574))) (fun _ hk => hk.2) (.slice Ao118 t570.length co118)) (fun _ hk => hk.2) (.bool t573)) (fun _ hk => ⟨hk.1.1.1, ⟨hk.1.1.2.1, ⟨hk.1.1.2.2.1, ⟨hk.1.1.2.2.2.1, ⟨hk.1.1.2.2.2.2.1, ⟨hk.1.1.2.2.2.2.2, hk.1.2⟩⟩⟩⟩⟩⟩))⟩, ⟨by (with_reducible repeat (first | apply kb1 | apply kb2 | apply kb3 | refine kb4 ?_ NB526_574.out _)); exact BK526.out⟩, ⟨by (with_reducible repeat (first | apply kb1 | apply kb2 | apply kb3 | refine kb4 ?_ NB527_574.out _)); exact BK527.out⟩, ⟨by (with_reducible repeat (first | apply kb1 | apply kb2 | apply kb3 | refine kb4 ?_ NB528_574.out _)); exact BK528.out⟩, ⟨by (with_reducible repeat (first | apply kb1 | apply kb2 | apply kb3 | refine kb4 ?_ NB529_574.out _)); exact BK529.out⟩, ⟨by (with_reducible repeat (first | apply kb1 | apply kb2 | apply kb3 | refine kb4 ?_ NB534_574.out _)); exact BK534.out⟩, ⟨by (with_reducible repeat (first | apply kb1 | apply kb2 | apply kb3 | apply blkPut2_1 | apply blkPut2_0)); exact BK574.out⟩, ⟨by repeat (first | (with_reducible first | exact HB.out | apply kc1 | apply kc2 | apply kc3 | refine kc4 ?_ GE526.out | refine kc4 ?_ GE527.out | refine kc4 ?_ GE528.out | refine kc4 ?_ GE529.out | refine kc4 ?_ GE534.out | refine kc4 ?_ GE574.out) | exact HB.out)⟩⟩
     ·replace c125 := Bool.eq_false_iff.mpr c125
      subst c125
      have H1 : (trivetref01_floor.j2 k1 false t570 t573) = some (r1, r2) := by rw [if_neg (show ¬ (false = true) by decide)] at H; exact H
      clear H
      have H := H1
      clear H1
      have H' := ka H
      clear H
      have hnb138 := NB526_527.out
      have hnc138 := NB527_526.out
      have hnb139 := NB526_528.out
      have hnc139 := NB528_526.out
      have hnb140 := NB526_529.out
      have hnc140 := NB529_526.out
      have hnb141 := NB526_534.out
      have hnc141 := NB534_526.out
      have hnb142 := NB526_574.out
      have hnc142 := NB574_526.out
      have hcz143 := blkAll2 BK526.out
      go_wp2
      go_meet
      case rel => exact ⟨_, (false), (by first | rfl | (simp; done) | (simp [*]; done)), H', ⟨by have := HK1.out; first | omega | exact Nat.le_refl _⟩, ⟨kv (Kd.V_mono (Kd.V_far (p := ⟨gb574, 1, none⟩) (Kd.V_far (p := ⟨gb574, 0, none⟩) (Kd.V_mono HO_528000.out (fun k_ hk => (⟨hk, hk.2⟩ : _ ∧ k_ ≠ gb574))) (fun _ hk => hk.2) (.slice Ao118 t570.length co118)) (fun _ hk => hk.2) (.bool t573)) (fun _ hk => ⟨hk.1.1.1, ⟨hk.1.1.2.1, ⟨hk.1.1.2.2.1, ⟨hk.1.1.2.2.2.1, ⟨hk.1.1.2.2.2.2.1, ⟨hk.1.1.2.2.2.2.2, hk.1.2⟩⟩⟩⟩⟩⟩))⟩, ⟨kv (Kd.V_mono (Kd.V_far (p := ⟨gb574, 1, none⟩) (Kd.V_far (p := ⟨gb574, 0, none⟩) (Kd.V_mono HO_530000.out (fun k_ hk => (⟨hk, hk.2⟩ : _ ∧ k_ ≠ gb574))) (fun _ hk => hk.2) (.slice Ao118 t570.length co118)) (fun _ hk => hk.2) (.bool t573)) (fun _ hk => ⟨hk.1.1.1, ⟨hk.1.1.2.1, ⟨hk.1.1.2.2.1, ⟨hk.1.1.2.2.2.1, ⟨hk.1.1.2.2.2.2.1, ⟨hk.1.1.2.2.2.2.2, hk.1.2⟩⟩⟩⟩⟩⟩))⟩, ⟨kv (Kd.V_mono (Kd.V_far (p := ⟨gb574, 1, none⟩) (Kd.V_far (p := ⟨gb574, 0, none⟩) (Kd.V_mono HO_535000.out (fun k_ hk => (⟨hk, hk.2⟩ : _ ∧ k_ ≠ gb574))) (fun _ hk => hk.2) (.slice Ao118 t570.length co118)) (fun _ hk => hk.2) (.bool t573)) (fun _ hk => ⟨hk.1.1.1, ⟨hk.1.1.2.1, ⟨hk.1.1.2.2.1, ⟨hk.1.1.2.2.2.1, ⟨hk.1.1.2.2.2.2.1, ⟨hk.1.1.2.2.2.2.2, hk.1.2⟩⟩⟩⟩⟩⟩))⟩, ⟨kv (Kd.V_mono (Kd.V_far (p := ⟨gb574, 1, none⟩) (Kd.V_far (p := ⟨gb574, 0, none⟩) (Kd.V_mono HO572.out (fun k_ hk => (⟨hk, hk.2⟩ : _ ∧ k_ ≠ gb574))) (fun _ hk => hk.2) (.slice Ao118 t570.length co118)) (fun _ hk => hk.2) (.bool t573)) (fun _ hk => ⟨hk.1.1.1, ⟨hk.1.1.2.1, ⟨hk.1.1.2.2.1, ⟨hk.1.1.2.2.2.1, ⟨hk.1.1.2.2.2.2.1, ⟨hk.1.1.2.2.2.2.2, hk.1.2⟩⟩⟩⟩⟩⟩))⟩, ⟨by (with_reducible repeat (first | apply kb1 | apply kb2 | apply kb3 | refine kb4 ?_ NB526_574.out _)); exact BK526.out⟩, ⟨by (with_reducible repeat (first | apply kb1 | apply kb2 | apply kb3 | refine kb4 ?_ NB527_574.out _)); exact BK527.out⟩, ⟨by (with_reducible repeat (first | apply kb1 | apply kb2 | apply kb3 | refine kb4 ?_ NB528_574.out _)); exact BK528.out⟩, ⟨by (with_reducible repeat (first | apply kb1 | apply kb2 | apply kb3 | refine kb4 ?_ NB529_574.out _)); exact BK529.out⟩, ⟨by (with_reducible repeat (first | apply kb1 | apply kb2 | apply kb3 | refine kb4 ?_ NB534_574.out _)); exact BK534.out⟩, ⟨by (with_reducible repeat (first | apply kb1 | apply kb2 | apply kb3 | apply blkPut2_1 | apply blkPut2_0)); exact BK574.out⟩, ⟨by repeat (first | (with_reducible first | exact HB.out | apply kc1 | apply kc2 | apply kc3 | refine kc4 ?_ GE526.out | refine kc4 ?_ GE527.out | refine kc4 ?_ GE528.out | refine kc4 ?_ GE529.out | refine kc4 ?_ GE534.out | refine kc4 ?_ GE574.out) | exact HB.out)⟩⟩
    case rest =>
     clear HC109
     try clear c1
     try clear c2
     try clear p2
     try clear c3
     try clear c4
     try clear p5
     try clear q5
     try clear hx5
     try clear c6
     try clear p6
     try clear c7
     try clear c8
     try clear c9
     try clear c10
     try clear c11
     try clear c12
     try clear c13
     try clear c14
     try clear c15
     try clear c16
     try clear c17
     try clear c18
     try clear c20
     try clear c21
     try clear c22
     try clear c23
     try clear c23b0
     try clear c26
     try clear c26b0
     try clear c27
     try clear c27b0
     try clear c29
     try clear c29b0
     try clear c29b1
     try clear c31
     try clear c32
     try clear c33
     try clear c34
     try clear c35
     try clear c37
     try clear c38
     try clear c39
     try clear c45
     try clear c46
     try clear c48
     try clear c48b0
     try clear c48b1
     try clear p53
     try clear q53
     try clear hx53
     try clear c62
     try clear c62b0
     try clear p64
     try clear c70
     try clear c71
     try clear c72
     try clear c73
     try clear c75
     try clear c76
     try clear c77
     try clear c97
     try clear c98
     try clear c99
     try clear c100
     try clear c102
     try clear c103
     try clear c104
     try clear c110
     try clear c111
     try clear c112
     try clear c113
     try clear c119
     try clear c120
     try clear c121
     try clear c122
     try clear c123
     try clear c125
     try clear c126
     try clear c127
     try clear c128
     try clear c129
     try clear c130
     try clear c132
     try clear c133
     try clear c134
     try clear c135
     try clear c138
     try clear c139
     try clear c140
     try clear c141
     try clear c142
     try clear hcz101
     try clear hcz105
     try clear hcz114
     try clear hcz11
     try clear hcz124
     try clear hcz131
     try clear hcz136
     try clear hcz143
     try clear hcz19
     try clear hcz22
     try clear hcz36
     try clear hcz40
     try clear hcz44
     try clear hcz47
     try clear hcz74
     try clear hcz78
     try clear hx539_0
     try clear p2
     try clear p5
     try clear p53
     try clear p539
     try clear p6
     try clear q5
     try clear q53
     try clear q539
     obtain ⟨kq, x65_108, rfl, HA, HJ108, HO_528000, HO_530000, HO_535000, HO_575000, BK526, BK527, BK528, BK529, BK534, BK574, HB⟩ := hcut
     cases kq with
     | zero => exact absurd HA.out (by simp [trivetref01_floor.j2])
     | succ kj108 =>
      have H := HA.out
      clear HA
      simp only [trivetref01_floor.j2] at H
      by_cases c144 : x65_108 = true
      ·subst c144
       have H1 : ((trivetref01_Of.f kj108 (-1)).bind fun bt575 => ((trivetref01_Add.f kj108 t570 t573 bt575.1 bt575.2).bind fun bt579 => (some (bt579.1, bt579.2)))) = some (r1, r2) := by rw [if_pos rfl] at H; exact H
       clear H
       have H := H1
       clear H1
       replace H := Option.bind_eq_some_iff.mp H
       obtain ⟨⟨t575, t578⟩, A1450, H⟩ := H
       replace H : ((trivetref01_Add.f kj108 t570 t573 t575 t578).bind fun bt579 => (some (bt579.1, bt579.2))) = some (r1, r2) := H
       have A145 := ka A1450
       clear A1450
       replace H := Option.bind_eq_some_iff.mp H
       obtain ⟨⟨t579, t582⟩, A1460, H⟩ := H
       replace H : (some (t579, t582)) = some (r1, r2) := H
       have A146 := ka A1460
       clear A1460
       simp only [Option.some.injEq, Prod.mk.injEq] at H
       obtain ⟨rfl, rfl⟩ := H
       try go_wp2
       replace HO_528000 := ka (Kd.V_drew HO_528000.out)
       replace HO_530000 := ka (Kd.V_drew HO_530000.out)
       replace HO_535000 := ka (Kd.V_drew HO_535000.out)
       replace HO_575000 := ka (Kd.V_drew HO_575000.out)
       replace BK526 := ka (blk_drew BK526.out)
       replace BK527 := ka (blk_drew BK527.out)
       replace BK528 := ka (blk_drew BK528.out)
       replace BK529 := ka (blk_drew BK529.out)
       replace BK534 := ka (blk_drew BK534.out)
       replace BK574 := ka (blk_drew BK574.out)
       replace HB := ka (below_drew1 HB.out)
       refine start_ (n := 4) (S := fun w' => w'.cell? ⟨gb574, 0, none⟩ = some (.slice Ao118 t570.length co118) ∧ w'.cell? ⟨gb574, 1, none⟩ = some (.bool t573)) (ds := [3]) #[false, false, false, false] (by kernel_rfl) rfl rfl ⟨(blk_cell BK574.out 0).trans rfl, (blk_cell BK574.out 1).trans rfl⟩ (fun hHeld => ?_)
       generalize wc.drew = w147 at HO_528000 HO_530000 HO_535000 HO_575000 BK526 BK527 BK528 BK529 BK534 BK574 HB hHeld ⊢
       refine take_ (i := 0) (N := some 66) (v := ?_) (a' := ?_) #[true, false, false, false] rfl rfl (by kernel_rfl) (fun _ _ _ h => h) (Or.inl ⟨by rfl, ?_⟩) hHeld ?_ ?_
       rotate_left
       ·rintro w' ⟨s0, s1⟩
        go_simp
        with_reducible rfl
       rotate_left
       ·simp only [Act.put, List.setIfInBounds_toArray, List.set_cons_zero, List.set_cons_succ, i64_w, i32_w]
        rfl
       refine one_ (i := 1) (N := some 67) #[true, true, false, false] rfl rfl (by kernel_rfl) (by decide) (fun K hK => ?_)
       refine goes_ Try.func18 (by kernel_rfl) rfl #[.int .i64 (-1)] (by rfl) rfl rfl (by (try simp only [List.map_toArray, List.map_cons, List.map_nil]); first | done | rfl | (simp only [List.length_drop, List.length_take]; rfl)) ?_
       with_reducible refine (trivetref01_Of.calls kj108 (-1) t575 t578 _ A145.out).mono ?_
       rintro e w148 ⟨v576, rfl, ho0, hb⟩
       refine ⟨_, rfl, ?_⟩
       replace HO_528000 := kvb HO_528000 hb
       replace HO_530000 := kvb HO_530000 hb
       replace HO_535000 := kvb HO_535000 hb
       replace HO_575000 := kvb HO_575000 hb
       have HO577 := ka (Kd.V_lower (Kd.V_mono (ok' := fun k_ => (P1_0_ k_ ∨ w.heap.size ≤ k_) ∧ k_ ≠ gb526 ∧ k_ ≠ gb527 ∧ k_ ≠ gb528 ∧ k_ ≠ gb529 ∧ k_ ≠ gb534 ∧ k_ ≠ gb574) ho0 (fun k_ hk_ => ⟨(.inr (Nat.le_trans (below_size (kw HB.out)) hk_)), (kf BK526 hk_), (kf BK527 hk_), (kf BK528 hk_), (kf BK529 hk_), (kf BK534 hk_), (kf BK574 hk_)⟩)) (below_size (kw HB.out)))
       replace BK526 := kbb BK526 hb
       replace BK527 := kbb BK527 hb
       replace BK528 := kbb BK528 hb
       replace BK529 := kbb BK529 hb
       replace BK534 := kbb BK534 hb
       replace BK574 := kbb BK574 hb
       replace HB := ka (below_step (kw HB.out) hb)
       (try clear hb)
       (try clear hb2)
       (try clear hk)
       (try clear hi)
       (try clear ho0)
       obtain ⟨Ao149, co149, eo149⟩ := Kd.V_slice HO577.out
       (first | subst eo149 | (injection eo149 with f1_ f2_ f3_; have f4_ := f1_.symm; have f5_ := f3_.symm; clear f1_ f2_ f3_; subst f4_; subst f5_))
       refine hK.out _ _ ⟨(blk_cell BK574.out 0).trans rfl, (blk_cell BK574.out 1).trans rfl⟩ (fun hHeld => ?_)
       clear hK K
       refine norm_ (a' := ?_) ?_ ?_
       rotate_left
       ·show Act.put _ (some 67) _ = _
        simp only [Act.put, List.setIfInBounds_toArray, List.set_cons_zero, List.set_cons_succ, i64_w, i32_w]
        rfl
       refine one_ (i := 2) (N := some 68) #[true, true, true, false] rfl rfl (by kernel_rfl) (by decide) (fun K hK => ?_)
       refine goes_ Try.func20 (by kernel_rfl) rfl #[.agg #[.slice Ao118 t570.length co118, .bool t573], .agg #[.slice Ao149 t575.length co149, .bool t578]] (by rfl) rfl rfl (by (try simp only [List.map_toArray, List.map_cons, List.map_nil]); first | done | rfl | (simp only [List.length_drop, List.length_take]; rfl)) ?_
       with_reducible refine (trivetref01_Add.calls kj108 _ _ t570 t573 _ _ t575 t578 t579 t582 _ ?side1 ?side2 ?side3 ?side4 A146.out).mono ?_
       (case side1 => repeat (first | exact (Kd.V_reads' HO_575000.out).2.2 | (with_reducible refine Kd.C_alloc ?_ _) | (with_reducible refine Kd.C_drewN ?_ _) | (with_reducible refine Kd.C_drew ?_)))
       (case side2 => exact (Kd.V_reads' HO_575000.out).2.1)
       (case side3 => repeat (first | exact (Kd.V_reads' HO577.out).2.2 | (with_reducible refine Kd.C_alloc ?_ _) | (with_reducible refine Kd.C_drewN ?_ _) | (with_reducible refine Kd.C_drew ?_)))
       (case side4 => exact (Kd.V_reads' HO577.out).2.1)
       rintro e w150 ⟨v580, rfl, ho0, hb⟩
       refine ⟨_, rfl, ?_⟩
       replace HO_528000 := kvb HO_528000 hb
       replace HO_530000 := kvb HO_530000 hb
       replace HO_535000 := kvb HO_535000 hb
       replace HO_575000 := kvb HO_575000 hb
       replace HO577 := kvb HO577 hb
       have HO581 := ka (Kd.V_lower (Kd.V_mono (ok' := fun k_ => (P1_0_ k_ ∨ w.heap.size ≤ k_) ∧ k_ ≠ gb526 ∧ k_ ≠ gb527 ∧ k_ ≠ gb528 ∧ k_ ≠ gb529 ∧ k_ ≠ gb534 ∧ k_ ≠ gb574) ho0 (fun k_ hk_ => ⟨(.inr (Nat.le_trans (below_size (kw HB.out)) hk_)), (kf BK526 hk_), (kf BK527 hk_), (kf BK528 hk_), (kf BK529 hk_), (kf BK534 hk_), (kf BK574 hk_)⟩)) (below_size (kw HB.out)))
       replace BK526 := kbb BK526 hb
       replace BK527 := kbb BK527 hb
       replace BK528 := kbb BK528 hb
       replace BK529 := kbb BK529 hb
       replace BK534 := kbb BK534 hb
       replace BK574 := kbb BK574 hb
       replace HB := ka (below_step (kw HB.out) hb)
       (try clear hb)
       (try clear hb2)
       (try clear hk)
       (try clear hi)
       (try clear ho0)
       obtain ⟨Ao151, co151, eo151⟩ := Kd.V_slice HO581.out
       (first | subst eo151 | (injection eo151 with f1_ f2_ f3_; have f4_ := f1_.symm; have f5_ := f3_.symm; clear f1_ f2_ f3_; subst f4_; subst f5_))
       refine hK.out _ _ ⟨(blk_cell BK574.out 0).trans rfl, (blk_cell BK574.out 1).trans rfl⟩ (fun hHeld => ?_)
       clear hK K
       refine norm_ (a' := ?_) ?_ ?_
       rotate_left
       ·show Act.put _ (some 68) _ = _
        simp only [Act.put, List.setIfInBounds_toArray, List.set_cons_zero, List.set_cons_succ, i64_w, i32_w]
        rfl
       refine last_ (i := 3) (N := none) #[true, true, true, true] rfl rfl (by kernel_rfl) (by decide) (fun K hK => ?_)
       have hs152 : w150.cell? ⟨gb574, 0, none⟩ = some (.slice Ao118 t570.length co118) := (blk_cell BK574.out 0).trans rfl
       have hfs152 := blk_frozen BK574.out 0
       have hns152_0 := NB526_574.out
       have hns152_1 := NB527_574.out
       have hns152_2 := NB528_574.out
       have hns152_3 := NB529_574.out
       have hns152_4 := NB534_574.out
       have hms152_0 := NB574_526.out
       have hms152_1 := NB574_527.out
       have hms152_2 := NB574_528.out
       have hms152_3 := NB574_529.out
       have hms152_4 := NB574_534.out
       have hs153 : w150.cell? ⟨gb574, 1, none⟩ = some (.bool t573) := (blk_cell BK574.out 1).trans rfl
       have hfs153 := blk_frozen BK574.out 1
       have hns153_0 := NB526_574.out
       have hns153_1 := NB527_574.out
       have hns153_2 := NB528_574.out
       have hns153_3 := NB529_574.out
       have hns153_4 := NB534_574.out
       have hms153_0 := NB574_526.out
       have hms153_1 := NB574_527.out
       have hms153_2 := NB574_528.out
       have hms153_3 := NB574_529.out
       have hms153_4 := NB574_534.out
       refine skip_ (w1 := ?_) (by rfl) rfl ?_ ?_
       rotate_left
       ·go_simp
        rfl
       refine hK.out _ _ ?_
       clear hK K
       refine done_ (by kernel_rfl) ?_
       have hnb154 := NB574_526.out
       have hnc154 := NB526_574.out
       have hnb155 := NB574_527.out
       have hnc155 := NB527_574.out
       have hnb156 := NB574_528.out
       have hnc156 := NB528_574.out
       have hnb157 := NB574_529.out
       have hnc157 := NB529_574.out
       have hnb158 := NB574_534.out
       have hnc158 := NB534_574.out
       have hcz159 := blkAll2 BK574.out
       have hnb160 := NB528_526.out
       have hnc160 := NB526_528.out
       have hnb161 := NB528_527.out
       have hnc161 := NB527_528.out
       have hnb162 := NB528_529.out
       have hnc162 := NB529_528.out
       have hnb163 := NB528_534.out
       have hnc163 := NB534_528.out
       have hcz164 := blkAll2 BK528.out
       try go_wp2
       refine bodyPost_ret (results_cell_row rfl _ _ gb528 37 #[.slice Ao151 t579.length co151, .bool t582] (0, 0) _ rfl (by (with_reducible repeat (first | apply kb1 | apply kb2 | apply kb3 | apply blkPut2_1 | apply blkPut2_0 | refine kb4 ?_ NB528_574.out _)); exact BK528.out) Try.underlying37 rfl (by kernel_rfl)) rfl ?_
       exact ⟨_, by first | rfl | (simp [errW_none, errW_some] <;> rfl) | (simp [*, errW_none, errW_some] <;> rfl), by (with_reducible repeat (first | apply Kd.V_alloc | apply Kd.V_drewN | apply Kd.V_drew)); exact Kd.V_mono (Kd.V_far (p := ⟨gb528, 1, none⟩) (Kd.V_far (p := ⟨gb528, 0, none⟩) (Kd.V_far (p := ⟨gb574, 1, none⟩) (Kd.V_far (p := ⟨gb574, 0, none⟩) (Kd.V_mono (Kd.V_mono HO581.out (fun k_ hk => (⟨hk, hk.2.2.2.2.2.2⟩ : _ ∧ k_ ≠ gb574))) (fun k_ hk => (⟨hk, hk.1.2.2.2.1⟩ : _ ∧ k_ ≠ gb528))) (fun _ hk => hk.1.2) (.slice Ao151 t579.length co151)) (fun _ hk => hk.1.2) (.bool t582)) (fun _ hk => hk.2) (.slice Ao151 t579.length co151)) (fun _ hk => hk.2) (.bool t582)) (fun _ hk => hk.1.1.1), by repeat (first | (with_reducible first | exact HB.out | apply kc1 | apply kc2 | apply kc3 | refine kc4 ?_ GE526.out | refine kc4 ?_ GE527.out | refine kc4 ?_ GE528.out | refine kc4 ?_ GE529.out | refine kc4 ?_ GE534.out | refine kc4 ?_ GE574.out) | exact HB.out)⟩
      ·replace c144 := Bool.eq_false_iff.mpr c144
       subst c144
       have H1 : (some (t570, t573)) = some (r1, r2) := by rw [if_neg (show ¬ (false = true) by decide)] at H; exact H
       clear H
       have H := H1
       clear H1
       simp only [Option.some.injEq, Prod.mk.injEq] at H
       obtain ⟨rfl, rfl⟩ := H
       have hnb165 := NB574_526.out
       have hnc165 := NB526_574.out
       have hnb166 := NB574_527.out
       have hnc166 := NB527_574.out
       have hnb167 := NB574_528.out
       have hnc167 := NB528_574.out
       have hnb168 := NB574_529.out
       have hnc168 := NB529_574.out
       have hnb169 := NB574_534.out
       have hnc169 := NB534_574.out
       have hcz170 := blkAll2 BK574.out
       have hnb171 := NB528_526.out
       have hnc171 := NB526_528.out
       have hnb172 := NB528_527.out
       have hnc172 := NB527_528.out
       have hnb173 := NB528_529.out
       have hnc173 := NB529_528.out
       have hnb174 := NB528_534.out
       have hnc174 := NB534_528.out
       have hcz175 := blkAll2 BK528.out
       go_wp2
       refine bodyPost_ret (results_cell_row rfl _ _ gb528 37 #[.slice Ao118 t570.length co118, .bool t573] (0, 0) _ rfl (by (with_reducible repeat (first | apply kb1 | apply kb2 | apply kb3 | apply blkPut2_1 | apply blkPut2_0)); exact BK528.out) Try.underlying37 rfl (by kernel_rfl)) rfl ?_
       exact ⟨_, by first | rfl | (simp [errW_none, errW_some] <;> rfl) | (simp [*, errW_none, errW_some] <;> rfl), by (with_reducible repeat (first | apply Kd.V_alloc | apply Kd.V_drewN | apply Kd.V_drew)); exact Kd.V_mono (Kd.V_far (p := ⟨gb528, 1, none⟩) (Kd.V_far (p := ⟨gb528, 0, none⟩) (Kd.V_mono HO_575000.out (fun k_ hk => (⟨hk, hk.2.2.2.1⟩ : _ ∧ k_ ≠ gb528))) (fun _ hk => hk.2) (.slice Ao118 t570.length co118)) (fun _ hk => hk.2) (.bool t573)) (fun _ hk => hk.1.1), by repeat (first | (with_reducible first | exact HB.out | apply kc1 | apply kc2 | apply kc3 | refine kc4 ?_ GE526.out | refine kc4 ?_ GE527.out | refine kc4 ?_ GE528.out | refine kc4 ?_ GE529.out | refine kc4 ?_ GE534.out | refine kc4 ?_ GE574.out) | exact HB.out)⟩

end Go.Proofs.Ytdddiahgkpfikaa.P
