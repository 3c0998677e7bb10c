-- Written by a program of this session out of the translation of the seat: Lean functions and the proofs that the Go functions come to them.
import Derived.Test.YtimobafoidplaaaPx0
import Derived.Test.YtimobafoidplaaaPx4
import Derived.Test.YtimobafoidplaaaPx12
namespace Go.Proofs.Ytimobafoidplaaa.P
open Go.RowKit Go.Proofs.YtimobafoidplaaaW.PrintWords Go.Proofs.YtimobafoidplaaaW.PrintLast Go.Proofs.YtimobafoidplaaaW.PrintMore
attribute [local go_sem] max2_int min2_int max_two min_two max_three min_three max_four min_four   -- for this text's walks alone
set_option linter.unusedVariables false
set_option linter.unusedSimpArgs false

/-! ### plan_Level: function 34 -/
def plan_Level.f (a0_0 : Int) (a0_1 : Int) (a0_2 : Int) (a0_3 : Int) (a0_4 : Int) (a0_5 : Int) (a0_6 : Int) (a0_7 : Int) (a0_8 : Int) : Option (Int × Option Int) := (terms_Check_s.f a0_0 a0_1 a0_2 a0_3 a0_4 a0_5 a0_6 a0_7 a0_8).bind fun t253 => (if t253.isNone = true then ((rate_Level_s.f a0_0 a0_1 a0_2).bind fun bt255 => (some (bt255.1, bt255.2))) else (some (0, some (t253.getD 0))))
set_option maxHeartbeats 8000000 in
set_option maxRecDepth 100000 in
theorem plan_Level.calls (a0_0 : Int) (a0_1 : Int) (a0_2 : Int) (a0_3 : Int) (a0_4 : Int) (a0_5 : Int) (a0_6 : Int) (a0_7 : Int) (a0_8 : Int) (r1 : Int) (r2 : Option Int) (w : World) (h : plan_Level.f a0_0 a0_1 a0_2 a0_3 a0_4 a0_5 a0_6 a0_7 a0_8 = some (r1, r2)) :
  Calls Try.prog 34 #[.agg #[.int .i64 a0_0, .int .i64 a0_1, .int .i64 a0_2, .int .i64 a0_3, .int .i64 a0_4, .int .i64 a0_5, .int .i64 a0_6, .int .i64 a0_7, .int .i64 a0_8]] w fun e w' => e = .returned (.tuple #[.int .i64 r1, errW r2]) ∧ Below w.heap.size w w' := by
 have hu23 := Try.underlying23
 have hu30 := Try.underlying30
 have hu34 := Try.underlying34
 have HB := ka (Below.refl w.heap.size w)
 have H : ((terms_Check_s.f a0_0 a0_1 a0_2 a0_3 a0_4 a0_5 a0_6 a0_7 a0_8).bind fun t253 => (if t253.isNone = true then ((rate_Level_s.f a0_0 a0_1 a0_2).bind fun bt255 => (some (bt255.1, bt255.2))) else (some (0, some (t253.getD 0))))) = some (r1, r2) := h
 clear h
 replace H := Option.bind_eq_some_iff.mp H
 obtain ⟨t253, A20, H⟩ := H
 replace H : (if t253.isNone = true then ((rate_Level_s.f a0_0 a0_1 a0_2).bind fun bt255 => (some (bt255.1, bt255.2))) else (some (0, some (t253.getD 0)))) = some (r1, r2) := H
 have A2 := ka A20
 clear A20
 rcases t253 with _ | q254
 ·have H1 : ((rate_Level_s.f a0_0 a0_1 a0_2).bind fun bt255 => (some (bt255.1, bt255.2))) = some (r1, r2) := by rw [if_pos (show (none : Option Int).isNone = true by rfl)] at H; exact H
  clear H
  have H := H1
  clear H1
  try simp only [errW_none, errW_some]
  replace H := Option.bind_eq_some_iff.mp H
  obtain ⟨⟨t255, t256⟩, A30, H⟩ := H
  replace H : (some (t255, t256)) = some (r1, r2) := H
  have A3 := ka A30
  clear A30
  simp only [Option.some.injEq, Prod.mk.injEq] at H
  obtain ⟨rfl, rfl⟩ := H
  go_enter Try.func34, Try.ntmps34
  go_wp2_with (first | ((with_reducible refine gate_dst (N := 1) rfl ?_); refine kx (N := 1) (cs := #[.int .i64 a0_0, .int .i64 a0_1, .int .i64 a0_2, .int .i64 a0_3, .int .i64 a0_4, .int .i64 a0_5, .int .i64 a0_6, .int .i64 a0_7, .int .i64 a0_8]) (t := 23) ?_; intro gb252 hg w4 hbox hb; have n0_ := ka (below_step (kw HB.out) hb); have n1_ := ka (hbox); have n2_ := ka ((by rw [hg]; exact (below_size (kw HB.out)) : w.heap.size ≤ gb252)); have n3_ := n2_; clear HB; have HB := n0_; have BK252 := n1_; have GW252 := n2_; have GE252 := n3_; clear n0_ n1_ n2_ n3_; clear hb hbox hg; have hcz5 := blkAll9 BK252.out) | ((with_reducible refine gate_callee (f := 41) rfl ?_); refine kg (some 6) rfl rfl Try.func41 (by kernel_rfl) rfl #[.agg #[.int .i64 a0_0, .int .i64 a0_1, .int .i64 a0_2, .int .i64 a0_3, .int .i64 a0_4, .int .i64 a0_5, .int .i64 a0_6, .int .i64 a0_7, .int .i64 a0_8]] rfl ?_; (with_reducible refine (terms_Check_s.calls a0_0 a0_1 a0_2 a0_3 a0_4 a0_5 a0_6 a0_7 a0_8 none _ A2.out).mono ?_); rintro e w6 ⟨rfl, hb⟩; refine ⟨_, rfl, ?_⟩; have n0_ := ka (blk_below (g := gb252) (kz BK252.out) hb); have n1_ := ka (below_step (kw HB.out) hb); clear BK252; clear HB; have BK252 := n0_; have HB := n1_; clear n0_ n1_; (try clear hb); (try clear hb2); (try clear hk); (try clear hi); (try simp only [errW_none, errW_some]); have hcz7 := blkAll9 BK252.out) | ((with_reducible refine gate_callee (f := 46) rfl ?_); refine kg (some 16) rfl rfl Try.func46 (by kernel_rfl) rfl #[.int .i64 a0_0, .int .i64 a0_1, .int .i64 a0_2] rfl ?_; (with_reducible refine (rate_Level_s.calls a0_0 a0_1 a0_2 t255 t256 _ A3.out).mono ?_); rintro e w8 ⟨rfl, hb⟩; refine ⟨_, rfl, ?_⟩; have n0_ := ka (blk_below (g := gb252) (kz BK252.out) hb); have n1_ := ka (below_step (kw HB.out) hb); clear BK252; clear HB; have BK252 := n0_; have HB := n1_; clear n0_ n1_; (try clear hb); (try clear hb2); (try clear hk); (try clear hi); (try simp only [errW_none, errW_some])) | ((with_reducible refine gate_load (T := 23) rfl ?_); first | refine load_event (g := gb252) rfl rfl rfl Try.underlying23 rfl (by (with_reducible repeat (first | apply kb1 | apply kb2 | apply kb3)); with_reducible exact BK252.out) (by kernel_rfl) ?_))
  go_ret2
  exact ⟨by first | rfl | (simp [errW_none, errW_some] <;> rfl) | (simp [*, errW_none, errW_some] <;> rfl), by repeat (first | (with_reducible first | exact HB.out | apply kc1 | apply kc2 | apply kc3 | refine kc4 ?_ GE252.out) | exact HB.out)⟩
 ·have H1 : (some (0, some q254)) = some (r1, r2) := by rw [if_neg (show ¬ (some q254).isNone = true by simp)] at H; exact H
  clear H
  have H := H1
  clear H1
  try simp only [errW_none, errW_some]
  simp only [Option.some.injEq, Prod.mk.injEq] at H
  obtain ⟨rfl, rfl⟩ := H
  go_enter Try.func34, Try.ntmps34
  go_wp2_with (first | ((with_reducible refine gate_dst (N := 1) rfl ?_); refine kx (N := 1) (cs := #[.int .i64 a0_0, .int .i64 a0_1, .int .i64 a0_2, .int .i64 a0_3, .int .i64 a0_4, .int .i64 a0_5, .int .i64 a0_6, .int .i64 a0_7, .int .i64 a0_8]) (t := 23) ?_; intro gb252 hg w9 hbox hb; have n0_ := ka (below_step (kw HB.out) hb); have n1_ := ka (hbox); have n2_ := ka ((by rw [hg]; exact (below_size (kw HB.out)) : w.heap.size ≤ gb252)); have n3_ := n2_; clear HB; have HB := n0_; have BK252 := n1_; have GW252 := n2_; have GE252 := n3_; clear n0_ n1_ n2_ n3_; clear hb hbox hg; have hcz10 := blkAll9 BK252.out) | ((with_reducible refine gate_callee (f := 41) rfl ?_); refine kg (some 6) rfl rfl Try.func41 (by kernel_rfl) rfl #[.agg #[.int .i64 a0_0, .int .i64 a0_1, .int .i64 a0_2, .int .i64 a0_3, .int .i64 a0_4, .int .i64 a0_5, .int .i64 a0_6, .int .i64 a0_7, .int .i64 a0_8]] rfl ?_; (with_reducible refine (terms_Check_s.calls a0_0 a0_1 a0_2 a0_3 a0_4 a0_5 a0_6 a0_7 a0_8 (some q254) _ A2.out).mono ?_); rintro e w11 ⟨rfl, hb⟩; refine ⟨_, rfl, ?_⟩; have n0_ := ka (blk_below (g := gb252) (kz BK252.out) hb); have n1_ := ka (below_step (kw HB.out) hb); clear BK252; clear HB; have BK252 := n0_; have HB := n1_; clear n0_ n1_; (try clear hb); (try clear hb2); (try clear hk); (try clear hi); (try simp only [errW_none, errW_some])) | ((with_reducible refine gate_load (T := 23) rfl ?_); first | refine load_event (g := gb252) rfl rfl rfl Try.underlying23 rfl (by (with_reducible repeat (first | apply kb1 | apply kb2 | apply kb3)); with_reducible exact BK252.out) (by kernel_rfl) ?_))
  go_ret2
  exact ⟨by first | rfl | (simp [errW_none, errW_some] <;> rfl) | (simp [*, errW_none, errW_some] <;> rfl), by repeat (first | (with_reducible first | exact HB.out | apply kc1 | apply kc2 | apply kc3 | refine kc4 ?_ GE252.out) | exact HB.out)⟩

/-! ### plan_Level_s: function 34, told plainly -/
theorem plan_Level.tells (b r m f e i w fe g : Int) (h : M.In r ∧ M.In f ∧ M.In fe) : plan_Level.f b r m f e i w fe g = some (if M.termsOk b r m f e i w fe g then (M.level m.toNat b r, none) else (0, some 1)) := by
 unfold plan_Level.f
 rw [terms_Check_s.at_ h, Option.bind_some]
 by_cases hok : M.termsOk b r m f e i w fe g
 ·rw [if_pos hok, if_pos hok]
  simp only [Option.isNone_none, if_true]
  have a := hok.2.1
  unfold M.moneyOk at a
  rw [rate_Level_s.yes ⟨⟨by omega, by omega, by omega, by omega⟩, hok.2.2.1, hok.2.2.2.1⟩]
  rfl
 ·rw [if_neg hok, if_neg hok]
  rfl
def plan_Level_s.f (b r m f e i w fe g : Int) : Option (Int × Option Int) := if M.In r ∧ M.In f ∧ M.In fe then some (if M.termsOk b r m f e i w fe g then (M.level m.toNat b r, none) else (0, some 1)) else none
theorem plan_Level_s.calls (a0_0 : Int) (a0_1 : Int) (a0_2 : Int) (a0_3 : Int) (a0_4 : Int) (a0_5 : Int) (a0_6 : Int) (a0_7 : Int) (a0_8 : Int) (r1 : Int) (r2 : Option Int) (w : World) (h : plan_Level_s.f a0_0 a0_1 a0_2 a0_3 a0_4 a0_5 a0_6 a0_7 a0_8 = some (r1, r2)) :
  Calls Try.prog 34 #[.agg #[.int .i64 a0_0, .int .i64 a0_1, .int .i64 a0_2, .int .i64 a0_3, .int .i64 a0_4, .int .i64 a0_5, .int .i64 a0_6, .int .i64 a0_7, .int .i64 a0_8]] w fun e w' => e = .returned (.tuple #[.int .i64 r1, errW r2]) ∧ Below w.heap.size w w' := by
 unfold plan_Level_s.f at h
 split at h
 ·rename_i hr
  exact plan_Level.calls a0_0 a0_1 a0_2 a0_3 a0_4 a0_5 a0_6 a0_7 a0_8 r1 r2 w ((plan_Level.tells a0_0 a0_1 a0_2 a0_3 a0_4 a0_5 a0_6 a0_7 a0_8 hr).trans h)
 ·cases h
theorem plan_Level_s.at_ {b r m f e i w fe g : Int} (h : M.In r ∧ M.In f ∧ M.In fe) : plan_Level_s.f b r m f e i w fe g = some (if M.termsOk b r m f e i w fe g then (M.level m.toNat b r, none) else (0, some 1)) := by unfold plan_Level_s.f; rw [if_pos h]

/-! ### water_New: function 21 -/
def water_New.f (a0_0 : Int) (a0_1 : Int) (a0_2 : Int) (a0_3 : Int) (a0_4 : Int) (a0_5 : Int) (a0_6 : Int) (a0_7 : Int) (a0_8 : Int) : Option (Int × Int × Int × Int × Int × Int × Int × Int × Int × Int × Int × Int × Int × Int × Int × Option Int) := (plan_Level_s.f a0_0 a0_1 a0_2 a0_3 a0_4 a0_5 a0_6 a0_7 a0_8).bind fun bt259 => (if bt259.2.isNone = true then (some (a0_0, a0_1, a0_2, a0_3, a0_4, a0_5, a0_6, a0_7, a0_8, a0_0, bt259.1, a0_3, 0, 0, 0, none)) else (some (0, 0, 0, 0, 0, 0, 0, 0, 0, 0, 0, 0, 0, 0, 0, some (bt259.2.getD 0))))
set_option maxHeartbeats 8000000 in
set_option maxRecDepth 100000 in
theorem water_New.calls (a0_0 : Int) (a0_1 : Int) (a0_2 : Int) (a0_3 : Int) (a0_4 : Int) (a0_5 : Int) (a0_6 : Int) (a0_7 : Int) (a0_8 : Int) (r1 : Int) (r2 : Int) (r3 : Int) (r4 : Int) (r5 : Int) (r6 : Int) (r7 : Int) (r8 : Int) (r9 : Int) (r10 : Int) (r11 : Int) (r12 : Int) (r13 : Int) (r14 : Int) (r15 : Int) (r16 : Option Int) (w : World) (h : water_New.f a0_0 a0_1 a0_2 a0_3 a0_4 a0_5 a0_6 a0_7 a0_8 = some (r1, r2, r3, r4, r5, r6, r7, r8, r9, r10, r11, r12, r13, r14, r15, r16)) :
  Calls Try.prog 21 #[.agg #[.int .i64 a0_0, .int .i64 a0_1, .int .i64 a0_2, .int .i64 a0_3, .int .i64 a0_4, .int .i64 a0_5, .int .i64 a0_6, .int .i64 a0_7, .int .i64 a0_8]] w fun e w' => e = .returned (.tuple #[.agg #[.int .i64 r1, .int .i64 r2, .int .i64 r3, .int .i64 r4, .int .i64 r5, .int .i64 r6, .int .i64 r7, .int .i64 r8, .int .i64 r9, .int .i64 r10, .int .i64 r11, .int .i64 r12, .int .i64 r13, .int .i64 r14, .int .i64 r15], errW r16]) ∧ Below w.heap.size w w' := by
 have hu23 := Try.underlying23
 have hu25 := Try.underlying25
 have hu30 := Try.underlying30
 have hu34 := Try.underlying34
 have HB := ka (Below.refl w.heap.size w)
 have H : ((plan_Level_s.f a0_0 a0_1 a0_2 a0_3 a0_4 a0_5 a0_6 a0_7 a0_8).bind fun bt259 => (if bt259.2.isNone = true then (some (a0_0, a0_1, a0_2, a0_3, a0_4, a0_5, a0_6, a0_7, a0_8, a0_0, bt259.1, a0_3, 0, 0, 0, none)) else (some (0, 0, 0, 0, 0, 0, 0, 0, 0, 0, 0, 0, 0, 0, 0, some (bt259.2.getD 0))))) = some (r1, r2, r3, r4, r5, r6, r7, r8, r9, r10, r11, r12, r13, r14, r15, r16) := h
 clear h
 replace H := Option.bind_eq_some_iff.mp H
 obtain ⟨⟨t259, t260⟩, A20, H⟩ := H
 replace H : (if t260.isNone = true then (some (a0_0, a0_1, a0_2, a0_3, a0_4, a0_5, a0_6, a0_7, a0_8, a0_0, t259, a0_3, 0, 0, 0, none)) else (some (0, 0, 0, 0, 0, 0, 0, 0, 0, 0, 0, 0, 0, 0, 0, some (t260.getD 0)))) = some (r1, r2, r3, r4, r5, r6, r7, r8, r9, r10, r11, r12, r13, r14, r15, r16) := H
 have A2 := ka A20
 clear A20
 rcases t260 with _ | q261
 ·have H1 : (some (a0_0, a0_1, a0_2, a0_3, a0_4, a0_5, a0_6, a0_7, a0_8, a0_0, t259, a0_3, 0, 0, 0, none)) = some (r1, r2, r3, r4, r5, r6, r7, r8, r9, r10, r11, r12, r13, r14, r15, r16) := by rw [if_pos (show (none : Option Int).isNone = true by rfl)] at H; exact H
  clear H
  have H := H1
  clear H1
  try simp only [errW_none, errW_some]
  simp only [Option.some.injEq, Prod.mk.injEq] at H
  obtain ⟨rfl, rfl, rfl, rfl, rfl, rfl, rfl, rfl, rfl, rfl, rfl, rfl, rfl, rfl, rfl, rfl⟩ := H
  go_enter Try.func21, Try.ntmps21
  go_wp2_with (first | ((with_reducible refine gate_dst (N := 1) rfl ?_); refine kx (N := 1) (cs := #[.int .i64 a0_0, .int .i64 a0_1, .int .i64 a0_2, .int .i64 a0_3, .int .i64 a0_4, .int .i64 a0_5, .int .i64 a0_6, .int .i64 a0_7, .int .i64 a0_8]) (t := 23) ?_; intro gb257 hg w3 hbox hb; have n0_ := ka (below_step (kw HB.out) hb); have n1_ := ka (hbox); have n2_ := ka ((by rw [hg]; exact (below_size (kw HB.out)) : w.heap.size ≤ gb257)); have n3_ := n2_; clear HB; have HB := n0_; have BK257 := n1_; have GW257 := n2_; have GE257 := n3_; clear n0_ n1_ n2_ n3_; clear hb hbox hg) | ((with_reducible refine gate_dst (N := 2) rfl ?_); refine kx (N := 2) (cs := #[.int .i64 0, .int .i64 0, .int .i64 0, .int .i64 0, .int .i64 0, .int .i64 0, .int .i64 0, .int .i64 0, .int .i64 0, .int .i64 0, .int .i64 0, .int .i64 0, .int .i64 0, .int .i64 0, .int .i64 0]) (t := 25) ?_; intro gb258 hg w4 hbox hb; have n0_ := ka (blk_below (g := gb257) (kz BK257.out) hb); have n1_ := ka (below_step (kw HB.out) hb); have n2_ := ka (hbox); have n3_ := ka ((by rw [hg]; exact (below_size (kw HB.out)) : w.heap.size ≤ gb258)); have n4_ := n3_; have n5_ := ka ((by rw [hg]; exact Nat.ne_of_lt (blk_lt (g := gb257) (kz BK257.out)) : gb257 ≠ gb258)); have n6_ := ka n5_.out.symm; clear BK257; clear HB; have BK257 := n0_; have HB := n1_; have BK258 := n2_; have GW258 := n3_; have GE258 := n4_; have NB257_258 := n5_; have NB258_257 := n6_; clear n0_ n1_ n2_ n3_ n4_ n5_ n6_; clear hb hbox hg; have hnb5 := NB257_258.out; have hnc5 := NB258_257.out; have hcz6 := blkAll9 BK257.out) | ((with_reducible refine gate_callee (f := 34) rfl ?_); refine kg (some 8) rfl rfl Try.func34 (by kernel_rfl) rfl #[.agg #[.int .i64 a0_0, .int .i64 a0_1, .int .i64 a0_2, .int .i64 a0_3, .int .i64 a0_4, .int .i64 a0_5, .int .i64 a0_6, .int .i64 a0_7, .int .i64 a0_8]] rfl ?_; (with_reducible refine (plan_Level_s.calls a0_0 a0_1 a0_2 a0_3 a0_4 a0_5 a0_6 a0_7 a0_8 t259 none _ A2.out).mono ?_); rintro e w7 ⟨rfl, hb⟩; refine ⟨_, rfl, ?_⟩; have n0_ := ka (blk_below (g := gb257) (kz BK257.out) hb); have n1_ := ka (blk_below (g := gb258) (kz BK258.out) hb); have n2_ := ka (below_step (kw HB.out) hb); clear BK257; clear BK258; clear HB; have BK257 := n0_; have BK258 := n1_; have HB := n2_; clear n0_ n1_ n2_; (try clear hb); (try clear hb2); (try clear hk); (try clear hi); (try simp only [errW_none, errW_some]); have hcz8 := blkAll9 BK257.out; have hcz9 := blkAll15 BK258.out) | ((with_reducible refine gate_load (T := 23) rfl ?_); first | refine load_event (g := gb257) rfl rfl rfl Try.underlying23 rfl (by (with_reducible repeat (first | apply kb1 | apply kb2 | apply kb3)); with_reducible exact BK257.out) (by kernel_rfl) ?_) | ((with_reducible refine gate_store (T := 25) rfl ?_); first | (refine store_event (g := gb258) rfl rfl rfl rfl rfl (by (with_reducible repeat (first | apply kb1 | apply kb2 | apply kb3)); with_reducible exact BK258.out) (by kernel_rfl) (by rfl) (by rfl) ?_; intro w_258 eX eO eB; (try (replace BK257 := ka ((eO _ NB257_258.out).trans (by (with_reducible repeat (first | apply kb1 | apply kb2 | apply kb3)); with_reducible exact BK257.out)))); replace BK258 := ka eX; replace HB := ka (eB _ _ (kw HB.out) GE258.out); clear eX eO eB; (try have hz257 := blkAll9 BK257.out); (try have hz258 := blkAll15 BK258.out); (try have hy257 := NB257_258.out); (try have hx257 := NB258_257.out))))
  refine bodyPost_ret (results_ct rfl _ _ gb258 25 #[.int .i64 a0_0, .int .i64 a0_1, .int .i64 a0_2, .int .i64 a0_3, .int .i64 a0_4, .int .i64 a0_5, .int .i64 a0_6, .int .i64 a0_7, .int .i64 a0_8, .int .i64 a0_0, .int .i64 t259, .int .i64 a0_3, .int .i64 0, .int .i64 0, .int .i64 0] (0, 0) _ rfl (by (with_reducible repeat (first | apply kb1 | apply kb2 | apply kb3 | apply blkPut15_14 | apply blkPut15_13 | apply blkPut15_12 | apply blkPut15_11 | apply blkPut15_10 | apply blkPut15_9 | apply blkPut15_8 | apply blkPut15_7 | apply blkPut15_6 | apply blkPut15_5 | apply blkPut15_4 | apply blkPut15_3 | apply blkPut15_2 | apply blkPut15_1 | apply blkPut15_0)); exact BK258.out) Try.underlying25 rfl (by kernel_rfl)) rfl ?_
  exact ⟨by first | rfl | (simp [errW_none, errW_some] <;> rfl) | (simp [*, errW_none, errW_some] <;> rfl), by repeat (first | (with_reducible first | exact HB.out | apply kc1 | apply kc2 | apply kc3 | refine kc4 ?_ GE257.out | refine kc4 ?_ GE258.out) | exact HB.out)⟩
 ·have H1 : (some (0, 0, 0, 0, 0, 0, 0, 0, 0, 0, 0, 0, 0, 0, 0, some q261)) = some (r1, r2, r3, r4, r5, r6, r7, r8, r9, r10, r11, r12, r13, r14, r15, r16) := by rw [if_neg (show ¬ (some q261).isNone = true by simp)] at H; exact H
  clear H
  have H := H1
  clear H1
  try simp only [errW_none, errW_some]
  simp only [Option.some.injEq, Prod.mk.injEq] at H
  obtain ⟨rfl, rfl, rfl, rfl, rfl, rfl, rfl, rfl, rfl, rfl, rfl, rfl, rfl, rfl, rfl, rfl⟩ := H
  go_enter Try.func21, Try.ntmps21
  go_wp2_with (first | ((with_reducible refine gate_dst (N := 1) rfl ?_); refine kx (N := 1) (cs := #[.int .i64 a0_0, .int .i64 a0_1, .int .i64 a0_2, .int .i64 a0_3, .int .i64 a0_4, .int .i64 a0_5, .int .i64 a0_6, .int .i64 a0_7, .int .i64 a0_8]) (t := 23) ?_; intro gb257 hg w10 hbox hb; have n0_ := ka (below_step (kw HB.out) hb); have n1_ := ka (hbox); have n2_ := ka ((by rw [hg]; exact (below_size (kw HB.out)) : w.heap.size ≤ gb257)); have n3_ := n2_; clear HB; have HB := n0_; have BK257 := n1_; have GW257 := n2_; have GE257 := n3_; clear n0_ n1_ n2_ n3_; clear hb hbox hg) | ((with_reducible refine gate_dst (N := 2) rfl ?_); refine kx (N := 2) (cs := #[.int .i64 0, .int .i64 0, .int .i64 0, .int .i64 0, .int .i64 0, .int .i64 0, .int .i64 0, .int .i64 0, .int .i64 0, .int .i64 0, .int .i64 0, .int .i64 0, .int .i64 0, .int .i64 0, .int .i64 0]) (t := 25) ?_; intro gb258 hg w11 hbox hb; have n0_ := ka (blk_below (g := gb257) (kz BK257.out) hb); have n1_ := ka (below_step (kw HB.out) hb); have n2_ := ka (hbox); have n3_ := ka ((by rw [hg]; exact (below_size (kw HB.out)) : w.heap.size ≤ gb258)); have n4_ := n3_; have n5_ := ka ((by rw [hg]; exact Nat.ne_of_lt (blk_lt (g := gb257) (kz BK257.out)) : gb257 ≠ gb258)); have n6_ := ka n5_.out.symm; clear BK257; clear HB; have BK257 := n0_; have HB := n1_; have BK258 := n2_; have GW258 := n3_; have GE258 := n4_; have NB257_258 := n5_; have NB258_257 := n6_; clear n0_ n1_ n2_ n3_ n4_ n5_ n6_; clear hb hbox hg; have hnb12 := NB257_258.out; have hnc12 := NB258_257.out; have hcz13 := blkAll9 BK257.out) | ((with_reducible refine gate_callee (f := 34) rfl ?_); refine kg (some 8) rfl rfl Try.func34 (by kernel_rfl) rfl #[.agg #[.int .i64 a0_0, .int .i64 a0_1, .int .i64 a0_2, .int .i64 a0_3, .int .i64 a0_4, .int .i64 a0_5, .int .i64 a0_6, .int .i64 a0_7, .int .i64 a0_8]] rfl ?_; (with_reducible refine (plan_Level_s.calls a0_0 a0_1 a0_2 a0_3 a0_4 a0_5 a0_6 a0_7 a0_8 t259 (some q261) _ A2.out).mono ?_); rintro e w14 ⟨rfl, hb⟩; refine ⟨_, rfl, ?_⟩; have n0_ := ka (blk_below (g := gb257) (kz BK257.out) hb); have n1_ := ka (blk_below (g := gb258) (kz BK258.out) hb); have n2_ := ka (below_step (kw HB.out) hb); clear BK257; clear BK258; clear HB; have BK257 := n0_; have BK258 := n1_; have HB := n2_; clear n0_ n1_ n2_; (try clear hb); (try clear hb2); (try clear hk); (try clear hi); (try simp only [errW_none, errW_some]); have hcz15 := blkAll15 BK258.out) | ((with_reducible refine gate_load (T := 23) rfl ?_); first | refine load_event (g := gb257) rfl rfl rfl Try.underlying23 rfl (by (with_reducible repeat (first | apply kb1 | apply kb2 | apply kb3)); with_reducible exact BK257.out) (by kernel_rfl) ?_) | ((with_reducible refine gate_store (T := 25) rfl ?_); first | (refine store_event (g := gb258) rfl rfl rfl rfl rfl (by (with_reducible repeat (first | apply kb1 | apply kb2 | apply kb3)); with_reducible exact BK258.out) (by kernel_rfl) (by rfl) (by rfl) ?_; intro w_258 eX eO eB; (try (replace BK257 := ka ((eO _ NB257_258.out).trans (by (with_reducible repeat (first | apply kb1 | apply kb2 | apply kb3)); with_reducible exact BK257.out)))); replace BK258 := ka eX; replace HB := ka (eB _ _ (kw HB.out) GE258.out); clear eX eO eB; (try have hz257 := blkAll9 BK257.out); (try have hz258 := blkAll15 BK258.out); (try have hy257 := NB257_258.out); (try have hx257 := NB258_257.out))))
  refine bodyPost_ret (results_ct rfl _ _ gb258 25 #[.int .i64 0, .int .i64 0, .int .i64 0, .int .i64 0, .int .i64 0, .int .i64 0, .int .i64 0, .int .i64 0, .int .i64 0, .int .i64 0, .int .i64 0, .int .i64 0, .int .i64 0, .int .i64 0, .int .i64 0] (0, 0) _ rfl (by (with_reducible repeat (first | apply kb1 | apply kb2 | apply kb3 | apply blkPut15_14 | apply blkPut15_13 | apply blkPut15_12 | apply blkPut15_11 | apply blkPut15_10 | apply blkPut15_9 | apply blkPut15_8 | apply blkPut15_7 | apply blkPut15_6 | apply blkPut15_5 | apply blkPut15_4 | apply blkPut15_3 | apply blkPut15_2 | apply blkPut15_1 | apply blkPut15_0)); exact BK258.out) Try.underlying25 rfl (by kernel_rfl)) rfl ?_
  exact ⟨by first | rfl | (simp [errW_none, errW_some] <;> rfl) | (simp [*, errW_none, errW_some] <;> rfl), by repeat (first | (with_reducible first | exact HB.out | apply kc1 | apply kc2 | apply kc3 | refine kc4 ?_ GE257.out | refine kc4 ?_ GE258.out) | exact HB.out)⟩

/-! ### trivetlaw13_up: function 10 -/
def trivetlaw13_up.f  : Option (Bool) := (trivetlaw13_plain.f).bind fun bt262 => ((water_Pay_s.f bt262.1 bt262.2.1 bt262.2.2.1 bt262.2.2.2.1 bt262.2.2.2.2.1 bt262.2.2.2.2.2.1 bt262.2.2.2.2.2.2.1 bt262.2.2.2.2.2.2.2.1 bt262.2.2.2.2.2.2.2.2.1 bt262.2.2.2.2.2.2.2.2.2.1 bt262.2.2.2.2.2.2.2.2.2.2.1 bt262.2.2.2.2.2.2.2.2.2.2.2.1 bt262.2.2.2.2.2.2.2.2.2.2.2.2.1 bt262.2.2.2.2.2.2.2.2.2.2.2.2.2.1 bt262.2.2.2.2.2.2.2.2.2.2.2.2.2.2 18300 250).bind fun bt277 => ((water_New.f 0 0 0 0 0 0 0 0 0).bind fun bt301 => (if bt277.2.2.2.2.2.2.2.2.2.2.2.2.2.2.2.2.2.2.2.2.2.isNone = true then (if bt277.2.2.2.2.2.2.2.2.2.2.2.2.2.2.2.1 = 2 then (if bt277.2.2.2.2.2.2.2.2.2.2.2.2.2.2.2.2.2.2.2.2.1 = 50 then (if bt277.2.2.2.2.2.2.2.2.2.2.2.2.2.1 = 50 then (if bt277.2.2.2.2.2.2.2.2.2.1 = 1000 then (if bt301.2.2.2.2.2.2.2.2.2.2.2.2.2.2.2.isNone = true then (some false) else (some ((bt301.2.2.2.2.2.2.2.2.2.2.2.2.2.2.2.getD 0) == 1))) else (some false)) else (some false)) else (some false)) else (some false)) else (some false))))
set_option maxHeartbeats 8000000 in
set_option maxRecDepth 100000 in
theorem trivetlaw13_up.calls  (r : Bool) (w : World) (h : trivetlaw13_up.f  = some r) :
  Calls Try.prog 10 #[] w fun e w' => e = .returned (.bool r) ∧ Below w.heap.size w w' := by
 have hu25 := Try.underlying25
 have hu28 := Try.underlying28
 have hu23 := Try.underlying23
 have hu30 := Try.underlying30
 have hu34 := Try.underlying34
 have HB := ka (Below.refl w.heap.size w)
 have H : ((trivetlaw13_plain.f).bind fun bt262 => ((water_Pay_s.f bt262.1 bt262.2.1 bt262.2.2.1 bt262.2.2.2.1 bt262.2.2.2.2.1 bt262.2.2.2.2.2.1 bt262.2.2.2.2.2.2.1 bt262.2.2.2.2.2.2.2.1 bt262.2.2.2.2.2.2.2.2.1 bt262.2.2.2.2.2.2.2.2.2.1 bt262.2.2.2.2.2.2.2.2.2.2.1 bt262.2.2.2.2.2.2.2.2.2.2.2.1 bt262.2.2.2.2.2.2.2.2.2.2.2.2.1 bt262.2.2.2.2.2.2.2.2.2.2.2.2.2.1 bt262.2.2.2.2.2.2.2.2.2.2.2.2.2.2 18300 250).bind fun bt277 => ((water_New.f 0 0 0 0 0 0 0 0 0).bind fun bt301 => (if bt277.2.2.2.2.2.2.2.2.2.2.2.2.2.2.2.2.2.2.2.2.2.isNone = true then (if bt277.2.2.2.2.2.2.2.2.2.2.2.2.2.2.2.1 = 2 then (if bt277.2.2.2.2.2.2.2.2.2.2.2.2.2.2.2.2.2.2.2.2.1 = 50 then (if bt277.2.2.2.2.2.2.2.2.2.2.2.2.2.1 = 50 then (if bt277.2.2.2.2.2.2.2.2.2.1 = 1000 then (if bt301.2.2.2.2.2.2.2.2.2.2.2.2.2.2.2.isNone = true then (some false) else (some ((bt301.2.2.2.2.2.2.2.2.2.2.2.2.2.2.2.getD 0) == 1))) else (some false)) else (some false)) else (some false)) else (some false)) else (some false))))) = some r := h
 clear h
 replace H := Option.bind_eq_some_iff.mp H
 obtain ⟨⟨t262, t263, t264, t265, t266, t267, t268, t269, t270, t271, t272, t273, t274, t275, t276⟩, A10, H⟩ := H
 replace H : ((water_Pay_s.f t262 t263 t264 t265 t266 t267 t268 t269 t270 t271 t272 t273 t274 t275 t276 18300 250).bind fun bt277 => ((water_New.f 0 0 0 0 0 0 0 0 0).bind fun bt301 => (if bt277.2.2.2.2.2.2.2.2.2.2.2.2.2.2.2.2.2.2.2.2.2.isNone = true then (if bt277.2.2.2.2.2.2.2.2.2.2.2.2.2.2.2.1 = 2 then (if bt277.2.2.2.2.2.2.2.2.2.2.2.2.2.2.2.2.2.2.2.2.1 = 50 then (if bt277.2.2.2.2.2.2.2.2.2.2.2.2.2.1 = 50 then (if bt277.2.2.2.2.2.2.2.2.2.1 = 1000 then (if bt301.2.2.2.2.2.2.2.2.2.2.2.2.2.2.2.isNone = true then (some false) else (some ((bt301.2.2.2.2.2.2.2.2.2.2.2.2.2.2.2.getD 0) == 1))) else (some false)) else (some false)) else (some false)) else (some false)) else (some false)))) = some r := H
 have A1 := ka A10
 clear A10
 replace H := Option.bind_eq_some_iff.mp H
 obtain ⟨⟨t277, t278, t279, t280, t281, t282, t283, t284, t285, t286, t287, t288, t289, t290, t291, t292, t293, t294, t295, t296, t297, t298⟩, A20, H⟩ := H
 replace H : ((water_New.f 0 0 0 0 0 0 0 0 0).bind fun bt301 => (if t298.isNone = true then (if t292 = 2 then (if t297 = 50 then (if t290 = 50 then (if t286 = 1000 then (if bt301.2.2.2.2.2.2.2.2.2.2.2.2.2.2.2.isNone = true then (some false) else (some ((bt301.2.2.2.2.2.2.2.2.2.2.2.2.2.2.2.getD 0) == 1))) else (some false)) else (some false)) else (some false)) else (some false)) else (some false))) = some r := H
 have A2 := ka A20
 clear A20
 replace H := Option.bind_eq_some_iff.mp H
 obtain ⟨⟨t301, t302, t303, t304, t305, t306, t307, t308, t309, t310, t311, t312, t313, t314, t315, t316⟩, A30, H⟩ := H
 replace H : (if t298.isNone = true then (if t292 = 2 then (if t297 = 50 then (if t290 = 50 then (if t286 = 1000 then (if t316.isNone = true then (some false) else (some ((t316.getD 0) == 1))) else (some false)) else (some false)) else (some false)) else (some false)) else (some false)) = some r := H
 have A3 := ka A30
 clear A30
 rcases t298 with _ | q318
 ·have H1 : (if t292 = 2 then (if t297 = 50 then (if t290 = 50 then (if t286 = 1000 then (if t316.isNone = true then (some false) else (some ((t316.getD 0) == 1))) else (some false)) else (some false)) else (some false)) else (some false)) = some r := by rw [if_pos (show (none : Option Int).isNone = true by rfl)] at H; exact H
  clear H
  have H := H1
  clear H1
  try simp only [errW_none, errW_some]
  by_cases c4 : t292 = 2
  ·rw [if_pos c4] at H
   have c4b0 : (t292 == 2) = true := beq_iff_eq.mpr c4
   have c4b1 : (t292 != 2) = false := bne_eq_false_iff_eq.mpr c4
   clear c4
   by_cases c5 : t297 = 50
   ·rw [if_pos c5] at H
    have c5b0 : (t297 == 50) = true := beq_iff_eq.mpr c5
    have c5b1 : (t297 != 50) = false := bne_eq_false_iff_eq.mpr c5
    clear c5
    by_cases c6 : t290 = 50
    ·rw [if_pos c6] at H
     have c6b0 : (t290 == 50) = true := beq_iff_eq.mpr c6
     have c6b1 : (t290 != 50) = false := bne_eq_false_iff_eq.mpr c6
     clear c6
     by_cases c7 : t286 = 1000
     ·rw [if_pos c7] at H
      have c7b0 : (t286 == 1000) = true := beq_iff_eq.mpr c7
      have c7b1 : (t286 != 1000) = false := bne_eq_false_iff_eq.mpr c7
      clear c7
      rcases t316 with _ | q319
      ·have H1 : (some false) = some r := by rw [if_pos (show (none : Option Int).isNone = true by rfl)] at H; exact H
       clear H
       have H := H1
       clear H1
       try simp only [errW_none, errW_some]
       obtain rfl := Option.some.inj H
       go_enter Try.func10, Try.ntmps10
       go_wp2_with (first | ((with_reducible refine gate_callee (f := 20) rfl ?_); refine kg (some 7) rfl rfl Try.func20 (by kernel_rfl) rfl #[] rfl ?_; (with_reducible refine (trivetlaw13_plain.calls  t262 t263 t264 t265 t266 t267 t268 t269 t270 t271 t272 t273 t274 t275 t276 _ A1.out).mono ?_); rintro e w8 ⟨rfl, hb⟩; refine ⟨_, rfl, ?_⟩; have n0_ := ka (below_step (kw HB.out) hb); clear HB; have HB := n0_; clear n0_; (try clear hb); (try clear hb2); (try clear hk); (try clear hi)) | ((with_reducible refine gate_callee (f := 11) rfl ?_); refine kg (some 8) rfl rfl Try.func11 (by kernel_rfl) rfl #[.agg #[.int .i64 t262, .int .i64 t263, .int .i64 t264, .int .i64 t265, .int .i64 t266, .int .i64 t267, .int .i64 t268, .int .i64 t269, .int .i64 t270, .int .i64 t271, .int .i64 t272, .int .i64 t273, .int .i64 t274, .int .i64 t275, .int .i64 t276], .int .i64 18300, .int .i64 250] rfl ?_; (with_reducible refine (water_Pay_s.calls t262 t263 t264 t265 t266 t267 t268 t269 t270 t271 t272 t273 t274 t275 t276 18300 250 t277 t278 t279 t280 t281 t282 t283 t284 t285 t286 t287 t288 t289 t290 t291 t292 t293 t294 t295 t296 t297 none _ A2.out).mono ?_); rintro e w9 ⟨rfl, hb⟩; refine ⟨_, rfl, ?_⟩; have n0_ := ka (below_step (kw HB.out) hb); clear HB; have HB := n0_; clear n0_; (try clear hb); (try clear hb2); (try clear hk); (try clear hi); (try simp only [errW_none, errW_some])) | ((with_reducible refine gate_dst (N := 1) rfl ?_); refine kx (N := 1) (cs := #[.int .i64 0, .int .i64 0, .int .i64 0, .int .i64 0, .int .i64 0, .int .i64 0, .int .i64 0, .int .i64 0, .int .i64 0, .int .i64 0, .int .i64 0, .int .i64 0, .int .i64 0, .int .i64 0, .int .i64 0]) (t := 25) ?_; intro gb299 hg w10 hbox hb; have n0_ := ka (below_step (kw HB.out) hb); have n1_ := ka (hbox); have n2_ := ka ((by rw [hg]; exact (below_size (kw HB.out)) : w.heap.size ≤ gb299)); have n3_ := n2_; clear HB; have HB := n0_; have BK299 := n1_; have GW299 := n2_; have GE299 := n3_; clear n0_ n1_ n2_ n3_; clear hb hbox hg) | ((with_reducible refine gate_dst (N := 2) rfl ?_); refine kx (N := 2) (cs := #[.int .i64 0, .int .i64 0, .int .i64 0, .int .i64 0, .int .i64 0, .int .i64 0]) (t := 28) ?_; intro gb300 hg w11 hbox hb; have n0_ := ka (blk_below (g := gb299) (kz BK299.out) hb); have n1_ := ka (below_step (kw HB.out) hb); have n2_ := ka (hbox); have n3_ := ka ((by rw [hg]; exact (below_size (kw HB.out)) : w.heap.size ≤ gb300)); have n4_ := n3_; have n5_ := ka ((by rw [hg]; exact Nat.ne_of_lt (blk_lt (g := gb299) (kz BK299.out)) : gb299 ≠ gb300)); have n6_ := ka n5_.out.symm; clear BK299; clear HB; have BK299 := n0_; have HB := n1_; have BK300 := n2_; have GW300 := n3_; have GE300 := n4_; have NB299_300 := n5_; have NB300_299 := n6_; clear n0_ n1_ n2_ n3_ n4_ n5_ n6_; clear hb hbox hg; have hnb12 := NB299_300.out; have hnc12 := NB300_299.out; have hcz13 := blkAll15 BK299.out; have hcz14 := blkAll6 BK300.out) | ((with_reducible refine gate_callee (f := 21) rfl ?_); refine kg (some 14) rfl rfl Try.func21 (by kernel_rfl) rfl #[.agg #[.int .i64 0, .int .i64 0, .int .i64 0, .int .i64 0, .int .i64 0, .int .i64 0, .int .i64 0, .int .i64 0, .int .i64 0]] rfl ?_; (with_reducible refine (water_New.calls 0 0 0 0 0 0 0 0 0 t301 t302 t303 t304 t305 t306 t307 t308 t309 t310 t311 t312 t313 t314 t315 none _ A3.out).mono ?_); rintro e w15 ⟨rfl, hb⟩; refine ⟨_, rfl, ?_⟩; have n0_ := ka (blk_below (g := gb299) (o := .cells #[.int .i64 t277, .int .i64 t278, .int .i64 t279, .int .i64 t280, .int .i64 t281, .int .i64 t282, .int .i64 t283, .int .i64 t284, .int .i64 t285, .int .i64 t286, .int .i64 t287, .int .i64 t288, .int .i64 t289, .int .i64 t290, .int .i64 t291] 25 (0, 0)) (by (with_reducible repeat (first | apply kb1 | apply kb2 | apply kb3 | refine kb4 ?_ NB299_300.out _ | apply blkPut15_14 | apply blkPut15_13 | apply blkPut15_12 | apply blkPut15_11 | apply blkPut15_10 | apply blkPut15_9 | apply blkPut15_8 | apply blkPut15_7 | apply blkPut15_6 | apply blkPut15_5 | apply blkPut15_4 | apply blkPut15_3 | apply blkPut15_2 | apply blkPut15_1 | apply blkPut15_0)); exact BK299.out) hb); have n1_ := ka (blk_below (g := gb300) (o := .cells #[.int .i64 t292, .int .i64 t293, .int .i64 t294, .int .i64 t295, .int .i64 t296, .int .i64 t297] 28 (0, 0)) (by (with_reducible repeat (first | apply kb1 | apply kb2 | apply kb3 | apply blkPut6_5 | apply blkPut6_4 | apply blkPut6_3 | apply blkPut6_2 | apply blkPut6_1 | apply blkPut6_0 | refine kb4 ?_ NB300_299.out _)); exact BK300.out) hb); have n2_ := ka (below_step (kw HB.out) hb); clear BK299; clear BK300; clear HB; have BK299 := n0_; have BK300 := n1_; have HB := n2_; clear n0_ n1_ n2_; (try clear hb); (try clear hb2); (try clear hk); (try clear hi); (try simp only [errW_none, errW_some])) | ((with_reducible refine gate_dst (N := 4) rfl ?_); refine kx (N := 4) (cs := #[.int .i64 0, .int .i64 0, .int .i64 0, .int .i64 0, .int .i64 0, .int .i64 0, .int .i64 0, .int .i64 0, .int .i64 0, .int .i64 0, .int .i64 0, .int .i64 0, .int .i64 0, .int .i64 0, .int .i64 0]) (t := 25) ?_; intro gb317 hg w16 hbox hb; have n0_ := ka (blk_below (g := gb299) (kz BK299.out) hb); have n1_ := ka (blk_below (g := gb300) (kz BK300.out) hb); have n2_ := ka (below_step (kw HB.out) hb); have n3_ := ka (hbox); have n4_ := ka ((by rw [hg]; exact (below_size (kw HB.out)) : w.heap.size ≤ gb317)); have n5_ := n4_; have n6_ := ka ((by rw [hg]; exact Nat.ne_of_lt (blk_lt (g := gb299) (kz BK299.out)) : gb299 ≠ gb317)); have n7_ := ka n6_.out.symm; have n8_ := ka ((by rw [hg]; exact Nat.ne_of_lt (blk_lt (g := gb300) (kz BK300.out)) : gb300 ≠ gb317)); have n9_ := ka n8_.out.symm; clear BK299; clear BK300; clear HB; have BK299 := n0_; have BK300 := n1_; have HB := n2_; have BK317 := n3_; have GW317 := n4_; have GE317 := n5_; have NB299_317 := n6_; have NB317_299 := n7_; have NB300_317 := n8_; have NB317_300 := n9_; clear n0_ n1_ n2_ n3_ n4_ n5_ n6_ n7_ n8_ n9_; clear hb hbox hg; have hnb17 := NB317_299.out; have hnc17 := NB299_317.out; have hnb18 := NB317_300.out; have hnc18 := NB300_317.out; have hcz19 := blkAll15 BK317.out; have hcz20 := blkAll6 BK300.out; have hcz21 := blkAll15 BK299.out) | ((with_reducible refine gate_store (T := 25) rfl ?_); first | (refine store_event (g := gb299) rfl rfl rfl rfl rfl (by (with_reducible repeat (first | apply kb1 | apply kb2 | apply kb3)); with_reducible exact BK299.out) (by kernel_rfl) (by rfl) (by rfl) ?_; intro w_299 eX eO eB; (try (replace BK300 := ka ((eO _ NB300_299.out).trans (by (with_reducible repeat (first | apply kb1 | apply kb2 | apply kb3)); with_reducible exact BK300.out)))); (try (replace BK317 := ka ((eO _ NB317_299.out).trans (by (with_reducible repeat (first | apply kb1 | apply kb2 | apply kb3)); with_reducible exact BK317.out)))); replace BK299 := ka eX; replace HB := ka (eB _ _ (kw HB.out) GE299.out); clear eX eO eB; (try have hz299 := blkAll15 BK299.out); (try have hz300 := blkAll6 BK300.out); (try have hz317 := blkAll15 BK317.out); (try have hy300 := NB300_299.out); (try have hx300 := NB299_300.out); (try have hy317 := NB317_299.out); (try have hx317 := NB299_317.out)) | (refine store_event (g := gb317) rfl rfl rfl rfl rfl (by (with_reducible repeat (first | apply kb1 | apply kb2 | apply kb3)); with_reducible exact BK317.out) (by kernel_rfl) (by rfl) (by rfl) ?_; intro w_317 eX eO eB; (try (replace BK299 := ka ((eO _ NB299_317.out).trans (by (with_reducible repeat (first | apply kb1 | apply kb2 | apply kb3)); with_reducible exact BK299.out)))); (try (replace BK300 := ka ((eO _ NB300_317.out).trans (by (with_reducible repeat (first | apply kb1 | apply kb2 | apply kb3)); with_reducible exact BK300.out)))); replace BK317 := ka eX; replace HB := ka (eB _ _ (kw HB.out) GE317.out); clear eX eO eB; (try have hz299 := blkAll15 BK299.out); (try have hz300 := blkAll6 BK300.out); (try have hz317 := blkAll15 BK317.out); (try have hy299 := NB299_317.out); (try have hx299 := NB317_299.out); (try have hy300 := NB300_317.out); (try have hx300 := NB317_300.out))))
       go_ret
       exact ⟨by first | rfl | (simp [errW_none, errW_some] <;> rfl) | (simp [*, errW_none, errW_some] <;> rfl), by repeat (first | (with_reducible first | exact HB.out | apply kc1 | apply kc2 | apply kc3 | refine kc4 ?_ GE299.out | refine kc4 ?_ GE300.out | refine kc4 ?_ GE317.out) | exact HB.out)⟩
      ·have H1 : (some (q319 == 1)) = some r := by rw [if_neg (show ¬ (some q319).isNone = true by simp)] at H; exact H
       clear H
       have H := H1
       clear H1
       try simp only [errW_none, errW_some]
       obtain rfl := Option.some.inj H
       go_enter Try.func10, Try.ntmps10
       go_wp2_with (first | ((with_reducible refine gate_callee (f := 20) rfl ?_); refine kg (some 7) rfl rfl Try.func20 (by kernel_rfl) rfl #[] rfl ?_; (with_reducible refine (trivetlaw13_plain.calls  t262 t263 t264 t265 t266 t267 t268 t269 t270 t271 t272 t273 t274 t275 t276 _ A1.out).mono ?_); rintro e w22 ⟨rfl, hb⟩; refine ⟨_, rfl, ?_⟩; have n0_ := ka (below_step (kw HB.out) hb); clear HB; have HB := n0_; clear n0_; (try clear hb); (try clear hb2); (try clear hk); (try clear hi)) | ((with_reducible refine gate_callee (f := 11) rfl ?_); refine kg (some 8) rfl rfl Try.func11 (by kernel_rfl) rfl #[.agg #[.int .i64 t262, .int .i64 t263, .int .i64 t264, .int .i64 t265, .int .i64 t266, .int .i64 t267, .int .i64 t268, .int .i64 t269, .int .i64 t270, .int .i64 t271, .int .i64 t272, .int .i64 t273, .int .i64 t274, .int .i64 t275, .int .i64 t276], .int .i64 18300, .int .i64 250] rfl ?_; (with_reducible refine (water_Pay_s.calls t262 t263 t264 t265 t266 t267 t268 t269 t270 t271 t272 t273 t274 t275 t276 18300 250 t277 t278 t279 t280 t281 t282 t283 t284 t285 t286 t287 t288 t289 t290 t291 t292 t293 t294 t295 t296 t297 none _ A2.out).mono ?_); rintro e w23 ⟨rfl, hb⟩; refine ⟨_, rfl, ?_⟩; have n0_ := ka (below_step (kw HB.out) hb); clear HB; have HB := n0_; clear n0_; (try clear hb); (try clear hb2); (try clear hk); (try clear hi); (try simp only [errW_none, errW_some])) | ((with_reducible refine gate_dst (N := 1) rfl ?_); refine kx (N := 1) (cs := #[.int .i64 0, .int .i64 0, .int .i64 0, .int .i64 0, .int .i64 0, .int .i64 0, .int .i64 0, .int .i64 0, .int .i64 0, .int .i64 0, .int .i64 0, .int .i64 0, .int .i64 0, .int .i64 0, .int .i64 0]) (t := 25) ?_; intro gb299 hg w24 hbox hb; have n0_ := ka (below_step (kw HB.out) hb); have n1_ := ka (hbox); have n2_ := ka ((by rw [hg]; exact (below_size (kw HB.out)) : w.heap.size ≤ gb299)); have n3_ := n2_; clear HB; have HB := n0_; have BK299 := n1_; have GW299 := n2_; have GE299 := n3_; clear n0_ n1_ n2_ n3_; clear hb hbox hg) | ((with_reducible refine gate_dst (N := 2) rfl ?_); refine kx (N := 2) (cs := #[.int .i64 0, .int .i64 0, .int .i64 0, .int .i64 0, .int .i64 0, .int .i64 0]) (t := 28) ?_; intro gb300 hg w25 hbox hb; have n0_ := ka (blk_below (g := gb299) (kz BK299.out) hb); have n1_ := ka (below_step (kw HB.out) hb); have n2_ := ka (hbox); have n3_ := ka ((by rw [hg]; exact (below_size (kw HB.out)) : w.heap.size ≤ gb300)); have n4_ := n3_; have n5_ := ka ((by rw [hg]; exact Nat.ne_of_lt (blk_lt (g := gb299) (kz BK299.out)) : gb299 ≠ gb300)); have n6_ := ka n5_.out.symm; clear BK299; clear HB; have BK299 := n0_; have HB := n1_; have BK300 := n2_; have GW300 := n3_; have GE300 := n4_; have NB299_300 := n5_; have NB300_299 := n6_; clear n0_ n1_ n2_ n3_ n4_ n5_ n6_; clear hb hbox hg; have hnb26 := NB299_300.out; have hnc26 := NB300_299.out; have hcz27 := blkAll15 BK299.out; have hcz28 := blkAll6 BK300.out) | ((with_reducible refine gate_callee (f := 21) rfl ?_); refine kg (some 14) rfl rfl Try.func21 (by kernel_rfl) rfl #[.agg #[.int .i64 0, .int .i64 0, .int .i64 0, .int .i64 0, .int .i64 0, .int .i64 0, .int .i64 0, .int .i64 0, .int .i64 0]] rfl ?_; (with_reducible refine (water_New.calls 0 0 0 0 0 0 0 0 0 t301 t302 t303 t304 t305 t306 t307 t308 t309 t310 t311 t312 t313 t314 t315 (some q319) _ A3.out).mono ?_); rintro e w29 ⟨rfl, hb⟩; refine ⟨_, rfl, ?_⟩; have n0_ := ka (blk_below (g := gb299) (o := .cells #[.int .i64 t277, .int .i64 t278, .int .i64 t279, .int .i64 t280, .int .i64 t281, .int .i64 t282, .int .i64 t283, .int .i64 t284, .int .i64 t285, .int .i64 t286, .int .i64 t287, .int .i64 t288, .int .i64 t289, .int .i64 t290, .int .i64 t291] 25 (0, 0)) (by (with_reducible repeat (first | apply kb1 | apply kb2 | apply kb3 | refine kb4 ?_ NB299_300.out _ | apply blkPut15_14 | apply blkPut15_13 | apply blkPut15_12 | apply blkPut15_11 | apply blkPut15_10 | apply blkPut15_9 | apply blkPut15_8 | apply blkPut15_7 | apply blkPut15_6 | apply blkPut15_5 | apply blkPut15_4 | apply blkPut15_3 | apply blkPut15_2 | apply blkPut15_1 | apply blkPut15_0)); exact BK299.out) hb); have n1_ := ka (blk_below (g := gb300) (o := .cells #[.int .i64 t292, .int .i64 t293, .int .i64 t294, .int .i64 t295, .int .i64 t296, .int .i64 t297] 28 (0, 0)) (by (with_reducible repeat (first | apply kb1 | apply kb2 | apply kb3 | apply blkPut6_5 | apply blkPut6_4 | apply blkPut6_3 | apply blkPut6_2 | apply blkPut6_1 | apply blkPut6_0 | refine kb4 ?_ NB300_299.out _)); exact BK300.out) hb); have n2_ := ka (below_step (kw HB.out) hb); clear BK299; clear BK300; clear HB; have BK299 := n0_; have BK300 := n1_; have HB := n2_; clear n0_ n1_ n2_; (try clear hb); (try clear hb2); (try clear hk); (try clear hi); (try simp only [errW_none, errW_some])) | ((with_reducible refine gate_dst (N := 4) rfl ?_); refine kx (N := 4) (cs := #[.int .i64 0, .int .i64 0, .int .i64 0, .int .i64 0, .int .i64 0, .int .i64 0, .int .i64 0, .int .i64 0, .int .i64 0, .int .i64 0, .int .i64 0, .int .i64 0, .int .i64 0, .int .i64 0, .int .i64 0]) (t := 25) ?_; intro gb317 hg w30 hbox hb; have n0_ := ka (blk_below (g := gb299) (kz BK299.out) hb); have n1_ := ka (blk_below (g := gb300) (kz BK300.out) hb); have n2_ := ka (below_step (kw HB.out) hb); have n3_ := ka (hbox); have n4_ := ka ((by rw [hg]; exact (below_size (kw HB.out)) : w.heap.size ≤ gb317)); have n5_ := n4_; have n6_ := ka ((by rw [hg]; exact Nat.ne_of_lt (blk_lt (g := gb299) (kz BK299.out)) : gb299 ≠ gb317)); have n7_ := ka n6_.out.symm; have n8_ := ka ((by rw [hg]; exact Nat.ne_of_lt (blk_lt (g := gb300) (kz BK300.out)) : gb300 ≠ gb317)); have n9_ := ka n8_.out.symm; clear BK299; clear BK300; clear HB; have BK299 := n0_; have BK300 := n1_; have HB := n2_; have BK317 := n3_; have GW317 := n4_; have GE317 := n5_; have NB299_317 := n6_; have NB317_299 := n7_; have NB300_317 := n8_; have NB317_300 := n9_; clear n0_ n1_ n2_ n3_ n4_ n5_ n6_ n7_ n8_ n9_; clear hb hbox hg; have hnb31 := NB317_299.out; have hnc31 := NB299_317.out; have hnb32 := NB317_300.out; have hnc32 := NB300_317.out; have hcz33 := blkAll15 BK317.out; have hcz34 := blkAll6 BK300.out; have hcz35 := blkAll15 BK299.out) | ((with_reducible refine gate_store (T := 25) rfl ?_); first | (refine store_event (g := gb299) rfl rfl rfl rfl rfl (by (with_reducible repeat (first | apply kb1 | apply kb2 | apply kb3)); with_reducible exact BK299.out) (by kernel_rfl) (by rfl) (by rfl) ?_; intro w_299 eX eO eB; (try (replace BK300 := ka ((eO _ NB300_299.out).trans (by (with_reducible repeat (first | apply kb1 | apply kb2 | apply kb3)); with_reducible exact BK300.out)))); (try (replace BK317 := ka ((eO _ NB317_299.out).trans (by (with_reducible repeat (first | apply kb1 | apply kb2 | apply kb3)); with_reducible exact BK317.out)))); replace BK299 := ka eX; replace HB := ka (eB _ _ (kw HB.out) GE299.out); clear eX eO eB; (try have hz299 := blkAll15 BK299.out); (try have hz300 := blkAll6 BK300.out); (try have hz317 := blkAll15 BK317.out); (try have hy300 := NB300_299.out); (try have hx300 := NB299_300.out); (try have hy317 := NB317_299.out); (try have hx317 := NB299_317.out)) | (refine store_event (g := gb317) rfl rfl rfl rfl rfl (by (with_reducible repeat (first | apply kb1 | apply kb2 | apply kb3)); with_reducible exact BK317.out) (by kernel_rfl) (by rfl) (by rfl) ?_; intro w_317 eX eO eB; (try (replace BK299 := ka ((eO _ NB299_317.out).trans (by (with_reducible repeat (first | apply kb1 | apply kb2 | apply kb3)); with_reducible exact BK299.out)))); (try (replace BK300 := ka ((eO _ NB300_317.out).trans (by (with_reducible repeat (first | apply kb1 | apply kb2 | apply kb3)); with_reducible exact BK300.out)))); replace BK317 := ka eX; replace HB := ka (eB _ _ (kw HB.out) GE317.out); clear eX eO eB; (try have hz299 := blkAll15 BK299.out); (try have hz300 := blkAll6 BK300.out); (try have hz317 := blkAll15 BK317.out); (try have hy299 := NB299_317.out); (try have hx299 := NB317_299.out); (try have hy300 := NB300_317.out); (try have hx300 := NB317_300.out))))
       go_ret
       exact ⟨by first | rfl | (simp [errW_none, errW_some] <;> rfl) | (simp [*, errW_none, errW_some] <;> rfl), by repeat (first | (with_reducible first | exact HB.out | apply kc1 | apply kc2 | apply kc3 | refine kc4 ?_ GE299.out | refine kc4 ?_ GE300.out | refine kc4 ?_ GE317.out) | exact HB.out)⟩
     ·rw [if_neg c7] at H
      have c7b0 : (t286 == 1000) = false := beq_eq_false_iff_ne.mpr c7
      have c7b1 : (t286 != 1000) = true := bne_iff_ne.mpr c7
      obtain rfl := Option.some.inj H
      go_enter Try.func10, Try.ntmps10
      go_wp2_with (first | ((with_reducible refine gate_callee (f := 20) rfl ?_); refine kg (some 7) rfl rfl Try.func20 (by kernel_rfl) rfl #[] rfl ?_; (with_reducible refine (trivetlaw13_plain.calls  t262 t263 t264 t265 t266 t267 t268 t269 t270 t271 t272 t273 t274 t275 t276 _ A1.out).mono ?_); rintro e w36 ⟨rfl, hb⟩; refine ⟨_, rfl, ?_⟩; have n0_ := ka (below_step (kw HB.out) hb); clear HB; have HB := n0_; clear n0_; (try clear hb); (try clear hb2); (try clear hk); (try clear hi)) | ((with_reducible refine gate_callee (f := 11) rfl ?_); refine kg (some 8) rfl rfl Try.func11 (by kernel_rfl) rfl #[.agg #[.int .i64 t262, .int .i64 t263, .int .i64 t264, .int .i64 t265, .int .i64 t266, .int .i64 t267, .int .i64 t268, .int .i64 t269, .int .i64 t270, .int .i64 t271, .int .i64 t272, .int .i64 t273, .int .i64 t274, .int .i64 t275, .int .i64 t276], .int .i64 18300, .int .i64 250] rfl ?_; (with_reducible refine (water_Pay_s.calls t262 t263 t264 t265 t266 t267 t268 t269 t270 t271 t272 t273 t274 t275 t276 18300 250 t277 t278 t279 t280 t281 t282 t283 t284 t285 t286 t287 t288 t289 t290 t291 t292 t293 t294 t295 t296 t297 none _ A2.out).mono ?_); rintro e w37 ⟨rfl, hb⟩; refine ⟨_, rfl, ?_⟩; have n0_ := ka (below_step (kw HB.out) hb); clear HB; have HB := n0_; clear n0_; (try clear hb); (try clear hb2); (try clear hk); (try clear hi); (try simp only [errW_none, errW_some])) | ((with_reducible refine gate_dst (N := 1) rfl ?_); refine kx (N := 1) (cs := #[.int .i64 0, .int .i64 0, .int .i64 0, .int .i64 0, .int .i64 0, .int .i64 0, .int .i64 0, .int .i64 0, .int .i64 0, .int .i64 0, .int .i64 0, .int .i64 0, .int .i64 0, .int .i64 0, .int .i64 0]) (t := 25) ?_; intro gb299 hg w38 hbox hb; have n0_ := ka (below_step (kw HB.out) hb); have n1_ := ka (hbox); have n2_ := ka ((by rw [hg]; exact (below_size (kw HB.out)) : w.heap.size ≤ gb299)); have n3_ := n2_; clear HB; have HB := n0_; have BK299 := n1_; have GW299 := n2_; have GE299 := n3_; clear n0_ n1_ n2_ n3_; clear hb hbox hg) | ((with_reducible refine gate_dst (N := 2) rfl ?_); refine kx (N := 2) (cs := #[.int .i64 0, .int .i64 0, .int .i64 0, .int .i64 0, .int .i64 0, .int .i64 0]) (t := 28) ?_; intro gb300 hg w39 hbox hb; have n0_ := ka (blk_below (g := gb299) (kz BK299.out) hb); have n1_ := ka (below_step (kw HB.out) hb); have n2_ := ka (hbox); have n3_ := ka ((by rw [hg]; exact (below_size (kw HB.out)) : w.heap.size ≤ gb300)); have n4_ := n3_; have n5_ := ka ((by rw [hg]; exact Nat.ne_of_lt (blk_lt (g := gb299) (kz BK299.out)) : gb299 ≠ gb300)); have n6_ := ka n5_.out.symm; clear BK299; clear HB; have BK299 := n0_; have HB := n1_; have BK300 := n2_; have GW300 := n3_; have GE300 := n4_; have NB299_300 := n5_; have NB300_299 := n6_; clear n0_ n1_ n2_ n3_ n4_ n5_ n6_; clear hb hbox hg; have hnb40 := NB299_300.out; have hnc40 := NB300_299.out; have hcz41 := blkAll15 BK299.out; have hcz42 := blkAll6 BK300.out) | ((with_reducible refine gate_callee (f := 21) rfl ?_); refine kg (some 14) rfl rfl Try.func21 (by kernel_rfl) rfl #[.agg #[.int .i64 0, .int .i64 0, .int .i64 0, .int .i64 0, .int .i64 0, .int .i64 0, .int .i64 0, .int .i64 0, .int .i64 0]] rfl ?_; (with_reducible refine (water_New.calls 0 0 0 0 0 0 0 0 0 t301 t302 t303 t304 t305 t306 t307 t308 t309 t310 t311 t312 t313 t314 t315 t316 _ A3.out).mono ?_); rintro e w43 ⟨rfl, hb⟩; refine ⟨_, rfl, ?_⟩; have n0_ := ka (blk_below (g := gb299) (o := .cells #[.int .i64 t277, .int .i64 t278, .int .i64 t279, .int .i64 t280, .int .i64 t281, .int .i64 t282, .int .i64 t283, .int .i64 t284, .int .i64 t285, .int .i64 t286, .int .i64 t287, .int .i64 t288, .int .i64 t289, .int .i64 t290, .int .i64 t291] 25 (0, 0)) (by (with_reducible repeat (first | apply kb1 | apply kb2 | apply kb3 | refine kb4 ?_ NB299_300.out _ | apply blkPut15_14 | apply blkPut15_13 | apply blkPut15_12 | apply blkPut15_11 | apply blkPut15_10 | apply blkPut15_9 | apply blkPut15_8 | apply blkPut15_7 | apply blkPut15_6 | apply blkPut15_5 | apply blkPut15_4 | apply blkPut15_3 | apply blkPut15_2 | apply blkPut15_1 | apply blkPut15_0)); exact BK299.out) hb); have n1_ := ka (blk_below (g := gb300) (o := .cells #[.int .i64 t292, .int .i64 t293, .int .i64 t294, .int .i64 t295, .int .i64 t296, .int .i64 t297] 28 (0, 0)) (by (with_reducible repeat (first | apply kb1 | apply kb2 | apply kb3 | apply blkPut6_5 | apply blkPut6_4 | apply blkPut6_3 | apply blkPut6_2 | apply blkPut6_1 | apply blkPut6_0 | refine kb4 ?_ NB300_299.out _)); exact BK300.out) hb); have n2_ := ka (below_step (kw HB.out) hb); clear BK299; clear BK300; clear HB; have BK299 := n0_; have BK300 := n1_; have HB := n2_; clear n0_ n1_ n2_; (try clear hb); (try clear hb2); (try clear hk); (try clear hi); (try simp only [errW_none, errW_some])) | ((with_reducible refine gate_dst (N := 4) rfl ?_); refine kx (N := 4) (cs := #[.int .i64 0, .int .i64 0, .int .i64 0, .int .i64 0, .int .i64 0, .int .i64 0, .int .i64 0, .int .i64 0, .int .i64 0, .int .i64 0, .int .i64 0, .int .i64 0, .int .i64 0, .int .i64 0, .int .i64 0]) (t := 25) ?_; intro gb317 hg w44 hbox hb; have n0_ := ka (blk_below (g := gb299) (kz BK299.out) hb); have n1_ := ka (blk_below (g := gb300) (kz BK300.out) hb); have n2_ := ka (below_step (kw HB.out) hb); have n3_ := ka (hbox); have n4_ := ka ((by rw [hg]; exact (below_size (kw HB.out)) : w.heap.size ≤ gb317)); have n5_ := n4_; have n6_ := ka ((by rw [hg]; exact Nat.ne_of_lt (blk_lt (g := gb299) (kz BK299.out)) : gb299 ≠ gb317)); have n7_ := ka n6_.out.symm; have n8_ := ka ((by rw [hg]; exact Nat.ne_of_lt (blk_lt (g := gb300) (kz BK300.out)) : gb300 ≠ gb317)); have n9_ := ka n8_.out.symm; clear BK299; clear BK300; clear HB; have BK299 := n0_; have BK300 := n1_; have HB := n2_; have BK317 := n3_; have GW317 := n4_; have GE317 := n5_; have NB299_317 := n6_; have NB317_299 := n7_; have NB300_317 := n8_; have NB317_300 := n9_; clear n0_ n1_ n2_ n3_ n4_ n5_ n6_ n7_ n8_ n9_; clear hb hbox hg; have hnb45 := NB317_299.out; have hnc45 := NB299_317.out; have hnb46 := NB317_300.out; have hnc46 := NB300_317.out; have hcz47 := blkAll15 BK317.out; have hcz48 := blkAll6 BK300.out; have hcz49 := blkAll15 BK299.out) | ((with_reducible refine gate_store (T := 25) rfl ?_); first | (refine store_event (g := gb299) rfl rfl rfl rfl rfl (by (with_reducible repeat (first | apply kb1 | apply kb2 | apply kb3)); with_reducible exact BK299.out) (by kernel_rfl) (by rfl) (by rfl) ?_; intro w_299 eX eO eB; (try (replace BK300 := ka ((eO _ NB300_299.out).trans (by (with_reducible repeat (first | apply kb1 | apply kb2 | apply kb3)); with_reducible exact BK300.out)))); (try (replace BK317 := ka ((eO _ NB317_299.out).trans (by (with_reducible repeat (first | apply kb1 | apply kb2 | apply kb3)); with_reducible exact BK317.out)))); replace BK299 := ka eX; replace HB := ka (eB _ _ (kw HB.out) GE299.out); clear eX eO eB; (try have hz299 := blkAll15 BK299.out); (try have hz300 := blkAll6 BK300.out); (try have hz317 := blkAll15 BK317.out); (try have hy300 := NB300_299.out); (try have hx300 := NB299_300.out); (try have hy317 := NB317_299.out); (try have hx317 := NB299_317.out)) | (refine store_event (g := gb317) rfl rfl rfl rfl rfl (by (with_reducible repeat (first | apply kb1 | apply kb2 | apply kb3)); with_reducible exact BK317.out) (by kernel_rfl) (by rfl) (by rfl) ?_; intro w_317 eX eO eB; (try (replace BK299 := ka ((eO _ NB299_317.out).trans (by (with_reducible repeat (first | apply kb1 | apply kb2 | apply kb3)); with_reducible exact BK299.out)))); (try (replace BK300 := ka ((eO _ NB300_317.out).trans (by (with_reducible repeat (first | apply kb1 | apply kb2 | apply kb3)); with_reducible exact BK300.out)))); replace BK317 := ka eX; replace HB := ka (eB _ _ (kw HB.out) GE317.out); clear eX eO eB; (try have hz299 := blkAll15 BK299.out); (try have hz300 := blkAll6 BK300.out); (try have hz317 := blkAll15 BK317.out); (try have hy299 := NB299_317.out); (try have hx299 := NB317_299.out); (try have hy300 := NB300_317.out); (try have hx300 := NB317_300.out))))
      go_ret
      exact ⟨by first | rfl | (simp [errW_none, errW_some] <;> rfl) | (simp [*, errW_none, errW_some] <;> rfl), by repeat (first | (with_reducible first | exact HB.out | apply kc1 | apply kc2 | apply kc3 | refine kc4 ?_ GE299.out | refine kc4 ?_ GE300.out | refine kc4 ?_ GE317.out) | exact HB.out)⟩
    ·rw [if_neg c6] at H
     have c6b0 : (t290 == 50) = false := beq_eq_false_iff_ne.mpr c6
     have c6b1 : (t290 != 50) = true := bne_iff_ne.mpr c6
     obtain rfl := Option.some.inj H
     go_enter Try.func10, Try.ntmps10
     go_wp2_with (first | ((with_reducible refine gate_callee (f := 20) rfl ?_); refine kg (some 7) rfl rfl Try.func20 (by kernel_rfl) rfl #[] rfl ?_; (with_reducible refine (trivetlaw13_plain.calls  t262 t263 t264 t265 t266 t267 t268 t269 t270 t271 t272 t273 t274 t275 t276 _ A1.out).mono ?_); rintro e w50 ⟨rfl, hb⟩; refine ⟨_, rfl, ?_⟩; have n0_ := ka (below_step (kw HB.out) hb); clear HB; have HB := n0_; clear n0_; (try clear hb); (try clear hb2); (try clear hk); (try clear hi)) | ((with_reducible refine gate_callee (f := 11) rfl ?_); refine kg (some 8) rfl rfl Try.func11 (by kernel_rfl) rfl #[.agg #[.int .i64 t262, .int .i64 t263, .int .i64 t264, .int .i64 t265, .int .i64 t266, .int .i64 t267, .int .i64 t268, .int .i64 t269, .int .i64 t270, .int .i64 t271, .int .i64 t272, .int .i64 t273, .int .i64 t274, .int .i64 t275, .int .i64 t276], .int .i64 18300, .int .i64 250] rfl ?_; (with_reducible refine (water_Pay_s.calls t262 t263 t264 t265 t266 t267 t268 t269 t270 t271 t272 t273 t274 t275 t276 18300 250 t277 t278 t279 t280 t281 t282 t283 t284 t285 t286 t287 t288 t289 t290 t291 t292 t293 t294 t295 t296 t297 none _ A2.out).mono ?_); rintro e w51 ⟨rfl, hb⟩; refine ⟨_, rfl, ?_⟩; have n0_ := ka (below_step (kw HB.out) hb); clear HB; have HB := n0_; clear n0_; (try clear hb); (try clear hb2); (try clear hk); (try clear hi); (try simp only [errW_none, errW_some])) | ((with_reducible refine gate_dst (N := 1) rfl ?_); refine kx (N := 1) (cs := #[.int .i64 0, .int .i64 0, .int .i64 0, .int .i64 0, .int .i64 0, .int .i64 0, .int .i64 0, .int .i64 0, .int .i64 0, .int .i64 0, .int .i64 0, .int .i64 0, .int .i64 0, .int .i64 0, .int .i64 0]) (t := 25) ?_; intro gb299 hg w52 hbox hb; have n0_ := ka (below_step (kw HB.out) hb); have n1_ := ka (hbox); have n2_ := ka ((by rw [hg]; exact (below_size (kw HB.out)) : w.heap.size ≤ gb299)); have n3_ := n2_; clear HB; have HB := n0_; have BK299 := n1_; have GW299 := n2_; have GE299 := n3_; clear n0_ n1_ n2_ n3_; clear hb hbox hg) | ((with_reducible refine gate_dst (N := 2) rfl ?_); refine kx (N := 2) (cs := #[.int .i64 0, .int .i64 0, .int .i64 0, .int .i64 0, .int .i64 0, .int .i64 0]) (t := 28) ?_; intro gb300 hg w53 hbox hb; have n0_ := ka (blk_below (g := gb299) (kz BK299.out) hb); have n1_ := ka (below_step (kw HB.out) hb); have n2_ := ka (hbox); have n3_ := ka ((by rw [hg]; exact (below_size (kw HB.out)) : w.heap.size ≤ gb300)); have n4_ := n3_; have n5_ := ka ((by rw [hg]; exact Nat.ne_of_lt (blk_lt (g := gb299) (kz BK299.out)) : gb299 ≠ gb300)); have n6_ := ka n5_.out.symm; clear BK299; clear HB; have BK299 := n0_; have HB := n1_; have BK300 := n2_; have GW300 := n3_; have GE300 := n4_; have NB299_300 := n5_; have NB300_299 := n6_; clear n0_ n1_ n2_ n3_ n4_ n5_ n6_; clear hb hbox hg; have hnb54 := NB299_300.out; have hnc54 := NB300_299.out; have hcz55 := blkAll15 BK299.out; have hcz56 := blkAll6 BK300.out) | ((with_reducible refine gate_callee (f := 21) rfl ?_); refine kg (some 14) rfl rfl Try.func21 (by kernel_rfl) rfl #[.agg #[.int .i64 0, .int .i64 0, .int .i64 0, .int .i64 0, .int .i64 0, .int .i64 0, .int .i64 0, .int .i64 0, .int .i64 0]] rfl ?_; (with_reducible refine (water_New.calls 0 0 0 0 0 0 0 0 0 t301 t302 t303 t304 t305 t306 t307 t308 t309 t310 t311 t312 t313 t314 t315 t316 _ A3.out).mono ?_); rintro e w57 ⟨rfl, hb⟩; refine ⟨_, rfl, ?_⟩; have n0_ := ka (blk_below (g := gb299) (o := .cells #[.int .i64 t277, .int .i64 t278, .int .i64 t279, .int .i64 t280, .int .i64 t281, .int .i64 t282, .int .i64 t283, .int .i64 t284, .int .i64 t285, .int .i64 t286, .int .i64 t287, .int .i64 t288, .int .i64 t289, .int .i64 t290, .int .i64 t291] 25 (0, 0)) (by (with_reducible repeat (first | apply kb1 | apply kb2 | apply kb3 | refine kb4 ?_ NB299_300.out _ | apply blkPut15_14 | apply blkPut15_13 | apply blkPut15_12 | apply blkPut15_11 | apply blkPut15_10 | apply blkPut15_9 | apply blkPut15_8 | apply blkPut15_7 | apply blkPut15_6 | apply blkPut15_5 | apply blkPut15_4 | apply blkPut15_3 | apply blkPut15_2 | apply blkPut15_1 | apply blkPut15_0)); exact BK299.out) hb); have n1_ := ka (blk_below (g := gb300) (o := .cells #[.int .i64 t292, .int .i64 t293, .int .i64 t294, .int .i64 t295, .int .i64 t296, .int .i64 t297] 28 (0, 0)) (by (with_reducible repeat (first | apply kb1 | apply kb2 | apply kb3 | apply blkPut6_5 | apply blkPut6_4 | apply blkPut6_3 | apply blkPut6_2 | apply blkPut6_1 | apply blkPut6_0 | refine kb4 ?_ NB300_299.out _)); exact BK300.out) hb); have n2_ := ka (below_step (kw HB.out) hb); clear BK299; clear BK300; clear HB; have BK299 := n0_; have BK300 := n1_; have HB := n2_; clear n0_ n1_ n2_; (try clear hb); (try clear hb2); (try clear hk); (try clear hi); (try simp only [errW_none, errW_some])) | ((with_reducible refine gate_dst (N := 4) rfl ?_); refine kx (N := 4) (cs := #[.int .i64 0, .int .i64 0, .int .i64 0, .int .i64 0, .int .i64 0, .int .i64 0, .int .i64 0, .int .i64 0, .int .i64 0, .int .i64 0, .int .i64 0, .int .i64 0, .int .i64 0, .int .i64 0, .int .i64 0]) (t := 25) ?_; intro gb317 hg w58 hbox hb; have n0_ := ka (blk_below (g := gb299) (kz BK299.out) hb); have n1_ := ka (blk_below (g := gb300) (kz BK300.out) hb); have n2_ := ka (below_step (kw HB.out) hb); have n3_ := ka (hbox); have n4_ := ka ((by rw [hg]; exact (below_size (kw HB.out)) : w.heap.size ≤ gb317)); have n5_ := n4_; have n6_ := ka ((by rw [hg]; exact Nat.ne_of_lt (blk_lt (g := gb299) (kz BK299.out)) : gb299 ≠ gb317)); have n7_ := ka n6_.out.symm; have n8_ := ka ((by rw [hg]; exact Nat.ne_of_lt (blk_lt (g := gb300) (kz BK300.out)) : gb300 ≠ gb317)); have n9_ := ka n8_.out.symm; clear BK299; clear BK300; clear HB; have BK299 := n0_; have BK300 := n1_; have HB := n2_; have BK317 := n3_; have GW317 := n4_; have GE317 := n5_; have NB299_317 := n6_; have NB317_299 := n7_; have NB300_317 := n8_; have NB317_300 := n9_; clear n0_ n1_ n2_ n3_ n4_ n5_ n6_ n7_ n8_ n9_; clear hb hbox hg; have hnb59 := NB317_299.out; have hnc59 := NB299_317.out; have hnb60 := NB317_300.out; have hnc60 := NB300_317.out; have hcz61 := blkAll15 BK317.out; have hcz62 := blkAll6 BK300.out; have hcz63 := blkAll15 BK299.out) | ((with_reducible refine gate_store (T := 25) rfl ?_); first | (refine store_event (g := gb299) rfl rfl rfl rfl rfl (by (with_reducible repeat (first | apply kb1 | apply kb2 | apply kb3)); with_reducible exact BK299.out) (by kernel_rfl) (by rfl) (by rfl) ?_; intro w_299 eX eO eB; (try (replace BK300 := ka ((eO _ NB300_299.out).trans (by (with_reducible repeat (first | apply kb1 | apply kb2 | apply kb3)); with_reducible exact BK300.out)))); (try (replace BK317 := ka ((eO _ NB317_299.out).trans (by (with_reducible repeat (first | apply kb1 | apply kb2 | apply kb3)); with_reducible exact BK317.out)))); replace BK299 := ka eX; replace HB := ka (eB _ _ (kw HB.out) GE299.out); clear eX eO eB; (try have hz299 := blkAll15 BK299.out); (try have hz300 := blkAll6 BK300.out); (try have hz317 := blkAll15 BK317.out); (try have hy300 := NB300_299.out); (try have hx300 := NB299_300.out); (try have hy317 := NB317_299.out); (try have hx317 := NB299_317.out)) | (refine store_event (g := gb317) rfl rfl rfl rfl rfl (by (with_reducible repeat (first | apply kb1 | apply kb2 | apply kb3)); with_reducible exact BK317.out) (by kernel_rfl) (by rfl) (by rfl) ?_; intro w_317 eX eO eB; (try (replace BK299 := ka ((eO _ NB299_317.out).trans (by (with_reducible repeat (first | apply kb1 | apply kb2 | apply kb3)); with_reducible exact BK299.out)))); (try (replace BK300 := ka ((eO _ NB300_317.out).trans (by (with_reducible repeat (first | apply kb1 | apply kb2 | apply kb3)); with_reducible exact BK300.out)))); replace BK317 := ka eX; replace HB := ka (eB _ _ (kw HB.out) GE317.out); clear eX eO eB; (try have hz299 := blkAll15 BK299.out); (try have hz300 := blkAll6 BK300.out); (try have hz317 := blkAll15 BK317.out); (try have hy299 := NB299_317.out); (try have hx299 := NB317_299.out); (try have hy300 := NB300_317.out); (try have hx300 := NB317_300.out))))
     go_ret
     exact ⟨by first | rfl | (simp [errW_none, errW_some] <;> rfl) | (simp [*, errW_none, errW_some] <;> rfl), by repeat (first | (with_reducible first | exact HB.out | apply kc1 | apply kc2 | apply kc3 | refine kc4 ?_ GE299.out | refine kc4 ?_ GE300.out | refine kc4 ?_ GE317.out) | exact HB.out)⟩
   ·rw [if_neg c5] at H
    have c5b0 : (t297 == 50) = false := beq_eq_false_iff_ne.mpr c5
    have c5b1 : (t297 != 50) = true := bne_iff_ne.mpr c5
    obtain rfl := Option.some.inj H
    go_enter Try.func10, Try.ntmps10
    go_wp2_with (first | ((with_reducible refine gate_callee (f := 20) rfl ?_); refine kg (some 7) rfl rfl Try.func20 (by kernel_rfl) rfl #[] rfl ?_; (with_reducible refine (trivetlaw13_plain.calls  t262 t263 t264 t265 t266 t267 t268 t269 t270 t271 t272 t273 t274 t275 t276 _ A1.out).mono ?_); rintro e w64 ⟨rfl, hb⟩; refine ⟨_, rfl, ?_⟩; have n0_ := ka (below_step (kw HB.out) hb); clear HB; have HB := n0_; clear n0_; (try clear hb); (try clear hb2); (try clear hk); (try clear hi)) | ((with_reducible refine gate_callee (f := 11) rfl ?_); refine kg (some 8) rfl rfl Try.func11 (by kernel_rfl) rfl #[.agg #[.int .i64 t262, .int .i64 t263, .int .i64 t264, .int .i64 t265, .int .i64 t266, .int .i64 t267, .int .i64 t268, .int .i64 t269, .int .i64 t270, .int .i64 t271, .int .i64 t272, .int .i64 t273, .int .i64 t274, .int .i64 t275, .int .i64 t276], .int .i64 18300, .int .i64 250] rfl ?_; (with_reducible refine (water_Pay_s.calls t262 t263 t264 t265 t266 t267 t268 t269 t270 t271 t272 t273 t274 t275 t276 18300 250 t277 t278 t279 t280 t281 t282 t283 t284 t285 t286 t287 t288 t289 t290 t291 t292 t293 t294 t295 t296 t297 none _ A2.out).mono ?_); rintro e w65 ⟨rfl, hb⟩; refine ⟨_, rfl, ?_⟩; have n0_ := ka (below_step (kw HB.out) hb); clear HB; have HB := n0_; clear n0_; (try clear hb); (try clear hb2); (try clear hk); (try clear hi); (try simp only [errW_none, errW_some])) | ((with_reducible refine gate_dst (N := 1) rfl ?_); refine kx (N := 1) (cs := #[.int .i64 0, .int .i64 0, .int .i64 0, .int .i64 0, .int .i64 0, .int .i64 0, .int .i64 0, .int .i64 0, .int .i64 0, .int .i64 0, .int .i64 0, .int .i64 0, .int .i64 0, .int .i64 0, .int .i64 0]) (t := 25) ?_; intro gb299 hg w66 hbox hb; have n0_ := ka (below_step (kw HB.out) hb); have n1_ := ka (hbox); have n2_ := ka ((by rw [hg]; exact (below_size (kw HB.out)) : w.heap.size ≤ gb299)); have n3_ := n2_; clear HB; have HB := n0_; have BK299 := n1_; have GW299 := n2_; have GE299 := n3_; clear n0_ n1_ n2_ n3_; clear hb hbox hg) | ((with_reducible refine gate_dst (N := 2) rfl ?_); refine kx (N := 2) (cs := #[.int .i64 0, .int .i64 0, .int .i64 0, .int .i64 0, .int .i64 0, .int .i64 0]) (t := 28) ?_; intro gb300 hg w67 hbox hb; have n0_ := ka (blk_below (g := gb299) (kz BK299.out) hb); have n1_ := ka (below_step (kw HB.out) hb); have n2_ := ka (hbox); have n3_ := ka ((by rw [hg]; exact (below_size (kw HB.out)) : w.heap.size ≤ gb300)); have n4_ := n3_; have n5_ := ka ((by rw [hg]; exact Nat.ne_of_lt (blk_lt (g := gb299) (kz BK299.out)) : gb299 ≠ gb300)); have n6_ := ka n5_.out.symm; clear BK299; clear HB; have BK299 := n0_; have HB := n1_; have BK300 := n2_; have GW300 := n3_; have GE300 := n4_; have NB299_300 := n5_; have NB300_299 := n6_; clear n0_ n1_ n2_ n3_ n4_ n5_ n6_; clear hb hbox hg; have hnb68 := NB299_300.out; have hnc68 := NB300_299.out; have hcz69 := blkAll15 BK299.out; have hcz70 := blkAll6 BK300.out) | ((with_reducible refine gate_callee (f := 21) rfl ?_); refine kg (some 14) rfl rfl Try.func21 (by kernel_rfl) rfl #[.agg #[.int .i64 0, .int .i64 0, .int .i64 0, .int .i64 0, .int .i64 0, .int .i64 0, .int .i64 0, .int .i64 0, .int .i64 0]] rfl ?_; (with_reducible refine (water_New.calls 0 0 0 0 0 0 0 0 0 t301 t302 t303 t304 t305 t306 t307 t308 t309 t310 t311 t312 t313 t314 t315 t316 _ A3.out).mono ?_); rintro e w71 ⟨rfl, hb⟩; refine ⟨_, rfl, ?_⟩; have n0_ := ka (blk_below (g := gb299) (o := .cells #[.int .i64 t277, .int .i64 t278, .int .i64 t279, .int .i64 t280, .int .i64 t281, .int .i64 t282, .int .i64 t283, .int .i64 t284, .int .i64 t285, .int .i64 t286, .int .i64 t287, .int .i64 t288, .int .i64 t289, .int .i64 t290, .int .i64 t291] 25 (0, 0)) (by (with_reducible repeat (first | apply kb1 | apply kb2 | apply kb3 | refine kb4 ?_ NB299_300.out _ | apply blkPut15_14 | apply blkPut15_13 | apply blkPut15_12 | apply blkPut15_11 | apply blkPut15_10 | apply blkPut15_9 | apply blkPut15_8 | apply blkPut15_7 | apply blkPut15_6 | apply blkPut15_5 | apply blkPut15_4 | apply blkPut15_3 | apply blkPut15_2 | apply blkPut15_1 | apply blkPut15_0)); exact BK299.out) hb); have n1_ := ka (blk_below (g := gb300) (o := .cells #[.int .i64 t292, .int .i64 t293, .int .i64 t294, .int .i64 t295, .int .i64 t296, .int .i64 t297] 28 (0, 0)) (by (with_reducible repeat (first | apply kb1 | apply kb2 | apply kb3 | apply blkPut6_5 | apply blkPut6_4 | apply blkPut6_3 | apply blkPut6_2 | apply blkPut6_1 | apply blkPut6_0 | refine kb4 ?_ NB300_299.out _)); exact BK300.out) hb); have n2_ := ka (below_step (kw HB.out) hb); clear BK299; clear BK300; clear HB; have BK299 := n0_; have BK300 := n1_; have HB := n2_; clear n0_ n1_ n2_; (try clear hb); (try clear hb2); (try clear hk); (try clear hi); (try simp only [errW_none, errW_some])) | ((with_reducible refine gate_dst (N := 4) rfl ?_); refine kx (N := 4) (cs := #[.int .i64 0, .int .i64 0, .int .i64 0, .int .i64 0, .int .i64 0, .int .i64 0, .int .i64 0, .int .i64 0, .int .i64 0, .int .i64 0, .int .i64 0, .int .i64 0, .int .i64 0, .int .i64 0, .int .i64 0]) (t := 25) ?_; intro gb317 hg w72 hbox hb; have n0_ := ka (blk_below (g := gb299) (kz BK299.out) hb); have n1_ := ka (blk_below (g := gb300) (kz BK300.out) hb); have n2_ := ka (below_step (kw HB.out) hb); have n3_ := ka (hbox); have n4_ := ka ((by rw [hg]; exact (below_size (kw HB.out)) : w.heap.size ≤ gb317)); have n5_ := n4_; have n6_ := ka ((by rw [hg]; exact Nat.ne_of_lt (blk_lt (g := gb299) (kz BK299.out)) : gb299 ≠ gb317)); have n7_ := ka n6_.out.symm; have n8_ := ka ((by rw [hg]; exact Nat.ne_of_lt (blk_lt (g := gb300) (kz BK300.out)) : gb300 ≠ gb317)); have n9_ := ka n8_.out.symm; clear BK299; clear BK300; clear HB; have BK299 := n0_; have BK300 := n1_; have HB := n2_; have BK317 := n3_; have GW317 := n4_; have GE317 := n5_; have NB299_317 := n6_; have NB317_299 := n7_; have NB300_317 := n8_; have NB317_300 := n9_; clear n0_ n1_ n2_ n3_ n4_ n5_ n6_ n7_ n8_ n9_; clear hb hbox hg; have hnb73 := NB317_299.out; have hnc73 := NB299_317.out; have hnb74 := NB317_300.out; have hnc74 := NB300_317.out; have hcz75 := blkAll15 BK317.out; have hcz76 := blkAll6 BK300.out) | ((with_reducible refine gate_store (T := 25) rfl ?_); first | (refine store_event (g := gb299) rfl rfl rfl rfl rfl (by (with_reducible repeat (first | apply kb1 | apply kb2 | apply kb3)); with_reducible exact BK299.out) (by kernel_rfl) (by rfl) (by rfl) ?_; intro w_299 eX eO eB; (try (replace BK300 := ka ((eO _ NB300_299.out).trans (by (with_reducible repeat (first | apply kb1 | apply kb2 | apply kb3)); with_reducible exact BK300.out)))); (try (replace BK317 := ka ((eO _ NB317_299.out).trans (by (with_reducible repeat (first | apply kb1 | apply kb2 | apply kb3)); with_reducible exact BK317.out)))); replace BK299 := ka eX; replace HB := ka (eB _ _ (kw HB.out) GE299.out); clear eX eO eB; (try have hz299 := blkAll15 BK299.out); (try have hz300 := blkAll6 BK300.out); (try have hz317 := blkAll15 BK317.out); (try have hy300 := NB300_299.out); (try have hx300 := NB299_300.out); (try have hy317 := NB317_299.out); (try have hx317 := NB299_317.out)) | (refine store_event (g := gb317) rfl rfl rfl rfl rfl (by (with_reducible repeat (first | apply kb1 | apply kb2 | apply kb3)); with_reducible exact BK317.out) (by kernel_rfl) (by rfl) (by rfl) ?_; intro w_317 eX eO eB; (try (replace BK299 := ka ((eO _ NB299_317.out).trans (by (with_reducible repeat (first | apply kb1 | apply kb2 | apply kb3)); with_reducible exact BK299.out)))); (try (replace BK300 := ka ((eO _ NB300_317.out).trans (by (with_reducible repeat (first | apply kb1 | apply kb2 | apply kb3)); with_reducible exact BK300.out)))); replace BK317 := ka eX; replace HB := ka (eB _ _ (kw HB.out) GE317.out); clear eX eO eB; (try have hz299 := blkAll15 BK299.out); (try have hz300 := blkAll6 BK300.out); (try have hz317 := blkAll15 BK317.out); (try have hy299 := NB299_317.out); (try have hx299 := NB317_299.out); (try have hy300 := NB300_317.out); (try have hx300 := NB317_300.out))))
    go_ret
    exact ⟨by first | rfl | (simp [errW_none, errW_some] <;> rfl) | (simp [*, errW_none, errW_some] <;> rfl), by repeat (first | (with_reducible first | exact HB.out | apply kc1 | apply kc2 | apply kc3 | refine kc4 ?_ GE299.out | refine kc4 ?_ GE300.out | refine kc4 ?_ GE317.out) | exact HB.out)⟩
  ·rw [if_neg c4] at H
   have c4b0 : (t292 == 2) = false := beq_eq_false_iff_ne.mpr c4
   have c4b1 : (t292 != 2) = true := bne_iff_ne.mpr c4
   obtain rfl := Option.some.inj H
   go_enter Try.func10, Try.ntmps10
   go_wp2_with (first | ((with_reducible refine gate_callee (f := 20) rfl ?_); refine kg (some 7) rfl rfl Try.func20 (by kernel_rfl) rfl #[] rfl ?_; (with_reducible refine (trivetlaw13_plain.calls  t262 t263 t264 t265 t266 t267 t268 t269 t270 t271 t272 t273 t274 t275 t276 _ A1.out).mono ?_); rintro e w77 ⟨rfl, hb⟩; refine ⟨_, rfl, ?_⟩; have n0_ := ka (below_step (kw HB.out) hb); clear HB; have HB := n0_; clear n0_; (try clear hb); (try clear hb2); (try clear hk); (try clear hi)) | ((with_reducible refine gate_callee (f := 11) rfl ?_); refine kg (some 8) rfl rfl Try.func11 (by kernel_rfl) rfl #[.agg #[.int .i64 t262, .int .i64 t263, .int .i64 t264, .int .i64 t265, .int .i64 t266, .int .i64 t267, .int .i64 t268, .int .i64 t269, .int .i64 t270, .int .i64 t271, .int .i64 t272, .int .i64 t273, .int .i64 t274, .int .i64 t275, .int .i64 t276], .int .i64 18300, .int .i64 250] rfl ?_; (with_reducible refine (water_Pay_s.calls t262 t263 t264 t265 t266 t267 t268 t269 t270 t271 t272 t273 t274 t275 t276 18300 250 t277 t278 t279 t280 t281 t282 t283 t284 t285 t286 t287 t288 t289 t290 t291 t292 t293 t294 t295 t296 t297 none _ A2.out).mono ?_); rintro e w78 ⟨rfl, hb⟩; refine ⟨_, rfl, ?_⟩; have n0_ := ka (below_step (kw HB.out) hb); clear HB; have HB := n0_; clear n0_; (try clear hb); (try clear hb2); (try clear hk); (try clear hi); (try simp only [errW_none, errW_some])) | ((with_reducible refine gate_dst (N := 1) rfl ?_); refine kx (N := 1) (cs := #[.int .i64 0, .int .i64 0, .int .i64 0, .int .i64 0, .int .i64 0, .int .i64 0, .int .i64 0, .int .i64 0, .int .i64 0, .int .i64 0, .int .i64 0, .int .i64 0, .int .i64 0, .int .i64 0, .int .i64 0]) (t := 25) ?_; intro gb299 hg w79 hbox hb; have n0_ := ka (below_step (kw HB.out) hb); have n1_ := ka (hbox); have n2_ := ka ((by rw [hg]; exact (below_size (kw HB.out)) : w.heap.size ≤ gb299)); have n3_ := n2_; clear HB; have HB := n0_; have BK299 := n1_; have GW299 := n2_; have GE299 := n3_; clear n0_ n1_ n2_ n3_; clear hb hbox hg) | ((with_reducible refine gate_dst (N := 2) rfl ?_); refine kx (N := 2) (cs := #[.int .i64 0, .int .i64 0, .int .i64 0, .int .i64 0, .int .i64 0, .int .i64 0]) (t := 28) ?_; intro gb300 hg w80 hbox hb; have n0_ := ka (blk_below (g := gb299) (kz BK299.out) hb); have n1_ := ka (below_step (kw HB.out) hb); have n2_ := ka (hbox); have n3_ := ka ((by rw [hg]; exact (below_size (kw HB.out)) : w.heap.size ≤ gb300)); have n4_ := n3_; have n5_ := ka ((by rw [hg]; exact Nat.ne_of_lt (blk_lt (g := gb299) (kz BK299.out)) : gb299 ≠ gb300)); have n6_ := ka n5_.out.symm; clear BK299; clear HB; have BK299 := n0_; have HB := n1_; have BK300 := n2_; have GW300 := n3_; have GE300 := n4_; have NB299_300 := n5_; have NB300_299 := n6_; clear n0_ n1_ n2_ n3_ n4_ n5_ n6_; clear hb hbox hg; have hnb81 := NB299_300.out; have hnc81 := NB300_299.out; have hcz82 := blkAll15 BK299.out; have hcz83 := blkAll6 BK300.out) | ((with_reducible refine gate_callee (f := 21) rfl ?_); refine kg (some 14) rfl rfl Try.func21 (by kernel_rfl) rfl #[.agg #[.int .i64 0, .int .i64 0, .int .i64 0, .int .i64 0, .int .i64 0, .int .i64 0, .int .i64 0, .int .i64 0, .int .i64 0]] rfl ?_; (with_reducible refine (water_New.calls 0 0 0 0 0 0 0 0 0 t301 t302 t303 t304 t305 t306 t307 t308 t309 t310 t311 t312 t313 t314 t315 t316 _ A3.out).mono ?_); rintro e w84 ⟨rfl, hb⟩; refine ⟨_, rfl, ?_⟩; have n0_ := ka (blk_below (g := gb299) (o := .cells #[.int .i64 t277, .int .i64 t278, .int .i64 t279, .int .i64 t280, .int .i64 t281, .int .i64 t282, .int .i64 t283, .int .i64 t284, .int .i64 t285, .int .i64 t286, .int .i64 t287, .int .i64 t288, .int .i64 t289, .int .i64 t290, .int .i64 t291] 25 (0, 0)) (by (with_reducible repeat (first | apply kb1 | apply kb2 | apply kb3 | refine kb4 ?_ NB299_300.out _ | apply blkPut15_14 | apply blkPut15_13 | apply blkPut15_12 | apply blkPut15_11 | apply blkPut15_10 | apply blkPut15_9 | apply blkPut15_8 | apply blkPut15_7 | apply blkPut15_6 | apply blkPut15_5 | apply blkPut15_4 | apply blkPut15_3 | apply blkPut15_2 | apply blkPut15_1 | apply blkPut15_0)); exact BK299.out) hb); have n1_ := ka (blk_below (g := gb300) (o := .cells #[.int .i64 t292, .int .i64 t293, .int .i64 t294, .int .i64 t295, .int .i64 t296, .int .i64 t297] 28 (0, 0)) (by (with_reducible repeat (first | apply kb1 | apply kb2 | apply kb3 | apply blkPut6_5 | apply blkPut6_4 | apply blkPut6_3 | apply blkPut6_2 | apply blkPut6_1 | apply blkPut6_0 | refine kb4 ?_ NB300_299.out _)); exact BK300.out) hb); have n2_ := ka (below_step (kw HB.out) hb); clear BK299; clear BK300; clear HB; have BK299 := n0_; have BK300 := n1_; have HB := n2_; clear n0_ n1_ n2_; (try clear hb); (try clear hb2); (try clear hk); (try clear hi); (try simp only [errW_none, errW_some])) | ((with_reducible refine gate_dst (N := 4) rfl ?_); refine kx (N := 4) (cs := #[.int .i64 0, .int .i64 0, .int .i64 0, .int .i64 0, .int .i64 0, .int .i64 0, .int .i64 0, .int .i64 0, .int .i64 0, .int .i64 0, .int .i64 0, .int .i64 0, .int .i64 0, .int .i64 0, .int .i64 0]) (t := 25) ?_; intro gb317 hg w85 hbox hb; have n0_ := ka (blk_below (g := gb299) (kz BK299.out) hb); have n1_ := ka (blk_below (g := gb300) (kz BK300.out) hb); have n2_ := ka (below_step (kw HB.out) hb); have n3_ := ka (hbox); have n4_ := ka ((by rw [hg]; exact (below_size (kw HB.out)) : w.heap.size ≤ gb317)); have n5_ := n4_; have n6_ := ka ((by rw [hg]; exact Nat.ne_of_lt (blk_lt (g := gb299) (kz BK299.out)) : gb299 ≠ gb317)); have n7_ := ka n6_.out.symm; have n8_ := ka ((by rw [hg]; exact Nat.ne_of_lt (blk_lt (g := gb300) (kz BK300.out)) : gb300 ≠ gb317)); have n9_ := ka n8_.out.symm; clear BK299; clear BK300; clear HB; have BK299 := n0_; have BK300 := n1_; have HB := n2_; have BK317 := n3_; have GW317 := n4_; have GE317 := n5_; have NB299_317 := n6_; have NB317_299 := n7_; have NB300_317 := n8_; have NB317_300 := n9_; clear n0_ n1_ n2_ n3_ n4_ n5_ n6_ n7_ n8_ n9_; clear hb hbox hg; have hnb86 := NB317_299.out; have hnc86 := NB299_317.out; have hnb87 := NB317_300.out; have hnc87 := NB300_317.out; have hcz88 := blkAll15 BK317.out; have hcz89 := blkAll6 BK300.out) | ((with_reducible refine gate_store (T := 25) rfl ?_); first | (refine store_event (g := gb299) rfl rfl rfl rfl rfl (by (with_reducible repeat (first | apply kb1 | apply kb2 | apply kb3)); with_reducible exact BK299.out) (by kernel_rfl) (by rfl) (by rfl) ?_; intro w_299 eX eO eB; (try (replace BK300 := ka ((eO _ NB300_299.out).trans (by (with_reducible repeat (first | apply kb1 | apply kb2 | apply kb3)); with_reducible exact BK300.out)))); (try (replace BK317 := ka ((eO _ NB317_299.out).trans (by (with_reducible repeat (first | apply kb1 | apply kb2 | apply kb3)); with_reducible exact BK317.out)))); replace BK299 := ka eX; replace HB := ka (eB _ _ (kw HB.out) GE299.out); clear eX eO eB; (try have hz299 := blkAll15 BK299.out); (try have hz300 := blkAll6 BK300.out); (try have hz317 := blkAll15 BK317.out); (try have hy300 := NB300_299.out); (try have hx300 := NB299_300.out); (try have hy317 := NB317_299.out); (try have hx317 := NB299_317.out)) | (refine store_event (g := gb317) rfl rfl rfl rfl rfl (by (with_reducible repeat (first | apply kb1 | apply kb2 | apply kb3)); with_reducible exact BK317.out) (by kernel_rfl) (by rfl) (by rfl) ?_; intro w_317 eX eO eB; (try (replace BK299 := ka ((eO _ NB299_317.out).trans (by (with_reducible repeat (first | apply kb1 | apply kb2 | apply kb3)); with_reducible exact BK299.out)))); (try (replace BK300 := ka ((eO _ NB300_317.out).trans (by (with_reducible repeat (first | apply kb1 | apply kb2 | apply kb3)); with_reducible exact BK300.out)))); replace BK317 := ka eX; replace HB := ka (eB _ _ (kw HB.out) GE317.out); clear eX eO eB; (try have hz299 := blkAll15 BK299.out); (try have hz300 := blkAll6 BK300.out); (try have hz317 := blkAll15 BK317.out); (try have hy299 := NB299_317.out); (try have hx299 := NB317_299.out); (try have hy300 := NB300_317.out); (try have hx300 := NB317_300.out))))
   go_ret
   exact ⟨by first | rfl | (simp [errW_none, errW_some] <;> rfl) | (simp [*, errW_none, errW_some] <;> rfl), by repeat (first | (with_reducible first | exact HB.out | apply kc1 | apply kc2 | apply kc3 | refine kc4 ?_ GE299.out | refine kc4 ?_ GE300.out | refine kc4 ?_ GE317.out) | exact HB.out)⟩
 ·have H1 : (some false) = some r := by rw [if_neg (show ¬ (some q318).isNone = true by simp)] at H; exact H
  clear H
  have H := H1
  clear H1
  try simp only [errW_none, errW_some]
  obtain rfl := Option.some.inj H
  go_enter Try.func10, Try.ntmps10
  go_wp2_with (first | ((with_reducible refine gate_callee (f := 20) rfl ?_); refine kg (some 7) rfl rfl Try.func20 (by kernel_rfl) rfl #[] rfl ?_; (with_reducible refine (trivetlaw13_plain.calls  t262 t263 t264 t265 t266 t267 t268 t269 t270 t271 t272 t273 t274 t275 t276 _ A1.out).mono ?_); rintro e w90 ⟨rfl, hb⟩; refine ⟨_, rfl, ?_⟩; have n0_ := ka (below_step (kw HB.out) hb); clear HB; have HB := n0_; clear n0_; (try clear hb); (try clear hb2); (try clear hk); (try clear hi)) | ((with_reducible refine gate_callee (f := 11) rfl ?_); refine kg (some 8) rfl rfl Try.func11 (by kernel_rfl) rfl #[.agg #[.int .i64 t262, .int .i64 t263, .int .i64 t264, .int .i64 t265, .int .i64 t266, .int .i64 t267, .int .i64 t268, .int .i64 t269, .int .i64 t270, .int .i64 t271, .int .i64 t272, .int .i64 t273, .int .i64 t274, .int .i64 t275, .int .i64 t276], .int .i64 18300, .int .i64 250] rfl ?_; (with_reducible refine (water_Pay_s.calls t262 t263 t264 t265 t266 t267 t268 t269 t270 t271 t272 t273 t274 t275 t276 18300 250 t277 t278 t279 t280 t281 t282 t283 t284 t285 t286 t287 t288 t289 t290 t291 t292 t293 t294 t295 t296 t297 (some q318) _ A2.out).mono ?_); rintro e w91 ⟨rfl, hb⟩; refine ⟨_, rfl, ?_⟩; have n0_ := ka (below_step (kw HB.out) hb); clear HB; have HB := n0_; clear n0_; (try clear hb); (try clear hb2); (try clear hk); (try clear hi); (try simp only [errW_none, errW_some])) | ((with_reducible refine gate_dst (N := 1) rfl ?_); refine kx (N := 1) (cs := #[.int .i64 0, .int .i64 0, .int .i64 0, .int .i64 0, .int .i64 0, .int .i64 0, .int .i64 0, .int .i64 0, .int .i64 0, .int .i64 0, .int .i64 0, .int .i64 0, .int .i64 0, .int .i64 0, .int .i64 0]) (t := 25) ?_; intro gb299 hg w92 hbox hb; have n0_ := ka (below_step (kw HB.out) hb); have n1_ := ka (hbox); have n2_ := ka ((by rw [hg]; exact (below_size (kw HB.out)) : w.heap.size ≤ gb299)); have n3_ := n2_; clear HB; have HB := n0_; have BK299 := n1_; have GW299 := n2_; have GE299 := n3_; clear n0_ n1_ n2_ n3_; clear hb hbox hg) | ((with_reducible refine gate_dst (N := 2) rfl ?_); refine kx (N := 2) (cs := #[.int .i64 0, .int .i64 0, .int .i64 0, .int .i64 0, .int .i64 0, .int .i64 0]) (t := 28) ?_; intro gb300 hg w93 hbox hb; have n0_ := ka (blk_below (g := gb299) (kz BK299.out) hb); have n1_ := ka (below_step (kw HB.out) hb); have n2_ := ka (hbox); have n3_ := ka ((by rw [hg]; exact (below_size (kw HB.out)) : w.heap.size ≤ gb300)); have n4_ := n3_; have n5_ := ka ((by rw [hg]; exact Nat.ne_of_lt (blk_lt (g := gb299) (kz BK299.out)) : gb299 ≠ gb300)); have n6_ := ka n5_.out.symm; clear BK299; clear HB; have BK299 := n0_; have HB := n1_; have BK300 := n2_; have GW300 := n3_; have GE300 := n4_; have NB299_300 := n5_; have NB300_299 := n6_; clear n0_ n1_ n2_ n3_ n4_ n5_ n6_; clear hb hbox hg; have hnb94 := NB299_300.out; have hnc94 := NB300_299.out; have hcz95 := blkAll15 BK299.out; have hcz96 := blkAll6 BK300.out) | ((with_reducible refine gate_callee (f := 21) rfl ?_); refine kg (some 14) rfl rfl Try.func21 (by kernel_rfl) rfl #[.agg #[.int .i64 0, .int .i64 0, .int .i64 0, .int .i64 0, .int .i64 0, .int .i64 0, .int .i64 0, .int .i64 0, .int .i64 0]] rfl ?_; (with_reducible refine (water_New.calls 0 0 0 0 0 0 0 0 0 t301 t302 t303 t304 t305 t306 t307 t308 t309 t310 t311 t312 t313 t314 t315 t316 _ A3.out).mono ?_); rintro e w97 ⟨rfl, hb⟩; refine ⟨_, rfl, ?_⟩; have n0_ := ka (blk_below (g := gb299) (o := .cells #[.int .i64 t277, .int .i64 t278, .int .i64 t279, .int .i64 t280, .int .i64 t281, .int .i64 t282, .int .i64 t283, .int .i64 t284, .int .i64 t285, .int .i64 t286, .int .i64 t287, .int .i64 t288, .int .i64 t289, .int .i64 t290, .int .i64 t291] 25 (0, 0)) (by (with_reducible repeat (first | apply kb1 | apply kb2 | apply kb3 | refine kb4 ?_ NB299_300.out _ | apply blkPut15_14 | apply blkPut15_13 | apply blkPut15_12 | apply blkPut15_11 | apply blkPut15_10 | apply blkPut15_9 | apply blkPut15_8 | apply blkPut15_7 | apply blkPut15_6 | apply blkPut15_5 | apply blkPut15_4 | apply blkPut15_3 | apply blkPut15_2 | apply blkPut15_1 | apply blkPut15_0)); exact BK299.out) hb); have n1_ := ka (blk_below (g := gb300) (o := .cells #[.int .i64 t292, .int .i64 t293, .int .i64 t294, .int .i64 t295, .int .i64 t296, .int .i64 t297] 28 (0, 0)) (by (with_reducible repeat (first | apply kb1 | apply kb2 | apply kb3 | apply blkPut6_5 | apply blkPut6_4 | apply blkPut6_3 | apply blkPut6_2 | apply blkPut6_1 | apply blkPut6_0 | refine kb4 ?_ NB300_299.out _)); exact BK300.out) hb); have n2_ := ka (below_step (kw HB.out) hb); clear BK299; clear BK300; clear HB; have BK299 := n0_; have BK300 := n1_; have HB := n2_; clear n0_ n1_ n2_; (try clear hb); (try clear hb2); (try clear hk); (try clear hi); (try simp only [errW_none, errW_some])) | ((with_reducible refine gate_dst (N := 4) rfl ?_); refine kx (N := 4) (cs := #[.int .i64 0, .int .i64 0, .int .i64 0, .int .i64 0, .int .i64 0, .int .i64 0, .int .i64 0, .int .i64 0, .int .i64 0, .int .i64 0, .int .i64 0, .int .i64 0, .int .i64 0, .int .i64 0, .int .i64 0]) (t := 25) ?_; intro gb317 hg w98 hbox hb; have n0_ := ka (blk_below (g := gb299) (kz BK299.out) hb); have n1_ := ka (blk_below (g := gb300) (kz BK300.out) hb); have n2_ := ka (below_step (kw HB.out) hb); have n3_ := ka (hbox); have n4_ := ka ((by rw [hg]; exact (below_size (kw HB.out)) : w.heap.size ≤ gb317)); have n5_ := n4_; have n6_ := ka ((by rw [hg]; exact Nat.ne_of_lt (blk_lt (g := gb299) (kz BK299.out)) : gb299 ≠ gb317)); have n7_ := ka n6_.out.symm; have n8_ := ka ((by rw [hg]; exact Nat.ne_of_lt (blk_lt (g := gb300) (kz BK300.out)) : gb300 ≠ gb317)); have n9_ := ka n8_.out.symm; clear BK299; clear BK300; clear HB; have BK299 := n0_; have BK300 := n1_; have HB := n2_; have BK317 := n3_; have GW317 := n4_; have GE317 := n5_; have NB299_317 := n6_; have NB317_299 := n7_; have NB300_317 := n8_; have NB317_300 := n9_; clear n0_ n1_ n2_ n3_ n4_ n5_ n6_ n7_ n8_ n9_; clear hb hbox hg; have hnb99 := NB317_299.out; have hnc99 := NB299_317.out; have hnb100 := NB317_300.out; have hnc100 := NB300_317.out; have hcz101 := blkAll15 BK317.out) | ((with_reducible refine gate_store (T := 25) rfl ?_); first | (refine store_event (g := gb299) rfl rfl rfl rfl rfl (by (with_reducible repeat (first | apply kb1 | apply kb2 | apply kb3)); with_reducible exact BK299.out) (by kernel_rfl) (by rfl) (by rfl) ?_; intro w_299 eX eO eB; (try (replace BK300 := ka ((eO _ NB300_299.out).trans (by (with_reducible repeat (first | apply kb1 | apply kb2 | apply kb3)); with_reducible exact BK300.out)))); (try (replace BK317 := ka ((eO _ NB317_299.out).trans (by (with_reducible repeat (first | apply kb1 | apply kb2 | apply kb3)); with_reducible exact BK317.out)))); replace BK299 := ka eX; replace HB := ka (eB _ _ (kw HB.out) GE299.out); clear eX eO eB; (try have hz299 := blkAll15 BK299.out); (try have hz300 := blkAll6 BK300.out); (try have hz317 := blkAll15 BK317.out); (try have hy300 := NB300_299.out); (try have hx300 := NB299_300.out); (try have hy317 := NB317_299.out); (try have hx317 := NB299_317.out)) | (refine store_event (g := gb317) rfl rfl rfl rfl rfl (by (with_reducible repeat (first | apply kb1 | apply kb2 | apply kb3)); with_reducible exact BK317.out) (by kernel_rfl) (by rfl) (by rfl) ?_; intro w_317 eX eO eB; (try (replace BK299 := ka ((eO _ NB299_317.out).trans (by (with_reducible repeat (first | apply kb1 | apply kb2 | apply kb3)); with_reducible exact BK299.out)))); (try (replace BK300 := ka ((eO _ NB300_317.out).trans (by (with_reducible repeat (first | apply kb1 | apply kb2 | apply kb3)); with_reducible exact BK300.out)))); replace BK317 := ka eX; replace HB := ka (eB _ _ (kw HB.out) GE317.out); clear eX eO eB; (try have hz299 := blkAll15 BK299.out); (try have hz300 := blkAll6 BK300.out); (try have hz317 := blkAll15 BK317.out); (try have hy299 := NB299_317.out); (try have hx299 := NB317_299.out); (try have hy300 := NB300_317.out); (try have hx300 := NB317_300.out))))
  go_ret
  exact ⟨by first | rfl | (simp [errW_none, errW_some] <;> rfl) | (simp [*, errW_none, errW_some] <;> rfl), by repeat (first | (with_reducible first | exact HB.out | apply kc1 | apply kc2 | apply kc3 | refine kc4 ?_ GE299.out | refine kc4 ?_ GE300.out | refine kc4 ?_ GE317.out) | exact HB.out)⟩

/-! ### trivetlaw13_up_s: function 10, told plainly -/
theorem trivetlaw13_up.tells : trivetlaw13_up.f = some true := by decide +kernel
def trivetlaw13_up_s.f : Option Bool := some true
theorem trivetlaw13_up_s.calls  (r : Bool) (w : World) (h : trivetlaw13_up_s.f  = some r) :
  Calls Try.prog 10 #[] w fun e w' => e = .returned (.bool r) ∧ Below w.heap.size w w' := by
 exact trivetlaw13_up.calls r w ((trivetlaw13_up.tells ).trans h)

/-! ### trivetref04_Days: function 39 -/
mutual
def trivetref04_Days.j0 : Nat → Int → Int → Bool → Option (Int)
 | 0, _, _, _ => none
 | k + 1, x0, x1, x18 => if x18 = true then (some 0) else (if x1 = 2 then (if (Int.tmod x0 400) = 0 then (trivetref04_Days.j1 k true) else (if (Int.tmod x0 4) = 0 then (trivetref04_Days.j1 k ((Int.tmod x0 100) != 0)) else (trivetref04_Days.j1 k false))) else (if x1 = 4 then (some 30) else (if x1 = 6 then (some 30) else (if x1 = 9 then (some 30) else (if x1 = 11 then (some 30) else (some 31))))))
def trivetref04_Days.j1 : Nat → Bool → Option (Int)
 | 0, _ => none
 | k + 1, x33 => if x33 = true then (some 29) else (some 28)
end
def trivetref04_Days.f (k : Nat) (a0 : Int) (a1 : Int) : Option (Int) := if a0 < 1900 then (trivetref04_Days.j0 k a0 a1 true) else (if a0 > 2199 then (trivetref04_Days.j0 k a0 a1 true) else (if a1 < 1 then (trivetref04_Days.j0 k a0 a1 true) else (trivetref04_Days.j0 k a0 a1 (decide (a1 > 12)))))
theorem trivetref04_Days.mono_l : ∀ k, (∀ y0 y1 y2, LeO (trivetref04_Days.j0 k y0 y1 y2) (trivetref04_Days.j0 (k + 1) y0 y1 y2)) ∧ (∀ y0, LeO (trivetref04_Days.j1 k y0) (trivetref04_Days.j1 (k + 1) y0))
 | 0 => ⟨fun _ _ _ r h => by simp [trivetref04_Days.j0] at h, fun _ r h => by simp [trivetref04_Days.j1] at h⟩
 | k + 1 => by
  obtain ⟨ih0, ih1⟩ := trivetref04_Days.mono_l k
  refine ⟨?_, ?_⟩
  ·intro y0 y1 y2
   unfold trivetref04_Days.j0
   repeat' first
   | (with_reducible exact ih0 _ _ _)
   | (with_reducible exact ih1 _)
   | (with_reducible exact LeO.refl _)
   | (with_reducible exact LeO.none _)
   | (with_reducible refine LeO.ite ?_ ?_)
   | (with_reducible refine LeO.bind ?_ (fun _ => ?_))
   | exact ih0 _ _ _
   | exact ih1 _
   | exact LeO.none _
   | refine LeO.ite ?_ ?_
   | refine LeO.bind ?_ (fun _ => ?_)
  ·intro y0
   unfold trivetref04_Days.j1
   repeat' first
   | (with_reducible exact ih0 _ _ _)
   | (with_reducible exact ih1 _)
   | (with_reducible exact LeO.refl _)
   | (with_reducible exact LeO.none _)
   | (with_reducible refine LeO.ite ?_ ?_)
   | (with_reducible refine LeO.bind ?_ (fun _ => ?_))
   | exact ih0 _ _ _
   | exact ih1 _
   | exact LeO.none _
   | refine LeO.ite ?_ ?_
   | refine LeO.bind ?_ (fun _ => ?_)
theorem trivetref04_Days.mono : ∀ a0 a1 k, LeO (trivetref04_Days.f k a0 a1) (trivetref04_Days.f (k + 1) a0 a1) := by
 intro a0 a1 k
 obtain ⟨ih0, ih1⟩ := trivetref04_Days.mono_l k
 unfold trivetref04_Days.f
 repeat' first
   | (with_reducible exact ih0 _ _ _)
   | (with_reducible exact ih1 _)
   | (with_reducible exact LeO.refl _)
   | (with_reducible exact LeO.none _)
   | (with_reducible refine LeO.ite ?_ ?_)
   | (with_reducible refine LeO.bind ?_ (fun _ => ?_))
   | exact ih0 _ _ _
   | exact ih1 _
   | exact LeO.none _
   | refine LeO.ite ?_ ?_
   | refine LeO.bind ?_ (fun _ => ?_)
set_option maxHeartbeats 8000000 in
set_option maxRecDepth 100000 in
theorem trivetref04_Days.calls (k : Nat) (a0 : Int) (a1 : Int) (r : Int) (w : World) (h : trivetref04_Days.f k a0 a1 = some r) :
  Calls Try.prog 39 #[.int .i64 a0, .int .i64 a1] w fun e w' => e = .returned (.int .i64 r) ∧ Drawn0 w w' := by
 have H : (if a0 < 1900 then (trivetref04_Days.j0 k a0 a1 true) else (if a0 > 2199 then (trivetref04_Days.j0 k a0 a1 true) else (if a1 < 1 then (trivetref04_Days.j0 k a0 a1 true) else (trivetref04_Days.j0 k a0 a1 (decide (a1 > 12)))))) = some r := h
 clear h
 have HC3 := ka H
 clear H
 go_enter Try.func39, Try.ntmps39
 go_upto_region 1 with (fail)
 go_cut [18] (fun v18 wc => ∃ (kq : Nat) (x18_2 : Bool), v18 = .bool x18_2 ∧ Aside0 (trivetref04_Days.j0 kq a0 a1 x18_2 = some r) ∧ Aside0 (kq ≤ k) ∧ Drawn0 w wc)
 case first =>
  have H := HC3.out
  clear HC3
  by_cases c4 : a0 < 1900
  ·rw [if_pos c4] at H
   have c4b0 : decide (a0 < 1900) = true := decide_eq_true c4
   clear c4
   (first | rw [c4b0] | (simp only [i64_w, i32_w]; rw [c4b0]) | skip)
   have H' := ka H
   clear H
   go_wp2
   go_meet
   case rel => exact ⟨_, (true), (by first | rfl | (simp; done) | (simp [*]; done)), H', ⟨by first | omega | exact Nat.le_refl _⟩, by repeat (first | exact Drawn0.refl _ | apply Drawn0.step)⟩
  ·rw [if_neg c4] at H
   have c4b0 : decide (a0 < 1900) = false := decide_eq_false c4
   clear c4
   (first | rw [c4b0] | (simp only [i64_w, i32_w]; rw [c4b0]) | skip)
   by_cases c5 : a0 > 2199
   ·rw [if_pos c5] at H
    have c5b0 : decide (2199 < a0) = true := decide_eq_true c5
    clear c5
    have H' := ka H
    clear H
    go_wp2
    go_meet
    case rel => exact ⟨_, (true), (by first | rfl | (simp; done) | (simp [*]; done)), H', ⟨by first | omega | exact Nat.le_refl _⟩, by repeat (first | exact Drawn0.refl _ | apply Drawn0.step)⟩
   ·rw [if_neg c5] at H
    have c5b0 : decide (2199 < a0) = false := decide_eq_false c5
    clear c5
    by_cases c6 : a1 < 1
    ·rw [if_pos c6] at H
     have c6b0 : decide (a1 < 1) = true := decide_eq_true c6
     clear c6
     have H' := ka H
     clear H
     go_wp2
     go_meet
     case rel => exact ⟨_, (true), (by first | rfl | (simp; done) | (simp [*]; done)), H', ⟨by first | omega | exact Nat.le_refl _⟩, by repeat (first | exact Drawn0.refl _ | apply Drawn0.step)⟩
    ·rw [if_neg c6] at H
     have c6b0 : decide (a1 < 1) = false := decide_eq_false c6
     clear c6
     have H' := ka H
     clear H
     go_wp2
     go_meet
     case rel => exact ⟨_, (decide (a1 > 12)), (by first | rfl | (simp; done) | (simp [*]; done)), H', ⟨by first | omega | exact Nat.le_refl _⟩, by repeat (first | exact Drawn0.refl _ | apply Drawn0.step)⟩
 case rest =>
  clear HC3
  try clear p2
  try clear c3
  try clear c4
  try clear c4b0
  try clear c5
  try clear c5b0
  try clear c6
  try clear c6b0
  obtain ⟨kq, x18_2, rfl, HA, HJ2, ⟨mc2, rfl⟩⟩ := hcut
  cases kq with
  | zero => exact absurd HA.out (by simp [trivetref04_Days.j0])
  | succ kj2 =>
   have H := HA.out
   clear HA
   simp only [trivetref04_Days.j0] at H
   by_cases c7 : x18_2 = true
   ·subst c7
    have H1 : (some 0) = some r := by rw [if_pos rfl] at H; exact H
    clear H
    have H := H1
    clear H1
    obtain rfl := Option.some.inj H
    go_wp2
    go_ret
    exact ⟨by first | rfl | (simp; done) | (simp [*]; done), by repeat (first | exact Drawn0.refl _ | apply Drawn0.step)⟩
   ·replace c7 := Bool.eq_false_iff.mpr c7
    subst c7
    have H1 : (if a1 = 2 then (if (Int.tmod a0 400) = 0 then (trivetref04_Days.j1 kj2 true) else (if (Int.tmod a0 4) = 0 then (trivetref04_Days.j1 kj2 ((Int.tmod a0 100) != 0)) else (trivetref04_Days.j1 kj2 false))) else (if a1 = 4 then (some 30) else (if a1 = 6 then (some 30) else (if a1 = 9 then (some 30) else (if a1 = 11 then (some 30) else (some 31)))))) = some r := by rw [if_neg (show ¬ (false = true) by decide)] at H; exact H
    clear H
    have H := H1
    clear H1
    by_cases c8 : a1 = 2
    ·rw [if_pos c8] at H
     have c8b0 : (a1 == 2) = true := beq_iff_eq.mpr c8
     have c8b1 : (a1 != 2) = false := bne_eq_false_iff_eq.mpr c8
     clear c8
     have HC9 := ka H
     clear H
     go_upto_region 4 with (fail)
     go_cut [33] (fun v33 wc => ∃ (kq : Nat) (x33_8 : Bool), v33 = .bool x33_8 ∧ Aside0 (trivetref04_Days.j1 kq x33_8 = some r) ∧ Aside0 (kq ≤ kj2) ∧ Drawn0 w wc)
     case first =>
      have H := HC9.out
      clear HC9
      by_cases c10 : (Int.tmod a0 400) = 0
      ·rw [if_pos c10] at H
       have c10b0 : ((Int.tmod a0 400) == 0) = true := beq_iff_eq.mpr c10
       have c10b1 : ((Int.tmod a0 400) != 0) = false := bne_eq_false_iff_eq.mpr c10
       clear c10
       (first | rw [c10b0] | (simp only [i64_w, i32_w]; rw [c10b0]) | skip)
       have H' := ka H
       clear H
       go_wp2
       go_meet
       case rel => exact ⟨_, (true), (by first | rfl | (simp; done) | (simp [*]; done)), H', ⟨by have := HJ2.out; first | omega | exact Nat.le_refl _⟩, by repeat (first | exact Drawn0.refl _ | apply Drawn0.step)⟩
      ·rw [if_neg c10] at H
       have c10b0 : ((Int.tmod a0 400) == 0) = false := beq_eq_false_iff_ne.mpr c10
       have c10b1 : ((Int.tmod a0 400) != 0) = true := bne_iff_ne.mpr c10
       (first | rw [c10b0] | (simp only [i64_w, i32_w]; rw [c10b0]) | skip)
       by_cases c11 : (Int.tmod a0 4) = 0
       ·rw [if_pos c11] at H
        have c11b0 : ((Int.tmod a0 4) == 0) = true := beq_iff_eq.mpr c11
        have c11b1 : ((Int.tmod a0 4) != 0) = false := bne_eq_false_iff_eq.mpr c11
        clear c11
        have H' := ka H
        clear H
        go_wp2
        go_meet
        case rel => exact ⟨_, (((Int.tmod a0 100) != 0)), (by first | rfl | (simp; done) | (simp [*]; done)), H', ⟨by have := HJ2.out; first | omega | exact Nat.le_refl _⟩, by repeat (first | exact Drawn0.refl _ | apply Drawn0.step)⟩
       ·rw [if_neg c11] at H
        have c11b0 : ((Int.tmod a0 4) == 0) = false := beq_eq_false_iff_ne.mpr c11
        have c11b1 : ((Int.tmod a0 4) != 0) = true := bne_iff_ne.mpr c11
        have H' := ka H
        clear H
        go_wp2
        go_meet
        case rel => exact ⟨_, (false), (by first | rfl | (simp; done) | (simp [*]; done)), H', ⟨by have := HJ2.out; first | omega | exact Nat.le_refl _⟩, by repeat (first | exact Drawn0.refl _ | apply Drawn0.step)⟩
     case rest =>
      clear HC9
      try clear c1
      try clear c2
      try clear p2
      try clear c3
      try clear c4
      try clear c4b0
      try clear c5
      try clear c5b0
      try clear c6
      try clear c6b0
      try clear c7
      try clear c8
      try clear c8b0
      try clear c8b1
      try clear c10
      try clear c10b0
      try clear c10b1
      try clear c11
      try clear c11b0
      try clear c11b1
      try clear p2
      obtain ⟨kq, x33_8, rfl, HA, HJ8, ⟨mc8, rfl⟩⟩ := hcut
      cases kq with
      | zero => exact absurd HA.out (by simp [trivetref04_Days.j1])
      | succ kj8 =>
       have H := HA.out
       clear HA
       simp only [trivetref04_Days.j1] at H
       by_cases c12 : x33_8 = true
       ·subst c12
        have H1 : (some 29) = some r := by rw [if_pos rfl] at H; exact H
        clear H
        have H := H1
        clear H1
        obtain rfl := Option.some.inj H
        go_wp2
        go_ret
        exact ⟨by first | rfl | (simp; done) | (simp [*]; done), by repeat (first | exact Drawn0.refl _ | apply Drawn0.step)⟩
       ·replace c12 := Bool.eq_false_iff.mpr c12
        subst c12
        have H1 : (some 28) = some r := by rw [if_neg (show ¬ (false = true) by decide)] at H; exact H
        clear H
        have H := H1
        clear H1
        obtain rfl := Option.some.inj H
        go_wp2
        go_ret
        exact ⟨by first | rfl | (simp; done) | (simp [*]; done), by repeat (first | exact Drawn0.refl _ | apply Drawn0.step)⟩
    ·rw [if_neg c8] at H
     have c8b0 : (a1 == 2) = false := beq_eq_false_iff_ne.mpr c8
     have c8b1 : (a1 != 2) = true := bne_iff_ne.mpr c8
     by_cases c13 : a1 = 4
     ·rw [if_pos c13] at H
      have c13b0 : (a1 == 4) = true := beq_iff_eq.mpr c13
      have c13b1 : (a1 != 4) = false := bne_eq_false_iff_eq.mpr c13
      clear c13
      obtain rfl := Option.some.inj H
      go_wp2
      go_ret
      exact ⟨by first | rfl | (simp; done) | (simp [*]; done), by repeat (first | exact Drawn0.refl _ | apply Drawn0.step)⟩
     ·rw [if_neg c13] at H
      have c13b0 : (a1 == 4) = false := beq_eq_false_iff_ne.mpr c13
      have c13b1 : (a1 != 4) = true := bne_iff_ne.mpr c13
      by_cases c14 : a1 = 6
      ·rw [if_pos c14] at H
       have c14b0 : (a1 == 6) = true := beq_iff_eq.mpr c14
       have c14b1 : (a1 != 6) = false := bne_eq_false_iff_eq.mpr c14
       clear c14
       obtain rfl := Option.some.inj H
       go_wp2
       go_ret
       exact ⟨by first | rfl | (simp; done) | (simp [*]; done), by repeat (first | exact Drawn0.refl _ | apply Drawn0.step)⟩
      ·rw [if_neg c14] at H
       have c14b0 : (a1 == 6) = false := beq_eq_false_iff_ne.mpr c14
       have c14b1 : (a1 != 6) = true := bne_iff_ne.mpr c14
       by_cases c15 : a1 = 9
       ·rw [if_pos c15] at H
        have c15b0 : (a1 == 9) = true := beq_iff_eq.mpr c15
        have c15b1 : (a1 != 9) = false := bne_eq_false_iff_eq.mpr c15
        clear c15
        obtain rfl := Option.some.inj H
        go_wp2
        go_ret
        exact ⟨by first | rfl | (simp; done) | (simp [*]; done), by repeat (first | exact Drawn0.refl _ | apply Drawn0.step)⟩
       ·rw [if_neg c15] at H
        have c15b0 : (a1 == 9) = false := beq_eq_false_iff_ne.mpr c15
        have c15b1 : (a1 != 9) = true := bne_iff_ne.mpr c15
        by_cases c16 : a1 = 11
        ·rw [if_pos c16] at H
         have c16b0 : (a1 == 11) = true := beq_iff_eq.mpr c16
         have c16b1 : (a1 != 11) = false := bne_eq_false_iff_eq.mpr c16
         clear c16
         obtain rfl := Option.some.inj H
         go_wp2
         go_ret
         exact ⟨by first | rfl | (simp; done) | (simp [*]; done), by repeat (first | exact Drawn0.refl _ | apply Drawn0.step)⟩
        ·rw [if_neg c16] at H
         have c16b0 : (a1 == 11) = false := beq_eq_false_iff_ne.mpr c16
         have c16b1 : (a1 != 11) = true := bne_iff_ne.mpr c16
         obtain rfl := Option.some.inj H
         go_wp2
         go_ret
         exact ⟨by first | rfl | (simp; done) | (simp [*]; done), by repeat (first | exact Drawn0.refl _ | apply Drawn0.step)⟩

/-! ### trivetref04_Days_s: function 39, told plainly -/
theorem trivetref04_Days.tells (y m : Int) (k : Nat) (hk : 2 ≤ k) : trivetref04_Days.f k y m = some (M.days y m) := by
 obtain ⟨k, rfl⟩ : ∃ m, k = m + 2 := ⟨k - 2, by omega⟩
 have out : ¬ (1900 ≤ y ∧ y ≤ 2199 ∧ 1 ≤ m ∧ m ≤ 12) → trivetref04_Days.j0 (k + 2) y m true = some (M.days y m) := by
  intro h
  unfold M.days
  rw [if_neg h]
  simp [trivetref04_Days.j0]
 unfold trivetref04_Days.f
 by_cases h1 : y < 1900
 ·rw [if_pos h1]; exact out (by omega)
 rw [if_neg h1]
 by_cases h2 : y > 2199
 ·rw [if_pos h2]; exact out (by omega)
 rw [if_neg h2]
 by_cases h3 : m < 1
 ·rw [if_pos h3]; exact out (by omega)
 rw [if_neg h3]
 by_cases h4 : m > 12
 ·rw [decide_eq_true h4]; exact out (by omega)
 rw [decide_eq_false h4]
 simp only [trivetref04_Days.j0]
 rw [if_neg (by decide), M.tmodu (by omega), M.tmodu (by omega), M.tmodu (by omega)]
 unfold M.days
 rw [if_pos (show 1900 ≤ y ∧ y ≤ 2199 ∧ 1 ≤ m ∧ m ≤ 12 by omega)]
 by_cases h5 : m = 2
 ·rw [if_pos h5, if_pos h5]
  unfold M.leap
  simp only [trivetref04_Days.j1]
  by_cases g1 : y % 400 = 0
  ·have : y % 4 = 0 := by omega
   simp [g1]
  ·by_cases g2 : y % 4 = 0
   ·by_cases g3 : y % 100 = 0 <;> simp [g1, g2, g3]
   ·simp [g1, g2]
 ·rw [if_neg h5, if_neg h5]
  by_cases g4 : m = 4
  ·rw [if_pos g4, if_pos (.inl g4)]
  rw [if_neg g4]
  by_cases g6 : m = 6
  ·rw [if_pos g6, if_pos (.inr (.inl g6))]
  rw [if_neg g6]
  by_cases g9 : m = 9
  ·rw [if_pos g9, if_pos (.inr (.inr (.inl g9)))]
  rw [if_neg g9]
  by_cases g11 : m = 11
  ·rw [if_pos g11, if_pos (.inr (.inr (.inr g11)))]
  rw [if_neg g11, if_neg (by omega)]
def trivetref04_Days_s.f (y m : Int) : Option Int := some (M.days y m)
theorem trivetref04_Days_s.calls (a0 : Int) (a1 : Int) (r : Int) (w : World) (h : trivetref04_Days_s.f a0 a1 = some r) :
  Calls Try.prog 39 #[.int .i64 a0, .int .i64 a1] w fun e w' => e = .returned (.int .i64 r) ∧ Drawn0 w w' := by
 exact trivetref04_Days.calls (2) a0 a1 r w ((trivetref04_Days.tells a0 a1 (2) (Nat.le_refl _)).trans h)

/-! ### trivetref04_year: function 38 -/
def trivetref04_year.f (a0 : Int) : Option (Int) := (trivetref04_Days_s.f a0 2).bind fun t320 => (some (wrap64 (337 + t320)))
set_option maxHeartbeats 8000000 in
set_option maxRecDepth 100000 in
theorem trivetref04_year.calls (a0 : Int) (r : Int) (w : World) (h : trivetref04_year.f a0 = some r) :
  Calls Try.prog 38 #[.int .i64 a0] w fun e w' => e = .returned (.int .i64 r) ∧ Drawn0 w w' := by
 have H : ((trivetref04_Days_s.f a0 2).bind fun t320 => (some (wrap64 (337 + t320)))) = some r := h
 clear h
 replace H := Option.bind_eq_some_iff.mp H
 obtain ⟨t320, A20, H⟩ := H
 replace H : (some (wrap64 (337 + t320))) = some r := H
 have A2 := ka A20
 clear A20
 obtain rfl := Option.some.inj H
 go_enter Try.func38, Try.ntmps38
 go_wp2_with (first | ((with_reducible refine gate_callee (f := 39) rfl ?_); refine kg (some 4) rfl rfl Try.func39 (by kernel_rfl) rfl #[.int .i64 a0, .int .i64 2] rfl ?_; (with_reducible refine (trivetref04_Days_s.calls a0 2 t320 _ A2.out).mono ?_); rintro e w' ⟨rfl, ⟨nd, rfl⟩⟩; refine ⟨_, rfl, ?_⟩))
 go_ret
 exact ⟨by first | rfl | (simp; done) | (simp [*]; done), by repeat (first | exact Drawn0.refl _ | apply Drawn0.step)⟩

/-! ### trivetref04_year_s: function 38, told plainly -/
theorem trivetref04_year.tells (y : Int) : trivetref04_year.f y = some (337 + M.days y 2) := by
 have := M.days_bd y 2
 unfold trivetref04_year.f trivetref04_Days_s.f
 rw [Option.bind_some, M.w64_id (by omega) (by omega)]
def trivetref04_year_s.f (y : Int) : Option Int := some (337 + M.days y 2)
theorem trivetref04_year_s.calls (a0 : Int) (r : Int) (w : World) (h : trivetref04_year_s.f a0 = some r) :
  Calls Try.prog 38 #[.int .i64 a0] w fun e w' => e = .returned (.int .i64 r) ∧ Drawn0 w w' := by
 exact trivetref04_year.calls a0 r w ((trivetref04_year.tells a0).trans h)

end Go.Proofs.Ytimobafoidplaaa.P
