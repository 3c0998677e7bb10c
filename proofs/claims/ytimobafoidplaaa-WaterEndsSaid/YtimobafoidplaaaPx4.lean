-- Written by a program of this session out of the translation of the seat: Lean functions and the proofs that the Go functions come to them.
import Derived.Test.YtimobafoidplaaaPx0
import Derived.Test.YtimobafoidplaaaPx2
import Derived.Test.YtimobafoidplaaaPx3
namespace Go.Proofs.Ytimobafoidplaaa.P
open Go.RowKit Go.Proofs.YtimobafoidplaaaW.PrintWords Go.Proofs.YtimobafoidplaaaW.PrintLast Go.Proofs.YtimobafoidplaaaW.PrintMore
attribute [local go_sem] max2_int min2_int max_two min_two max_three min_three max_four min_four   -- for this text's walks alone
set_option linter.unusedVariables false
set_option linter.unusedSimpArgs false

/-! ### terms_Check: function 41 -/
def terms_Check.j0 : Nat → Bool → Int → Int → Int → Int → Int → Int → Int → Int → Int → Int → Int → Int → Option (Option Int)
 | 0, _, _, _, _, _, _, _, _, _, _, _, _, _ => none
 | k + 1, x48, x118000, x118001, x118002, x118003, x118004, x118005, x118006, x118007, x118008, x123000, x123001, x123002 => if x48 = true then (some (some 1)) else ((date_Months_s.f x123000 x123001 x123002 x118002).bind fun bt124 => (if bt124.2.2.2.isNone = true then (some none) else (some (some 1))))
def terms_Check.f (k : Nat) (a0_0 : Int) (a0_1 : Int) (a0_2 : Int) (a0_3 : Int) (a0_4 : Int) (a0_5 : Int) (a0_6 : Int) (a0_7 : Int) (a0_8 : Int) : Option (Option Int) := (terms_first_s.f a0_0 a0_1 a0_2 a0_3 a0_4 a0_5 a0_6 a0_7 a0_8).bind fun bt118 => (if bt118.2.2.2 = true then ((terms_money_s.f a0_0 a0_1 a0_2 a0_3 a0_4 a0_5 a0_6 a0_7 a0_8).bind fun t123 => (if t123 = true then (if a0_2 < 1 then (terms_Check.j0 k true a0_0 a0_1 a0_2 a0_3 a0_4 a0_5 a0_6 a0_7 a0_8 bt118.1 bt118.2.1 bt118.2.2.1) else (if a0_2 > 480 then (terms_Check.j0 k true a0_0 a0_1 a0_2 a0_3 a0_4 a0_5 a0_6 a0_7 a0_8 bt118.1 bt118.2.1 bt118.2.2.1) else (if a0_5 < 1 then (terms_Check.j0 k true a0_0 a0_1 a0_2 a0_3 a0_4 a0_5 a0_6 a0_7 a0_8 bt118.1 bt118.2.1 bt118.2.2.1) else (if a0_5 > 64 then (terms_Check.j0 k true a0_0 a0_1 a0_2 a0_3 a0_4 a0_5 a0_6 a0_7 a0_8 bt118.1 bt118.2.1 bt118.2.2.1) else (if a0_6 < 1 then (terms_Check.j0 k true a0_0 a0_1 a0_2 a0_3 a0_4 a0_5 a0_6 a0_7 a0_8 bt118.1 bt118.2.1 bt118.2.2.1) else (terms_Check.j0 k (decide (a0_6 > 3)) a0_0 a0_1 a0_2 a0_3 a0_4 a0_5 a0_6 a0_7 a0_8 bt118.1 bt118.2.1 bt118.2.2.1)))))) else (terms_Check.j0 k true a0_0 a0_1 a0_2 a0_3 a0_4 a0_5 a0_6 a0_7 a0_8 bt118.1 bt118.2.1 bt118.2.2.1))) else (terms_Check.j0 k true a0_0 a0_1 a0_2 a0_3 a0_4 a0_5 a0_6 a0_7 a0_8 bt118.1 bt118.2.1 bt118.2.2.1))
theorem terms_Check.mono_l : ∀ k, (∀ y0 y1 y2 y3 y4 y5 y6 y7 y8 y9 y10 y11 y12, LeO (terms_Check.j0 k y0 y1 y2 y3 y4 y5 y6 y7 y8 y9 y10 y11 y12) (terms_Check.j0 (k + 1) y0 y1 y2 y3 y4 y5 y6 y7 y8 y9 y10 y11 y12))
 | 0 => fun _ _ _ _ _ _ _ _ _ _ _ _ _ r h => by simp [terms_Check.j0] at h
 | k + 1 => by
  have ih0 := terms_Check.mono_l k
  ·intro y0 y1 y2 y3 y4 y5 y6 y7 y8 y9 y10 y11 y12
   unfold terms_Check.j0
   repeat' first
   | (with_reducible exact ih0 _ _ _ _ _ _ _ _ _ _ _ _ _)
   | (with_reducible exact LeO.refl _)
   | (with_reducible exact LeO.none _)
   | (with_reducible refine LeO.ite ?_ ?_)
   | (with_reducible refine LeO.bind ?_ (fun _ => ?_))
   | exact ih0 _ _ _ _ _ _ _ _ _ _ _ _ _
   | exact LeO.none _
   | refine LeO.ite ?_ ?_
   | refine LeO.bind ?_ (fun _ => ?_)
theorem terms_Check.mono : ∀ a0 a1 a2 a3 a4 a5 a6 a7 a8 k, LeO (terms_Check.f k a0 a1 a2 a3 a4 a5 a6 a7 a8) (terms_Check.f (k + 1) a0 a1 a2 a3 a4 a5 a6 a7 a8) := by
 intro a0 a1 a2 a3 a4 a5 a6 a7 a8 k
 have ih0 := terms_Check.mono_l k
 unfold terms_Check.f
 repeat' first
   | (with_reducible exact ih0 _ _ _ _ _ _ _ _ _ _ _ _ _)
   | (with_reducible exact LeO.refl _)
   | (with_reducible exact LeO.none _)
   | (with_reducible refine LeO.ite ?_ ?_)
   | (with_reducible refine LeO.bind ?_ (fun _ => ?_))
   | exact ih0 _ _ _ _ _ _ _ _ _ _ _ _ _
   | exact LeO.none _
   | refine LeO.ite ?_ ?_
   | refine LeO.bind ?_ (fun _ => ?_)
set_option maxHeartbeats 8000000 in
set_option maxRecDepth 100000 in
theorem terms_Check.calls (k : Nat) (a0_0 : Int) (a0_1 : Int) (a0_2 : Int) (a0_3 : Int) (a0_4 : Int) (a0_5 : Int) (a0_6 : Int) (a0_7 : Int) (a0_8 : Int) (r : Option Int) (w : World) (h : terms_Check.f k a0_0 a0_1 a0_2 a0_3 a0_4 a0_5 a0_6 a0_7 a0_8 = some r) :
  Calls Try.prog 41 #[.agg #[.int .i64 a0_0, .int .i64 a0_1, .int .i64 a0_2, .int .i64 a0_3, .int .i64 a0_4, .int .i64 a0_5, .int .i64 a0_6, .int .i64 a0_7, .int .i64 a0_8]] w fun e w' => e = .returned (errW r) ∧ Below w.heap.size w w' := by
 have hu23 := Try.underlying23
 have hu53 := Try.underlying53
 have hu30 := Try.underlying30
 have hu34 := Try.underlying34
 have HB := ka (Below.refl w.heap.size w)
 have H : ((terms_first_s.f a0_0 a0_1 a0_2 a0_3 a0_4 a0_5 a0_6 a0_7 a0_8).bind fun bt118 => (if bt118.2.2.2 = true then ((terms_money_s.f a0_0 a0_1 a0_2 a0_3 a0_4 a0_5 a0_6 a0_7 a0_8).bind fun t123 => (if t123 = true then (if a0_2 < 1 then (terms_Check.j0 k true a0_0 a0_1 a0_2 a0_3 a0_4 a0_5 a0_6 a0_7 a0_8 bt118.1 bt118.2.1 bt118.2.2.1) else (if a0_2 > 480 then (terms_Check.j0 k true a0_0 a0_1 a0_2 a0_3 a0_4 a0_5 a0_6 a0_7 a0_8 bt118.1 bt118.2.1 bt118.2.2.1) else (if a0_5 < 1 then (terms_Check.j0 k true a0_0 a0_1 a0_2 a0_3 a0_4 a0_5 a0_6 a0_7 a0_8 bt118.1 bt118.2.1 bt118.2.2.1) else (if a0_5 > 64 then (terms_Check.j0 k true a0_0 a0_1 a0_2 a0_3 a0_4 a0_5 a0_6 a0_7 a0_8 bt118.1 bt118.2.1 bt118.2.2.1) else (if a0_6 < 1 then (terms_Check.j0 k true a0_0 a0_1 a0_2 a0_3 a0_4 a0_5 a0_6 a0_7 a0_8 bt118.1 bt118.2.1 bt118.2.2.1) else (terms_Check.j0 k (decide (a0_6 > 3)) a0_0 a0_1 a0_2 a0_3 a0_4 a0_5 a0_6 a0_7 a0_8 bt118.1 bt118.2.1 bt118.2.2.1)))))) else (terms_Check.j0 k true a0_0 a0_1 a0_2 a0_3 a0_4 a0_5 a0_6 a0_7 a0_8 bt118.1 bt118.2.1 bt118.2.2.1))) else (terms_Check.j0 k true a0_0 a0_1 a0_2 a0_3 a0_4 a0_5 a0_6 a0_7 a0_8 bt118.1 bt118.2.1 bt118.2.2.1))) = some r := h
 clear h
 replace H := Option.bind_eq_some_iff.mp H
 obtain ⟨⟨t118, t119, t120, t121⟩, A20, H⟩ := H
 replace H : (if t121 = true then ((terms_money_s.f a0_0 a0_1 a0_2 a0_3 a0_4 a0_5 a0_6 a0_7 a0_8).bind fun t123 => (if t123 = true then (if a0_2 < 1 then (terms_Check.j0 k true a0_0 a0_1 a0_2 a0_3 a0_4 a0_5 a0_6 a0_7 a0_8 t118 t119 t120) else (if a0_2 > 480 then (terms_Check.j0 k true a0_0 a0_1 a0_2 a0_3 a0_4 a0_5 a0_6 a0_7 a0_8 t118 t119 t120) else (if a0_5 < 1 then (terms_Check.j0 k true a0_0 a0_1 a0_2 a0_3 a0_4 a0_5 a0_6 a0_7 a0_8 t118 t119 t120) else (if a0_5 > 64 then (terms_Check.j0 k true a0_0 a0_1 a0_2 a0_3 a0_4 a0_5 a0_6 a0_7 a0_8 t118 t119 t120) else (if a0_6 < 1 then (terms_Check.j0 k true a0_0 a0_1 a0_2 a0_3 a0_4 a0_5 a0_6 a0_7 a0_8 t118 t119 t120) else (terms_Check.j0 k (decide (a0_6 > 3)) a0_0 a0_1 a0_2 a0_3 a0_4 a0_5 a0_6 a0_7 a0_8 t118 t119 t120)))))) else (terms_Check.j0 k true a0_0 a0_1 a0_2 a0_3 a0_4 a0_5 a0_6 a0_7 a0_8 t118 t119 t120))) else (terms_Check.j0 k true a0_0 a0_1 a0_2 a0_3 a0_4 a0_5 a0_6 a0_7 a0_8 t118 t119 t120)) = some r := H
 have A2 := ka A20
 clear A20
 have HC3 := ka H
 clear H
 go_enter Try.func41, Try.ntmps41
 go_upto_region 2 with (first | ((with_reducible refine gate_dst (N := 1) rfl ?_); refine kx (N := 1) (cs := #[.int .i64 a0_0, .int .i64 a0_1, .int .i64 a0_2, .int .i64 a0_3, .int .i64 a0_4, .int .i64 a0_5, .int .i64 a0_6, .int .i64 a0_7, .int .i64 a0_8]) (t := 23) ?_; intro gb117 hg w4 hbox hb; have n0_ := ka (below_step (kw HB.out) hb); have n1_ := ka (hbox); have n2_ := ka ((by rw [hg]; exact (below_size (kw HB.out)) : w.heap.size ≤ gb117)); have n3_ := n2_; clear HB; have HB := n0_; have BK117 := n1_; have GW117 := n2_; have GE117 := n3_; clear n0_ n1_ n2_ n3_; clear hb hbox hg; have hcz5 := blkAll9 BK117.out) | ((with_reducible refine gate_callee (f := 48) rfl ?_); refine kg (some 9) rfl rfl Try.func48 (by kernel_rfl) rfl #[.agg #[.int .i64 a0_0, .int .i64 a0_1, .int .i64 a0_2, .int .i64 a0_3, .int .i64 a0_4, .int .i64 a0_5, .int .i64 a0_6, .int .i64 a0_7, .int .i64 a0_8]] rfl ?_; (with_reducible refine (terms_first_s.calls a0_0 a0_1 a0_2 a0_3 a0_4 a0_5 a0_6 a0_7 a0_8 t118 t119 t120 t121 _ A2.out).mono ?_); rintro e w6 ⟨rfl, hb⟩; refine ⟨_, rfl, ?_⟩; have n0_ := ka (blk_below (g := gb117) (kz BK117.out) hb); have n1_ := ka (below_step (kw HB.out) hb); clear BK117; clear HB; have BK117 := n0_; have HB := n1_; clear n0_ n1_; (try clear hb); (try clear hb2); (try clear hk); (try clear hi)) | ((with_reducible refine gate_dst (N := 3) rfl ?_); refine kx (N := 3) (cs := #[.int .i64 0, .int .i64 0, .int .i64 0]) (t := 53) ?_; intro gb122 hg w7 hbox hb; have n0_ := ka (blk_below (g := gb117) (kz BK117.out) hb); have n1_ := ka (below_step (kw HB.out) hb); have n2_ := ka (hbox); have n3_ := ka ((by rw [hg]; exact (below_size (kw HB.out)) : w.heap.size ≤ gb122)); have n4_ := n3_; have n5_ := ka ((by rw [hg]; exact Nat.ne_of_lt (blk_lt (g := gb117) (kz BK117.out)) : gb117 ≠ gb122)); have n6_ := ka n5_.out.symm; clear BK117; clear HB; have BK117 := n0_; have HB := n1_; have BK122 := n2_; have GW122 := n3_; have GE122 := n4_; have NB117_122 := n5_; have NB122_117 := n6_; clear n0_ n1_ n2_ n3_ n4_ n5_ n6_; clear hb hbox hg; have hnb8 := NB122_117.out; have hnc8 := NB117_122.out; have hcz9 := blkAll3 BK122.out) | ((with_reducible refine gate_load (T := 23) rfl ?_); first | refine load_event (g := gb117) rfl rfl rfl Try.underlying23 rfl (by (with_reducible repeat (first | apply kb1 | apply kb2 | apply kb3)); with_reducible exact BK117.out) (by kernel_rfl) ?_))
 (try simp only [Act.put, List.setIfInBounds_toArray, List.set_cons_zero, List.set_cons_succ])
 go_cut [48] (fun v48 wc => ∃ (kq : Nat) (x48_2 : Bool), v48 = .bool x48_2 ∧ Aside0 (terms_Check.j0 kq x48_2 a0_0 a0_1 a0_2 a0_3 a0_4 a0_5 a0_6 a0_7 a0_8 t118 t119 t120 = some r) ∧ Aside0 (kq ≤ k) ∧ Aside0 (wc.heap[gb117]? = some (.cells #[.int .i64 a0_0, .int .i64 a0_1, .int .i64 a0_2, .int .i64 a0_3, .int .i64 a0_4, .int .i64 a0_5, .int .i64 a0_6, .int .i64 a0_7, .int .i64 a0_8] 23 (0, 0))) ∧ Aside0 (wc.heap[gb122]? = some (.cells #[.int .i64 t118, .int .i64 t119, .int .i64 t120] 53 (0, 0))) ∧ Aside0 (Below w.heap.size w wc))
 case first =>
  have H := HC3.out
  clear HC3
  by_cases c10 : t121 = true
  ·subst c10
   have H1 : ((terms_money_s.f a0_0 a0_1 a0_2 a0_3 a0_4 a0_5 a0_6 a0_7 a0_8).bind fun t123 => (if t123 = true then (if a0_2 < 1 then (terms_Check.j0 k true a0_0 a0_1 a0_2 a0_3 a0_4 a0_5 a0_6 a0_7 a0_8 t118 t119 t120) else (if a0_2 > 480 then (terms_Check.j0 k true a0_0 a0_1 a0_2 a0_3 a0_4 a0_5 a0_6 a0_7 a0_8 t118 t119 t120) else (if a0_5 < 1 then (terms_Check.j0 k true a0_0 a0_1 a0_2 a0_3 a0_4 a0_5 a0_6 a0_7 a0_8 t118 t119 t120) else (if a0_5 > 64 then (terms_Check.j0 k true a0_0 a0_1 a0_2 a0_3 a0_4 a0_5 a0_6 a0_7 a0_8 t118 t119 t120) else (if a0_6 < 1 then (terms_Check.j0 k true a0_0 a0_1 a0_2 a0_3 a0_4 a0_5 a0_6 a0_7 a0_8 t118 t119 t120) else (terms_Check.j0 k (decide (a0_6 > 3)) a0_0 a0_1 a0_2 a0_3 a0_4 a0_5 a0_6 a0_7 a0_8 t118 t119 t120)))))) else (terms_Check.j0 k true a0_0 a0_1 a0_2 a0_3 a0_4 a0_5 a0_6 a0_7 a0_8 t118 t119 t120))) = some r := by rw [if_pos rfl] at H; exact H
   clear H
   have H := H1
   clear H1
   replace H := Option.bind_eq_some_iff.mp H
   obtain ⟨t123, A110, H⟩ := H
   replace H : (if t123 = true then (if a0_2 < 1 then (terms_Check.j0 k true a0_0 a0_1 a0_2 a0_3 a0_4 a0_5 a0_6 a0_7 a0_8 t118 t119 t120) else (if a0_2 > 480 then (terms_Check.j0 k true a0_0 a0_1 a0_2 a0_3 a0_4 a0_5 a0_6 a0_7 a0_8 t118 t119 t120) else (if a0_5 < 1 then (terms_Check.j0 k true a0_0 a0_1 a0_2 a0_3 a0_4 a0_5 a0_6 a0_7 a0_8 t118 t119 t120) else (if a0_5 > 64 then (terms_Check.j0 k true a0_0 a0_1 a0_2 a0_3 a0_4 a0_5 a0_6 a0_7 a0_8 t118 t119 t120) else (if a0_6 < 1 then (terms_Check.j0 k true a0_0 a0_1 a0_2 a0_3 a0_4 a0_5 a0_6 a0_7 a0_8 t118 t119 t120) else (terms_Check.j0 k (decide (a0_6 > 3)) a0_0 a0_1 a0_2 a0_3 a0_4 a0_5 a0_6 a0_7 a0_8 t118 t119 t120)))))) else (terms_Check.j0 k true a0_0 a0_1 a0_2 a0_3 a0_4 a0_5 a0_6 a0_7 a0_8 t118 t119 t120)) = some r := H
   have A11 := ka A110
   clear A110
   by_cases c12 : t123 = true
   ·subst c12
    have H1 : (if a0_2 < 1 then (terms_Check.j0 k true a0_0 a0_1 a0_2 a0_3 a0_4 a0_5 a0_6 a0_7 a0_8 t118 t119 t120) else (if a0_2 > 480 then (terms_Check.j0 k true a0_0 a0_1 a0_2 a0_3 a0_4 a0_5 a0_6 a0_7 a0_8 t118 t119 t120) else (if a0_5 < 1 then (terms_Check.j0 k true a0_0 a0_1 a0_2 a0_3 a0_4 a0_5 a0_6 a0_7 a0_8 t118 t119 t120) else (if a0_5 > 64 then (terms_Check.j0 k true a0_0 a0_1 a0_2 a0_3 a0_4 a0_5 a0_6 a0_7 a0_8 t118 t119 t120) else (if a0_6 < 1 then (terms_Check.j0 k true a0_0 a0_1 a0_2 a0_3 a0_4 a0_5 a0_6 a0_7 a0_8 t118 t119 t120) else (terms_Check.j0 k (decide (a0_6 > 3)) a0_0 a0_1 a0_2 a0_3 a0_4 a0_5 a0_6 a0_7 a0_8 t118 t119 t120)))))) = some r := by rw [if_pos rfl] at H; exact H
    clear H
    have H := H1
    clear H1
    by_cases c13 : a0_2 < 1
    ·rw [if_pos c13] at H
     have c13b0 : decide (a0_2 < 1) = true := decide_eq_true c13
     clear c13
     (first | rw [c13b0] | (simp only [i64_w, i32_w]; rw [c13b0]) | skip)
     have H' := ka H
     clear H
     have hnb14 := NB117_122.out
     have hnc14 := NB122_117.out
     have hcz15 := blkAll9 BK117.out
     go_wp2_with (first | (go_at_call 49; (with_reducible refine (terms_money_s.calls a0_0 a0_1 a0_2 a0_3 a0_4 a0_5 a0_6 a0_7 a0_8 true _ A11.out).mono ?_); rintro e w16 ⟨rfl, hb⟩; have n0_ := ka (blk_below (g := gb117) (o := .cells #[.int .i64 a0_0, .int .i64 a0_1, .int .i64 a0_2, .int .i64 a0_3, .int .i64 a0_4, .int .i64 a0_5, .int .i64 a0_6, .int .i64 a0_7, .int .i64 a0_8] 23 (0, 0)) (by (with_reducible repeat (first | apply kb1 | apply kb2 | apply kb3 | refine kb4 ?_ NB117_122.out _)); exact BK117.out) hb); have n1_ := ka (blk_below (g := gb122) (o := .cells #[.int .i64 t118, .int .i64 t119, .int .i64 t120] 53 (0, 0)) (by (with_reducible repeat (first | apply kb1 | apply kb2 | apply kb3 | apply blkPut3_2 | apply blkPut3_1 | apply blkPut3_0)); exact BK122.out) hb); have n2_ := ka (below_step (kw HB.out) hb); clear BK117; clear BK122; clear HB; have BK117 := n0_; have BK122 := n1_; have HB := n2_; clear n0_ n1_ n2_; (try clear hb); (try clear hb2); (try clear hk); (try clear hi); have hcz17 := blkAll9 BK117.out) | ((with_reducible refine gate_load (T := 23) rfl ?_); first | refine load_event (g := gb117) rfl rfl rfl Try.underlying23 rfl (by (with_reducible repeat (first | apply kb1 | apply kb2 | apply kb3)); with_reducible exact BK117.out) (by kernel_rfl) ?_))
     go_meet
     case rel => exact ⟨_, (true), (by first | rfl | (simp; done) | (simp [*]; done)), H', ⟨by first | omega | exact Nat.le_refl _⟩, ⟨by (with_reducible repeat (first | apply kb1 | apply kb2 | apply kb3)); exact BK117.out⟩, ⟨by (with_reducible repeat (first | apply kb1 | apply kb2 | apply kb3)); exact BK122.out⟩, ⟨by repeat (first | (with_reducible first | exact HB.out | apply kc1 | apply kc2 | apply kc3 | refine kc4 ?_ GE117.out | refine kc4 ?_ GE122.out) | exact HB.out)⟩⟩
    ·rw [if_neg c13] at H
     have c13b0 : decide (a0_2 < 1) = false := decide_eq_false c13
     clear c13
     (first | rw [c13b0] | (simp only [i64_w, i32_w]; rw [c13b0]) | skip)
     by_cases c18 : a0_2 > 480
     ·rw [if_pos c18] at H
      have c18b0 : decide (480 < a0_2) = true := decide_eq_true c18
      clear c18
      have H' := ka H
      clear H
      have hnb19 := NB117_122.out
      have hnc19 := NB122_117.out
      have hcz20 := blkAll9 BK117.out
      go_wp2_with (first | (go_at_call 49; (with_reducible refine (terms_money_s.calls a0_0 a0_1 a0_2 a0_3 a0_4 a0_5 a0_6 a0_7 a0_8 true _ A11.out).mono ?_); rintro e w21 ⟨rfl, hb⟩; have n0_ := ka (blk_below (g := gb117) (o := .cells #[.int .i64 a0_0, .int .i64 a0_1, .int .i64 a0_2, .int .i64 a0_3, .int .i64 a0_4, .int .i64 a0_5, .int .i64 a0_6, .int .i64 a0_7, .int .i64 a0_8] 23 (0, 0)) (by (with_reducible repeat (first | apply kb1 | apply kb2 | apply kb3 | refine kb4 ?_ NB117_122.out _)); exact BK117.out) hb); have n1_ := ka (blk_below (g := gb122) (o := .cells #[.int .i64 t118, .int .i64 t119, .int .i64 t120] 53 (0, 0)) (by (with_reducible repeat (first | apply kb1 | apply kb2 | apply kb3 | apply blkPut3_2 | apply blkPut3_1 | apply blkPut3_0)); exact BK122.out) hb); have n2_ := ka (below_step (kw HB.out) hb); clear BK117; clear BK122; clear HB; have BK117 := n0_; have BK122 := n1_; have HB := n2_; clear n0_ n1_ n2_; (try clear hb); (try clear hb2); (try clear hk); (try clear hi); have hcz22 := blkAll9 BK117.out) | ((with_reducible refine gate_load (T := 23) rfl ?_); first | refine load_event (g := gb117) rfl rfl rfl Try.underlying23 rfl (by (with_reducible repeat (first | apply kb1 | apply kb2 | apply kb3)); with_reducible exact BK117.out) (by kernel_rfl) ?_))
      go_meet
      case rel => exact ⟨_, (true), (by first | rfl | (simp; done) | (simp [*]; done)), H', ⟨by first | omega | exact Nat.le_refl _⟩, ⟨by (with_reducible repeat (first | apply kb1 | apply kb2 | apply kb3)); exact BK117.out⟩, ⟨by (with_reducible repeat (first | apply kb1 | apply kb2 | apply kb3)); exact BK122.out⟩, ⟨by repeat (first | (with_reducible first | exact HB.out | apply kc1 | apply kc2 | apply kc3 | refine kc4 ?_ GE117.out | refine kc4 ?_ GE122.out) | exact HB.out)⟩⟩
     ·rw [if_neg c18] at H
      have c18b0 : decide (480 < a0_2) = false := decide_eq_false c18
      clear c18
      by_cases c23 : a0_5 < 1
      ·rw [if_pos c23] at H
       have c23b0 : decide (a0_5 < 1) = true := decide_eq_true c23
       clear c23
       have H' := ka H
       clear H
       have hnb24 := NB117_122.out
       have hnc24 := NB122_117.out
       have hcz25 := blkAll9 BK117.out
       go_wp2_with (first | (go_at_call 49; (with_reducible refine (terms_money_s.calls a0_0 a0_1 a0_2 a0_3 a0_4 a0_5 a0_6 a0_7 a0_8 true _ A11.out).mono ?_); rintro e w26 ⟨rfl, hb⟩; have n0_ := ka (blk_below (g := gb117) (o := .cells #[.int .i64 a0_0, .int .i64 a0_1, .int .i64 a0_2, .int .i64 a0_3, .int .i64 a0_4, .int .i64 a0_5, .int .i64 a0_6, .int .i64 a0_7, .int .i64 a0_8] 23 (0, 0)) (by (with_reducible repeat (first | apply kb1 | apply kb2 | apply kb3 | refine kb4 ?_ NB117_122.out _)); exact BK117.out) hb); have n1_ := ka (blk_below (g := gb122) (o := .cells #[.int .i64 t118, .int .i64 t119, .int .i64 t120] 53 (0, 0)) (by (with_reducible repeat (first | apply kb1 | apply kb2 | apply kb3 | apply blkPut3_2 | apply blkPut3_1 | apply blkPut3_0)); exact BK122.out) hb); have n2_ := ka (below_step (kw HB.out) hb); clear BK117; clear BK122; clear HB; have BK117 := n0_; have BK122 := n1_; have HB := n2_; clear n0_ n1_ n2_; (try clear hb); (try clear hb2); (try clear hk); (try clear hi); have hcz27 := blkAll9 BK117.out) | ((with_reducible refine gate_load (T := 23) rfl ?_); first | refine load_event (g := gb117) rfl rfl rfl Try.underlying23 rfl (by (with_reducible repeat (first | apply kb1 | apply kb2 | apply kb3)); with_reducible exact BK117.out) (by kernel_rfl) ?_))
       go_meet
       case rel => exact ⟨_, (true), (by first | rfl | (simp; done) | (simp [*]; done)), H', ⟨by first | omega | exact Nat.le_refl _⟩, ⟨by (with_reducible repeat (first | apply kb1 | apply kb2 | apply kb3)); exact BK117.out⟩, ⟨by (with_reducible repeat (first | apply kb1 | apply kb2 | apply kb3)); exact BK122.out⟩, ⟨by repeat (first | (with_reducible first | exact HB.out | apply kc1 | apply kc2 | apply kc3 | refine kc4 ?_ GE117.out | refine kc4 ?_ GE122.out) | exact HB.out)⟩⟩
      ·rw [if_neg c23] at H
       have c23b0 : decide (a0_5 < 1) = false := decide_eq_false c23
       clear c23
       by_cases c28 : a0_5 > 64
       ·rw [if_pos c28] at H
        have c28b0 : decide (64 < a0_5) = true := decide_eq_true c28
        clear c28
        have H' := ka H
        clear H
        have hnb29 := NB117_122.out
        have hnc29 := NB122_117.out
        have hcz30 := blkAll9 BK117.out
        go_wp2_with (first | (go_at_call 49; (with_reducible refine (terms_money_s.calls a0_0 a0_1 a0_2 a0_3 a0_4 a0_5 a0_6 a0_7 a0_8 true _ A11.out).mono ?_); rintro e w31 ⟨rfl, hb⟩; have n0_ := ka (blk_below (g := gb117) (o := .cells #[.int .i64 a0_0, .int .i64 a0_1, .int .i64 a0_2, .int .i64 a0_3, .int .i64 a0_4, .int .i64 a0_5, .int .i64 a0_6, .int .i64 a0_7, .int .i64 a0_8] 23 (0, 0)) (by (with_reducible repeat (first | apply kb1 | apply kb2 | apply kb3 | refine kb4 ?_ NB117_122.out _)); exact BK117.out) hb); have n1_ := ka (blk_below (g := gb122) (o := .cells #[.int .i64 t118, .int .i64 t119, .int .i64 t120] 53 (0, 0)) (by (with_reducible repeat (first | apply kb1 | apply kb2 | apply kb3 | apply blkPut3_2 | apply blkPut3_1 | apply blkPut3_0)); exact BK122.out) hb); have n2_ := ka (below_step (kw HB.out) hb); clear BK117; clear BK122; clear HB; have BK117 := n0_; have BK122 := n1_; have HB := n2_; clear n0_ n1_ n2_; (try clear hb); (try clear hb2); (try clear hk); (try clear hi); have hcz32 := blkAll9 BK117.out) | ((with_reducible refine gate_load (T := 23) rfl ?_); first | refine load_event (g := gb117) rfl rfl rfl Try.underlying23 rfl (by (with_reducible repeat (first | apply kb1 | apply kb2 | apply kb3)); with_reducible exact BK117.out) (by kernel_rfl) ?_))
        go_meet
        case rel => exact ⟨_, (true), (by first | rfl | (simp; done) | (simp [*]; done)), H', ⟨by first | omega | exact Nat.le_refl _⟩, ⟨by (with_reducible repeat (first | apply kb1 | apply kb2 | apply kb3)); exact BK117.out⟩, ⟨by (with_reducible repeat (first | apply kb1 | apply kb2 | apply kb3)); exact BK122.out⟩, ⟨by repeat (first | (with_reducible first | exact HB.out | apply kc1 | apply kc2 | apply kc3 | refine kc4 ?_ GE117.out | refine kc4 ?_ GE122.out) | exact HB.out)⟩⟩
       ·rw [if_neg c28] at H
        have c28b0 : decide (64 < a0_5) = false := decide_eq_false c28
        clear c28
        by_cases c33 : a0_6 < 1
        ·rw [if_pos c33] at H
         have c33b0 : decide (a0_6 < 1) = true := decide_eq_true c33
         clear c33
         have H' := ka H
         clear H
         have hnb34 := NB117_122.out
         have hnc34 := NB122_117.out
         have hcz35 := blkAll9 BK117.out
         go_wp2_with (first | (go_at_call 49; (with_reducible refine (terms_money_s.calls a0_0 a0_1 a0_2 a0_3 a0_4 a0_5 a0_6 a0_7 a0_8 true _ A11.out).mono ?_); rintro e w36 ⟨rfl, hb⟩; have n0_ := ka (blk_below (g := gb117) (o := .cells #[.int .i64 a0_0, .int .i64 a0_1, .int .i64 a0_2, .int .i64 a0_3, .int .i64 a0_4, .int .i64 a0_5, .int .i64 a0_6, .int .i64 a0_7, .int .i64 a0_8] 23 (0, 0)) (by (with_reducible repeat (first | apply kb1 | apply kb2 | apply kb3 | refine kb4 ?_ NB117_122.out _)); exact BK117.out) hb); have n1_ := ka (blk_below (g := gb122) (o := .cells #[.int .i64 t118, .int .i64 t119, .int .i64 t120] 53 (0, 0)) (by (with_reducible repeat (first | apply kb1 | apply kb2 | apply kb3 | apply blkPut3_2 | apply blkPut3_1 | apply blkPut3_0)); exact BK122.out) hb); have n2_ := ka (below_step (kw HB.out) hb); clear BK117; clear BK122; clear HB; have BK117 := n0_; have BK122 := n1_; have HB := n2_; clear n0_ n1_ n2_; (try clear hb); (try clear hb2); (try clear hk); (try clear hi); have hcz37 := blkAll9 BK117.out) | ((with_reducible refine gate_load (T := 23) rfl ?_); first | refine load_event (g := gb117) rfl rfl rfl Try.underlying23 rfl (by (with_reducible repeat (first | apply kb1 | apply kb2 | apply kb3)); with_reducible exact BK117.out) (by kernel_rfl) ?_))
         go_meet
         case rel => exact ⟨_, (true), (by first | rfl | (simp; done) | (simp [*]; done)), H', ⟨by first | omega | exact Nat.le_refl _⟩, ⟨by (with_reducible repeat (first | apply kb1 | apply kb2 | apply kb3)); exact BK117.out⟩, ⟨by (with_reducible repeat (first | apply kb1 | apply kb2 | apply kb3)); exact BK122.out⟩, ⟨by repeat (first | (with_reducible first | exact HB.out | apply kc1 | apply kc2 | apply kc3 | refine kc4 ?_ GE117.out | refine kc4 ?_ GE122.out) | exact HB.out)⟩⟩
        ·rw [if_neg c33] at H
         have c33b0 : decide (a0_6 < 1) = false := decide_eq_false c33
         clear c33
         have H' := ka H
         clear H
         have hnb38 := NB117_122.out
         have hnc38 := NB122_117.out
         have hcz39 := blkAll9 BK117.out
         go_wp2_with (first | (go_at_call 49; (with_reducible refine (terms_money_s.calls a0_0 a0_1 a0_2 a0_3 a0_4 a0_5 a0_6 a0_7 a0_8 true _ A11.out).mono ?_); rintro e w40 ⟨rfl, hb⟩; have n0_ := ka (blk_below (g := gb117) (o := .cells #[.int .i64 a0_0, .int .i64 a0_1, .int .i64 a0_2, .int .i64 a0_3, .int .i64 a0_4, .int .i64 a0_5, .int .i64 a0_6, .int .i64 a0_7, .int .i64 a0_8] 23 (0, 0)) (by (with_reducible repeat (first | apply kb1 | apply kb2 | apply kb3 | refine kb4 ?_ NB117_122.out _)); exact BK117.out) hb); have n1_ := ka (blk_below (g := gb122) (o := .cells #[.int .i64 t118, .int .i64 t119, .int .i64 t120] 53 (0, 0)) (by (with_reducible repeat (first | apply kb1 | apply kb2 | apply kb3 | apply blkPut3_2 | apply blkPut3_1 | apply blkPut3_0)); exact BK122.out) hb); have n2_ := ka (below_step (kw HB.out) hb); clear BK117; clear BK122; clear HB; have BK117 := n0_; have BK122 := n1_; have HB := n2_; clear n0_ n1_ n2_; (try clear hb); (try clear hb2); (try clear hk); (try clear hi); have hcz41 := blkAll9 BK117.out) | ((with_reducible refine gate_load (T := 23) rfl ?_); first | refine load_event (g := gb117) rfl rfl rfl Try.underlying23 rfl (by (with_reducible repeat (first | apply kb1 | apply kb2 | apply kb3)); with_reducible exact BK117.out) (by kernel_rfl) ?_))
         go_meet
         case rel => exact ⟨_, (decide (a0_6 > 3)), (by first | rfl | (simp; done) | (simp [*]; done)), H', ⟨by first | omega | exact Nat.le_refl _⟩, ⟨by (with_reducible repeat (first | apply kb1 | apply kb2 | apply kb3)); exact BK117.out⟩, ⟨by (with_reducible repeat (first | apply kb1 | apply kb2 | apply kb3)); exact BK122.out⟩, ⟨by repeat (first | (with_reducible first | exact HB.out | apply kc1 | apply kc2 | apply kc3 | refine kc4 ?_ GE117.out | refine kc4 ?_ GE122.out) | exact HB.out)⟩⟩
   ·replace c12 := Bool.eq_false_iff.mpr c12
    subst c12
    have H1 : (terms_Check.j0 k true a0_0 a0_1 a0_2 a0_3 a0_4 a0_5 a0_6 a0_7 a0_8 t118 t119 t120) = some r := by rw [if_neg (show ¬ (false = true) by decide)] at H; exact H
    clear H
    have H := H1
    clear H1
    have H' := ka H
    clear H
    have hnb42 := NB117_122.out
    have hnc42 := NB122_117.out
    have hcz43 := blkAll9 BK117.out
    go_wp2_with (first | (go_at_call 49; (with_reducible refine (terms_money_s.calls a0_0 a0_1 a0_2 a0_3 a0_4 a0_5 a0_6 a0_7 a0_8 false _ A11.out).mono ?_); rintro e w44 ⟨rfl, hb⟩; have n0_ := ka (blk_below (g := gb117) (o := .cells #[.int .i64 a0_0, .int .i64 a0_1, .int .i64 a0_2, .int .i64 a0_3, .int .i64 a0_4, .int .i64 a0_5, .int .i64 a0_6, .int .i64 a0_7, .int .i64 a0_8] 23 (0, 0)) (by (with_reducible repeat (first | apply kb1 | apply kb2 | apply kb3 | refine kb4 ?_ NB117_122.out _)); exact BK117.out) hb); have n1_ := ka (blk_below (g := gb122) (o := .cells #[.int .i64 t118, .int .i64 t119, .int .i64 t120] 53 (0, 0)) (by (with_reducible repeat (first | apply kb1 | apply kb2 | apply kb3 | apply blkPut3_2 | apply blkPut3_1 | apply blkPut3_0)); exact BK122.out) hb); have n2_ := ka (below_step (kw HB.out) hb); clear BK117; clear BK122; clear HB; have BK117 := n0_; have BK122 := n1_; have HB := n2_; clear n0_ n1_ n2_; (try clear hb); (try clear hb2); (try clear hk); (try clear hi)) | ((with_reducible refine gate_load (T := 23) rfl ?_); first | refine load_event (g := gb117) rfl rfl rfl Try.underlying23 rfl (by (with_reducible repeat (first | apply kb1 | apply kb2 | apply kb3)); with_reducible exact BK117.out) (by kernel_rfl) ?_))
    go_meet
    case rel => exact ⟨_, (true), (by first | rfl | (simp; done) | (simp [*]; done)), H', ⟨by first | omega | exact Nat.le_refl _⟩, ⟨by (with_reducible repeat (first | apply kb1 | apply kb2 | apply kb3)); exact BK117.out⟩, ⟨by (with_reducible repeat (first | apply kb1 | apply kb2 | apply kb3)); exact BK122.out⟩, ⟨by repeat (first | (with_reducible first | exact HB.out | apply kc1 | apply kc2 | apply kc3 | refine kc4 ?_ GE117.out | refine kc4 ?_ GE122.out) | exact HB.out)⟩⟩
  ·replace c10 := Bool.eq_false_iff.mpr c10
   subst c10
   have H1 : (terms_Check.j0 k true a0_0 a0_1 a0_2 a0_3 a0_4 a0_5 a0_6 a0_7 a0_8 t118 t119 t120) = some r := by rw [if_neg (show ¬ (false = true) by decide)] at H; exact H
   clear H
   have H := H1
   clear H1
   have H' := ka H
   clear H
   go_wp2
   go_meet
   case rel => exact ⟨_, (true), (by first | rfl | (simp; done) | (simp [*]; done)), H', ⟨by first | omega | exact Nat.le_refl _⟩, ⟨by (with_reducible repeat (first | apply kb1 | apply kb2 | apply kb3 | refine kb4 ?_ NB117_122.out _)); exact BK117.out⟩, ⟨by (with_reducible repeat (first | apply kb1 | apply kb2 | apply kb3 | apply blkPut3_2 | apply blkPut3_1 | apply blkPut3_0)); exact BK122.out⟩, ⟨by repeat (first | (with_reducible first | exact HB.out | apply kc1 | apply kc2 | apply kc3 | refine kc4 ?_ GE117.out | refine kc4 ?_ GE122.out) | exact HB.out)⟩⟩
 case rest =>
  clear HC3
  try clear c1
  try clear c2
  try clear p2
  try clear c3
  try clear c4
  try clear c8
  try clear c10
  try clear c12
  try clear c13
  try clear c13b0
  try clear c14
  try clear c18
  try clear c18b0
  try clear c19
  try clear c23
  try clear c23b0
  try clear c24
  try clear c28
  try clear c28b0
  try clear c29
  try clear c33
  try clear c33b0
  try clear c34
  try clear c38
  try clear c41
  try clear c42
  try clear hcz15
  try clear hcz17
  try clear hcz20
  try clear hcz22
  try clear hcz25
  try clear hcz27
  try clear hcz30
  try clear hcz32
  try clear hcz35
  try clear hcz37
  try clear hcz39
  try clear hcz41
  try clear hcz43
  try clear hcz5
  try clear hcz9
  obtain ⟨kq, x48_2, rfl, HA, HJ2, BK117, BK122, HB⟩ := hcut
  cases kq with
  | zero => exact absurd HA.out (by simp [terms_Check.j0])
  | succ kj2 =>
   have H := HA.out
   clear HA
   simp only [terms_Check.j0] at H
   by_cases c45 : x48_2 = true
   ·subst c45
    have H1 : (some (some 1)) = some r := by rw [if_pos rfl] at H; exact H
    clear H
    have H := H1
    clear H1
    obtain rfl := Option.some.inj H
    go_wp2
    go_ret
    exact ⟨by first | rfl | (simp [errW_none, errW_some] <;> rfl) | (simp [*, errW_none, errW_some] <;> rfl), by repeat (first | (with_reducible first | exact HB.out | apply kc1 | apply kc2 | apply kc3 | refine kc4 ?_ GE117.out | refine kc4 ?_ GE122.out) | exact HB.out)⟩
   ·replace c45 := Bool.eq_false_iff.mpr c45
    subst c45
    have H1 : ((date_Months_s.f t118 t119 t120 a0_2).bind fun bt124 => (if bt124.2.2.2.isNone = true then (some none) else (some (some 1)))) = some r := by rw [if_neg (show ¬ (false = true) by decide)] at H; exact H
    clear H
    have H := H1
    clear H1
    replace H := Option.bind_eq_some_iff.mp H
    obtain ⟨⟨t124, t125, t126, t127⟩, A460, H⟩ := H
    replace H : (if t127.isNone = true then (some none) else (some (some 1))) = some r := H
    have A46 := ka A460
    clear A460
    rcases t127 with _ | q129
    ·have H1 : (some none) = some r := by rw [if_pos (show (none : Option Int).isNone = true by rfl)] at H; exact H
     clear H
     have H := H1
     clear H1
     try simp only [errW_none, errW_some]
     obtain rfl := Option.some.inj H
     have hnb47 := NB122_117.out
     have hnc47 := NB117_122.out
     have hcz48 := blkAll3 BK122.out
     have hcz49 := blkAll9 BK117.out
     go_wp2_with (first | ((with_reducible refine gate_callee (f := 44) rfl ?_); refine kg (some 54) rfl rfl Try.func44 (by kernel_rfl) rfl #[.agg #[.int .i64 t118, .int .i64 t119, .int .i64 t120], .int .i64 a0_2] rfl ?_; (with_reducible refine (date_Months_s.calls t118 t119 t120 a0_2 t124 t125 t126 none _ A46.out).mono ?_); rintro e w50 ⟨rfl, hb⟩; refine ⟨_, rfl, ?_⟩; have n0_ := ka (blk_below (g := gb117) (kz BK117.out) hb); have n1_ := ka (blk_below (g := gb122) (kz BK122.out) hb); have n2_ := ka (below_step (kw HB.out) hb); clear BK117; clear BK122; clear HB; have BK117 := n0_; have BK122 := n1_; have HB := n2_; clear n0_ n1_ n2_; (try clear hb); (try clear hb2); (try clear hk); (try clear hi); (try simp only [errW_none, errW_some])) | ((with_reducible refine gate_dst (N := 5) rfl ?_); refine kx (N := 5) (cs := #[.int .i64 0, .int .i64 0, .int .i64 0]) (t := 53) ?_; intro gb128 hg w51 hbox hb; have n0_ := ka (blk_below (g := gb117) (kz BK117.out) hb); have n1_ := ka (blk_below (g := gb122) (kz BK122.out) hb); have n2_ := ka (below_step (kw HB.out) hb); have n3_ := ka (hbox); have n4_ := ka ((by rw [hg]; exact (below_size (kw HB.out)) : w.heap.size ≤ gb128)); have n5_ := n4_; have n6_ := ka ((by rw [hg]; exact Nat.ne_of_lt (blk_lt (g := gb117) (kz BK117.out)) : gb117 ≠ gb128)); have n7_ := ka n6_.out.symm; have n8_ := ka ((by rw [hg]; exact Nat.ne_of_lt (blk_lt (g := gb122) (kz BK122.out)) : gb122 ≠ gb128)); have n9_ := ka n8_.out.symm; clear BK117; clear BK122; clear HB; have BK117 := n0_; have BK122 := n1_; have HB := n2_; have BK128 := n3_; have GW128 := n4_; have GE128 := n5_; have NB117_128 := n6_; have NB128_117 := n7_; have NB122_128 := n8_; have NB128_122 := n9_; clear n0_ n1_ n2_ n3_ n4_ n5_ n6_ n7_ n8_ n9_; clear hb hbox hg; have hnb52 := NB128_117.out; have hnc52 := NB117_128.out; have hnb53 := NB128_122.out; have hnc53 := NB122_128.out; have hcz54 := blkAll3 BK128.out) | ((with_reducible refine gate_load (T := 23) rfl ?_); first | refine load_event (g := gb117) rfl rfl rfl Try.underlying23 rfl (by (with_reducible repeat (first | apply kb1 | apply kb2 | apply kb3)); with_reducible exact BK117.out) (by kernel_rfl) ?_))
     go_ret
     exact ⟨by first | rfl | (simp [errW_none, errW_some] <;> rfl) | (simp [*, errW_none, errW_some] <;> rfl), by repeat (first | (with_reducible first | exact HB.out | apply kc1 | apply kc2 | apply kc3 | refine kc4 ?_ GE117.out | refine kc4 ?_ GE122.out | refine kc4 ?_ GE128.out) | exact HB.out)⟩
    ·have H1 : (some (some 1)) = some r := by rw [if_neg (show ¬ (some q129).isNone = true by simp)] at H; exact H
     clear H
     have H := H1
     clear H1
     try simp only [errW_none, errW_some]
     obtain rfl := Option.some.inj H
     have hnb55 := NB122_117.out
     have hnc55 := NB117_122.out
     have hcz56 := blkAll3 BK122.out
     have hcz57 := blkAll9 BK117.out
     go_wp2_with (first | ((with_reducible refine gate_callee (f := 44) rfl ?_); refine kg (some 54) rfl rfl Try.func44 (by kernel_rfl) rfl #[.agg #[.int .i64 t118, .int .i64 t119, .int .i64 t120], .int .i64 a0_2] rfl ?_; (with_reducible refine (date_Months_s.calls t118 t119 t120 a0_2 t124 t125 t126 (some q129) _ A46.out).mono ?_); rintro e w58 ⟨rfl, hb⟩; refine ⟨_, rfl, ?_⟩; have n0_ := ka (blk_below (g := gb117) (kz BK117.out) hb); have n1_ := ka (blk_below (g := gb122) (kz BK122.out) hb); have n2_ := ka (below_step (kw HB.out) hb); clear BK117; clear BK122; clear HB; have BK117 := n0_; have BK122 := n1_; have HB := n2_; clear n0_ n1_ n2_; (try clear hb); (try clear hb2); (try clear hk); (try clear hi); (try simp only [errW_none, errW_some])) | ((with_reducible refine gate_dst (N := 5) rfl ?_); refine kx (N := 5) (cs := #[.int .i64 0, .int .i64 0, .int .i64 0]) (t := 53) ?_; intro gb128 hg w59 hbox hb; have n0_ := ka (blk_below (g := gb117) (kz BK117.out) hb); have n1_ := ka (blk_below (g := gb122) (kz BK122.out) hb); have n2_ := ka (below_step (kw HB.out) hb); have n3_ := ka (hbox); have n4_ := ka ((by rw [hg]; exact (below_size (kw HB.out)) : w.heap.size ≤ gb128)); have n5_ := n4_; have n6_ := ka ((by rw [hg]; exact Nat.ne_of_lt (blk_lt (g := gb117) (kz BK117.out)) : gb117 ≠ gb128)); have n7_ := ka n6_.out.symm; have n8_ := ka ((by rw [hg]; exact Nat.ne_of_lt (blk_lt (g := gb122) (kz BK122.out)) : gb122 ≠ gb128)); have n9_ := ka n8_.out.symm; clear BK117; clear BK122; clear HB; have BK117 := n0_; have BK122 := n1_; have HB := n2_; have BK128 := n3_; have GW128 := n4_; have GE128 := n5_; have NB117_128 := n6_; have NB128_117 := n7_; have NB122_128 := n8_; have NB128_122 := n9_; clear n0_ n1_ n2_ n3_ n4_ n5_ n6_ n7_ n8_ n9_; clear hb hbox hg; have hnb60 := NB128_117.out; have hnc60 := NB117_128.out; have hnb61 := NB128_122.out; have hnc61 := NB122_128.out; have hcz62 := blkAll3 BK128.out) | ((with_reducible refine gate_load (T := 23) rfl ?_); first | refine load_event (g := gb117) rfl rfl rfl Try.underlying23 rfl (by (with_reducible repeat (first | apply kb1 | apply kb2 | apply kb3)); with_reducible exact BK117.out) (by kernel_rfl) ?_))
     go_ret
     exact ⟨by first | rfl | (simp [errW_none, errW_some] <;> rfl) | (simp [*, errW_none, errW_some] <;> rfl), by repeat (first | (with_reducible first | exact HB.out | apply kc1 | apply kc2 | apply kc3 | refine kc4 ?_ GE117.out | refine kc4 ?_ GE122.out | refine kc4 ?_ GE128.out) | exact HB.out)⟩

/-! ### terms_Check_s: function 41, told plainly -/
theorem terms_Check.tells (b r m f e i w fe g : Int) (h : M.In r ∧ M.In f ∧ M.In fe) (k : Nat) (hk : 1 ≤ k) : terms_Check.f k b r m f e i w fe g = some (if M.termsOk b r m f e i w fe g then none else some 1) := by
 obtain ⟨k, rfl⟩ : ∃ m, k = m + 1 := ⟨k - 1, by omega⟩
 have out : ¬ M.termsOk b r m f e i w fe g → ∀ x y z, terms_Check.j0 (k + 1) true b r m f e i w fe g x y z = some (if M.termsOk b r m f e i w fe g then none else some 1) := by
  intro hn x y z
  rw [if_neg hn]
  simp [terms_Check.j0]
 unfold terms_Check.f
 rw [terms_first_s.at_ h.2.1, Option.bind_some, terms_money_s.at_ ⟨h.1, h.2.2⟩, Option.bind_some]
 by_cases h1 : -25567 ≤ f ∧ f ≤ 84005
 ·simp only [if_pos h1]
  by_cases h2 : M.dy f = 1
  ·have hf : M.firstOk f := ⟨h1.1, h1.2, h2⟩
   simp only [decide_eq_true h2, if_true]
   by_cases h3 : M.moneyOk b r e fe g
   ·simp only [decide_eq_true h3, if_true]
    by_cases h4 : m < 1
    ·rw [if_pos h4]; exact out (fun hh => by have := hh.2.2; omega) _ _ _
    rw [if_neg h4]
    by_cases h5 : m > 480
    ·rw [if_pos h5]; exact out (fun hh => by have := hh.2.2; omega) _ _ _
    rw [if_neg h5]
    by_cases h6 : i < 1
    ·rw [if_pos h6]; exact out (fun hh => by have := hh.2.2; omega) _ _ _
    rw [if_neg h6]
    by_cases h7 : i > 64
    ·rw [if_pos h7]; exact out (fun hh => by have := hh.2.2; omega) _ _ _
    rw [if_neg h7]
    by_cases h8 : w < 1
    ·rw [if_pos h8]; exact out (fun hh => by have := hh.2.2; omega) _ _ _
    rw [if_neg h8]
    by_cases h9 : w > 3
    ·rw [decide_eq_true h9]; exact out (fun hh => by have := hh.2.2; omega) _ _ _
    rw [decide_eq_false h9]
    simp only [terms_Check.j0]
    rw [if_neg (by decide), h2]
    have fd := M.first_date hf
    by_cases hy : M.inYears (M.m0 f + m)
    ·have hok : M.termsOk b r m f e i w fe g := ⟨hf, h3, by omega, by omega, by omega, by omega, by omega, by omega, hy⟩
     rw [date_Months_s.yes fd.1 ⟨by omega, by omega, hy⟩, if_pos hok]
     rfl
    ·rw [date_Months_s.out fd.1 (fun hh => hy hh.2.2), if_neg (fun hh => hy hh.2.2.2.2.2.2.2.2)]
     rfl
   ·simp only [decide_eq_false h3, Bool.false_eq_true, if_false]
    exact out (fun hh => h3 hh.2.1) _ _ _
  ·simp only [decide_eq_false h2, Bool.false_eq_true, if_false]
   exact out (fun hh => h2 hh.1.2.2) _ _ _
 ·simp only [if_neg h1, Bool.false_eq_true, if_false]
  exact out (fun hh => h1 ⟨hh.1.1, hh.1.2.1⟩) _ _ _
def terms_Check_s.f (b r m f e i w fe g : Int) : Option (Option Int) := if M.In r ∧ M.In f ∧ M.In fe then some (if M.termsOk b r m f e i w fe g then none else some 1) else none
theorem terms_Check_s.calls (a0_0 : Int) (a0_1 : Int) (a0_2 : Int) (a0_3 : Int) (a0_4 : Int) (a0_5 : Int) (a0_6 : Int) (a0_7 : Int) (a0_8 : Int) (r : Option Int) (w : World) (h : terms_Check_s.f a0_0 a0_1 a0_2 a0_3 a0_4 a0_5 a0_6 a0_7 a0_8 = some r) :
  Calls Try.prog 41 #[.agg #[.int .i64 a0_0, .int .i64 a0_1, .int .i64 a0_2, .int .i64 a0_3, .int .i64 a0_4, .int .i64 a0_5, .int .i64 a0_6, .int .i64 a0_7, .int .i64 a0_8]] w fun e w' => e = .returned (errW r) ∧ Below w.heap.size w w' := by
 unfold terms_Check_s.f at h
 split at h
 ·rename_i hr
  exact terms_Check.calls (1) a0_0 a0_1 a0_2 a0_3 a0_4 a0_5 a0_6 a0_7 a0_8 r w ((terms_Check.tells a0_0 a0_1 a0_2 a0_3 a0_4 a0_5 a0_6 a0_7 a0_8 hr (1) (Nat.le_refl _)).trans h)
 ·cases h
theorem terms_Check_s.at_ {b r m f e i w fe g : Int} (h : M.In r ∧ M.In f ∧ M.In fe) : terms_Check_s.f b r m f e i w fe g = some (if M.termsOk b r m f e i w fe g then none else some 1) := by unfold terms_Check_s.f; rw [if_pos h]

end Go.Proofs.Ytimobafoidplaaa.P
