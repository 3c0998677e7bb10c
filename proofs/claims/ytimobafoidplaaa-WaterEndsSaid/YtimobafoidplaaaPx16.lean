-- Written by a program of this session out of the translation of the seat: Lean functions and the proofs that the Go functions come to them.
import Derived.Test.YtimobafoidplaaaPx0
import Derived.Test.YtimobafoidplaaaPx14
import Derived.Test.YtimobafoidplaaaPx15
namespace Go.Proofs.Ytimobafoidplaaa.P
open Go.RowKit Go.Proofs.YtimobafoidplaaaW.PrintWords Go.Proofs.YtimobafoidplaaaW.PrintLast Go.Proofs.YtimobafoidplaaaW.PrintMore
attribute [local go_sem] max2_int min2_int max_two min_two max_three min_three max_four min_four   -- for this text's walks alone
set_option linter.unusedVariables false
set_option linter.unusedSimpArgs false

/-! ### trivetref11_May: function 29 -/
mutual
def trivetref11_May.j0 : Nat → Bool → Int → Int → Int → Int → Int → Int → Int → Int → Int → Int → Int → Int → Option (Bool)
 | 0, _, _, _, _, _, _, _, _, _, _, _, _, _ => none
 | k + 1, x31, x336000, x336001, x336002, x336003, x336004, x336005, x336006, x336007, x336008, x341000, x341001, x341002 => if x31 = true then (some false) else ((trivetref04_Months_s.f x341000 x341001 x341002 x336002).bind fun bt341 => (if x336000 ≥ 1 then (if x336000 ≤ 10000000000000 then (if x336004 ≥ 0 then (trivetref11_May.j1 k bt341.2.2.2 (decide (x336004 ≤ 10000000000000)) x336000 x336001 x336002 x336003 x336004 x336005 x336006 x336007 x336008) else (trivetref11_May.j1 k bt341.2.2.2 false x336000 x336001 x336002 x336003 x336004 x336005 x336006 x336007 x336008)) else (trivetref11_May.j1 k bt341.2.2.2 false x336000 x336001 x336002 x336003 x336004 x336005 x336006 x336007 x336008)) else (trivetref11_May.j1 k bt341.2.2.2 false x336000 x336001 x336002 x336003 x336004 x336005 x336006 x336007 x336008)))
def trivetref11_May.j1 : Nat → Bool → Bool → Int → Int → Int → Int → Int → Int → Int → Int → Int → Option (Bool)
 | 0, _, _, _, _, _, _, _, _, _, _, _ => none
 | k + 1, x6, x7, x336000, x336001, x336002, x336003, x336004, x336005, x336006, x336007, x336008 => if x336001 ≥ 0 then (if x336001 ≤ 300000 then (if x336007 ≥ 0 then (if x336008 ≥ 0 then (if x336007 ≤ 300000 then (if x336008 ≤ 300000 then (trivetref11_May.j2 k x6 x7 (decide ((wrap64 (x336007 + x336008)) ≤ x336001)) x336000 x336001 x336002 x336003 x336004 x336005 x336006 x336007 x336008) else (trivetref11_May.j2 k x6 x7 false x336000 x336001 x336002 x336003 x336004 x336005 x336006 x336007 x336008)) else (trivetref11_May.j2 k x6 x7 false x336000 x336001 x336002 x336003 x336004 x336005 x336006 x336007 x336008)) else (trivetref11_May.j2 k x6 x7 false x336000 x336001 x336002 x336003 x336004 x336005 x336006 x336007 x336008)) else (trivetref11_May.j2 k x6 x7 false x336000 x336001 x336002 x336003 x336004 x336005 x336006 x336007 x336008)) else (trivetref11_May.j2 k x6 x7 false x336000 x336001 x336002 x336003 x336004 x336005 x336006 x336007 x336008)) else (trivetref11_May.j2 k x6 x7 false x336000 x336001 x336002 x336003 x336004 x336005 x336006 x336007 x336008)
def trivetref11_May.j2 : Nat → Bool → Bool → Bool → Int → Int → Int → Int → Int → Int → Int → Int → Int → Option (Bool)
 | 0, _, _, _, _, _, _, _, _, _, _, _, _ => none
 | k + 1, x6, x7, x8, x336000, x336001, x336002, x336003, x336004, x336005, x336006, x336007, x336008 => if x6 = true then (if x7 = true then (if x8 = true then (if x336005 ≥ 1 then (if x336005 ≤ 64 then (if x336006 ≥ 1 then (trivetref11_May.j3 k (decide (x336006 ≤ 3))) else (trivetref11_May.j3 k false)) else (trivetref11_May.j3 k false)) else (trivetref11_May.j3 k false)) else (trivetref11_May.j3 k false)) else (trivetref11_May.j3 k false)) else (trivetref11_May.j3 k false)
def trivetref11_May.j3 : Nat → Bool → Option (Bool)
 | 0, _ => none
 | k + 1, x2 => some x2
end
def trivetref11_May.f (k : Nat) (a0_0 : Int) (a0_1 : Int) (a0_2 : Int) (a0_3 : Int) (a0_4 : Int) (a0_5 : Int) (a0_6 : Int) (a0_7 : Int) (a0_8 : Int) : Option (Bool) := (trivetref04_Of_s.f a0_3).bind fun bt336 => (if bt336.2.2.2 = true then (if bt336.2.2.1 = 1 then (if a0_2 < 1 then (trivetref11_May.j0 k true a0_0 a0_1 a0_2 a0_3 a0_4 a0_5 a0_6 a0_7 a0_8 bt336.1 bt336.2.1 bt336.2.2.1) else (trivetref11_May.j0 k (decide (a0_2 > 480)) a0_0 a0_1 a0_2 a0_3 a0_4 a0_5 a0_6 a0_7 a0_8 bt336.1 bt336.2.1 bt336.2.2.1)) else (trivetref11_May.j0 k true a0_0 a0_1 a0_2 a0_3 a0_4 a0_5 a0_6 a0_7 a0_8 bt336.1 bt336.2.1 bt336.2.2.1)) else (trivetref11_May.j0 k true a0_0 a0_1 a0_2 a0_3 a0_4 a0_5 a0_6 a0_7 a0_8 bt336.1 bt336.2.1 bt336.2.2.1))
theorem trivetref11_May.mono_l : ∀ k, (∀ y0 y1 y2 y3 y4 y5 y6 y7 y8 y9 y10 y11 y12, LeO (trivetref11_May.j0 k y0 y1 y2 y3 y4 y5 y6 y7 y8 y9 y10 y11 y12) (trivetref11_May.j0 (k + 1) y0 y1 y2 y3 y4 y5 y6 y7 y8 y9 y10 y11 y12)) ∧ (∀ y0 y1 y2 y3 y4 y5 y6 y7 y8 y9 y10, LeO (trivetref11_May.j1 k y0 y1 y2 y3 y4 y5 y6 y7 y8 y9 y10) (trivetref11_May.j1 (k + 1) y0 y1 y2 y3 y4 y5 y6 y7 y8 y9 y10)) ∧ (∀ y0 y1 y2 y3 y4 y5 y6 y7 y8 y9 y10 y11, LeO (trivetref11_May.j2 k y0 y1 y2 y3 y4 y5 y6 y7 y8 y9 y10 y11) (trivetref11_May.j2 (k + 1) y0 y1 y2 y3 y4 y5 y6 y7 y8 y9 y10 y11)) ∧ (∀ y0, LeO (trivetref11_May.j3 k y0) (trivetref11_May.j3 (k + 1) y0))
 | 0 => ⟨fun _ _ _ _ _ _ _ _ _ _ _ _ _ r h => by simp [trivetref11_May.j0] at h, fun _ _ _ _ _ _ _ _ _ _ _ r h => by simp [trivetref11_May.j1] at h, fun _ _ _ _ _ _ _ _ _ _ _ _ r h => by simp [trivetref11_May.j2] at h, fun _ r h => by simp [trivetref11_May.j3] at h⟩
 | k + 1 => by
  obtain ⟨ih0, ih1, ih2, ih3⟩ := trivetref11_May.mono_l k
  refine ⟨?_, ?_, ?_, ?_⟩
  ·intro y0 y1 y2 y3 y4 y5 y6 y7 y8 y9 y10 y11 y12
   unfold trivetref11_May.j0
   repeat' first
   | (with_reducible exact ih0 _ _ _ _ _ _ _ _ _ _ _ _ _)
   | (with_reducible exact ih1 _ _ _ _ _ _ _ _ _ _ _)
   | (with_reducible exact ih2 _ _ _ _ _ _ _ _ _ _ _ _)
   | (with_reducible exact ih3 _)
   | (with_reducible exact LeO.refl _)
   | (with_reducible exact LeO.none _)
   | (with_reducible refine LeO.ite ?_ ?_)
   | (with_reducible refine LeO.bind ?_ (fun _ => ?_))
   | exact ih0 _ _ _ _ _ _ _ _ _ _ _ _ _
   | exact ih1 _ _ _ _ _ _ _ _ _ _ _
   | exact ih2 _ _ _ _ _ _ _ _ _ _ _ _
   | exact ih3 _
   | exact LeO.none _
   | refine LeO.ite ?_ ?_
   | refine LeO.bind ?_ (fun _ => ?_)
  ·intro y0 y1 y2 y3 y4 y5 y6 y7 y8 y9 y10
   unfold trivetref11_May.j1
   repeat' first
   | (with_reducible exact ih0 _ _ _ _ _ _ _ _ _ _ _ _ _)
   | (with_reducible exact ih1 _ _ _ _ _ _ _ _ _ _ _)
   | (with_reducible exact ih2 _ _ _ _ _ _ _ _ _ _ _ _)
   | (with_reducible exact ih3 _)
   | (with_reducible exact LeO.refl _)
   | (with_reducible exact LeO.none _)
   | (with_reducible refine LeO.ite ?_ ?_)
   | (with_reducible refine LeO.bind ?_ (fun _ => ?_))
   | exact ih0 _ _ _ _ _ _ _ _ _ _ _ _ _
   | exact ih1 _ _ _ _ _ _ _ _ _ _ _
   | exact ih2 _ _ _ _ _ _ _ _ _ _ _ _
   | exact ih3 _
   | exact LeO.none _
   | refine LeO.ite ?_ ?_
   | refine LeO.bind ?_ (fun _ => ?_)
  ·intro y0 y1 y2 y3 y4 y5 y6 y7 y8 y9 y10 y11
   unfold trivetref11_May.j2
   repeat' first
   | (with_reducible exact ih0 _ _ _ _ _ _ _ _ _ _ _ _ _)
   | (with_reducible exact ih1 _ _ _ _ _ _ _ _ _ _ _)
   | (with_reducible exact ih2 _ _ _ _ _ _ _ _ _ _ _ _)
   | (with_reducible exact ih3 _)
   | (with_reducible exact LeO.refl _)
   | (with_reducible exact LeO.none _)
   | (with_reducible refine LeO.ite ?_ ?_)
   | (with_reducible refine LeO.bind ?_ (fun _ => ?_))
   | exact ih0 _ _ _ _ _ _ _ _ _ _ _ _ _
   | exact ih1 _ _ _ _ _ _ _ _ _ _ _
   | exact ih2 _ _ _ _ _ _ _ _ _ _ _ _
   | exact ih3 _
   | exact LeO.none _
   | refine LeO.ite ?_ ?_
   | refine LeO.bind ?_ (fun _ => ?_)
  ·intro y0
   unfold trivetref11_May.j3
   repeat' first
   | (with_reducible exact ih0 _ _ _ _ _ _ _ _ _ _ _ _ _)
   | (with_reducible exact ih1 _ _ _ _ _ _ _ _ _ _ _)
   | (with_reducible exact ih2 _ _ _ _ _ _ _ _ _ _ _ _)
   | (with_reducible exact ih3 _)
   | (with_reducible exact LeO.refl _)
   | (with_reducible exact LeO.none _)
   | (with_reducible refine LeO.ite ?_ ?_)
   | (with_reducible refine LeO.bind ?_ (fun _ => ?_))
   | exact ih0 _ _ _ _ _ _ _ _ _ _ _ _ _
   | exact ih1 _ _ _ _ _ _ _ _ _ _ _
   | exact ih2 _ _ _ _ _ _ _ _ _ _ _ _
   | exact ih3 _
   | exact LeO.none _
   | refine LeO.ite ?_ ?_
   | refine LeO.bind ?_ (fun _ => ?_)
theorem trivetref11_May.mono : ∀ a0 a1 a2 a3 a4 a5 a6 a7 a8 k, LeO (trivetref11_May.f k a0 a1 a2 a3 a4 a5 a6 a7 a8) (trivetref11_May.f (k + 1) a0 a1 a2 a3 a4 a5 a6 a7 a8) := by
 intro a0 a1 a2 a3 a4 a5 a6 a7 a8 k
 obtain ⟨ih0, ih1, ih2, ih3⟩ := trivetref11_May.mono_l k
 unfold trivetref11_May.f
 repeat' first
   | (with_reducible exact ih0 _ _ _ _ _ _ _ _ _ _ _ _ _)
   | (with_reducible exact ih1 _ _ _ _ _ _ _ _ _ _ _)
   | (with_reducible exact ih2 _ _ _ _ _ _ _ _ _ _ _ _)
   | (with_reducible exact ih3 _)
   | (with_reducible exact LeO.refl _)
   | (with_reducible exact LeO.none _)
   | (with_reducible refine LeO.ite ?_ ?_)
   | (with_reducible refine LeO.bind ?_ (fun _ => ?_))
   | exact ih0 _ _ _ _ _ _ _ _ _ _ _ _ _
   | exact ih1 _ _ _ _ _ _ _ _ _ _ _
   | exact ih2 _ _ _ _ _ _ _ _ _ _ _ _
   | exact ih3 _
   | exact LeO.none _
   | refine LeO.ite ?_ ?_
   | refine LeO.bind ?_ (fun _ => ?_)
set_option maxHeartbeats 8000000 in
set_option maxRecDepth 100000 in
theorem trivetref11_May.calls (k : Nat) (a0_0 : Int) (a0_1 : Int) (a0_2 : Int) (a0_3 : Int) (a0_4 : Int) (a0_5 : Int) (a0_6 : Int) (a0_7 : Int) (a0_8 : Int) (r : Bool) (w : World) (h : trivetref11_May.f k a0_0 a0_1 a0_2 a0_3 a0_4 a0_5 a0_6 a0_7 a0_8 = some r) :
  Calls Try.prog 29 #[.agg #[.int .i64 a0_0, .int .i64 a0_1, .int .i64 a0_2, .int .i64 a0_3, .int .i64 a0_4, .int .i64 a0_5, .int .i64 a0_6, .int .i64 a0_7, .int .i64 a0_8]] w fun e w' => e = .returned (.bool r) ∧ Below w.heap.size w w' := by
 have hu23 := Try.underlying23
 have hu53 := Try.underlying53
 have HB := ka (Below.refl w.heap.size w)
 have H : ((trivetref04_Of_s.f a0_3).bind fun bt336 => (if bt336.2.2.2 = true then (if bt336.2.2.1 = 1 then (if a0_2 < 1 then (trivetref11_May.j0 k true a0_0 a0_1 a0_2 a0_3 a0_4 a0_5 a0_6 a0_7 a0_8 bt336.1 bt336.2.1 bt336.2.2.1) else (trivetref11_May.j0 k (decide (a0_2 > 480)) a0_0 a0_1 a0_2 a0_3 a0_4 a0_5 a0_6 a0_7 a0_8 bt336.1 bt336.2.1 bt336.2.2.1)) else (trivetref11_May.j0 k true a0_0 a0_1 a0_2 a0_3 a0_4 a0_5 a0_6 a0_7 a0_8 bt336.1 bt336.2.1 bt336.2.2.1)) else (trivetref11_May.j0 k true a0_0 a0_1 a0_2 a0_3 a0_4 a0_5 a0_6 a0_7 a0_8 bt336.1 bt336.2.1 bt336.2.2.1))) = some r := h
 clear h
 replace H := Option.bind_eq_some_iff.mp H
 obtain ⟨⟨t336, t337, t338, t339⟩, A20, H⟩ := H
 replace H : (if t339 = true then (if t338 = 1 then (if a0_2 < 1 then (trivetref11_May.j0 k true a0_0 a0_1 a0_2 a0_3 a0_4 a0_5 a0_6 a0_7 a0_8 t336 t337 t338) else (trivetref11_May.j0 k (decide (a0_2 > 480)) a0_0 a0_1 a0_2 a0_3 a0_4 a0_5 a0_6 a0_7 a0_8 t336 t337 t338)) else (trivetref11_May.j0 k true a0_0 a0_1 a0_2 a0_3 a0_4 a0_5 a0_6 a0_7 a0_8 t336 t337 t338)) else (trivetref11_May.j0 k true a0_0 a0_1 a0_2 a0_3 a0_4 a0_5 a0_6 a0_7 a0_8 t336 t337 t338)) = some r := H
 have A2 := ka A20
 clear A20
 have HC3 := ka H
 clear H
 go_enter Try.func29, Try.ntmps29
 go_upto_region 2 with (first | ((with_reducible refine gate_dst (N := 1) rfl ?_); refine kx (N := 1) (cs := #[.int .i64 a0_0, .int .i64 a0_1, .int .i64 a0_2, .int .i64 a0_3, .int .i64 a0_4, .int .i64 a0_5, .int .i64 a0_6, .int .i64 a0_7, .int .i64 a0_8]) (t := 23) ?_; intro gb335 hg w4 hbox hb; have n0_ := ka (below_step (kw HB.out) hb); have n1_ := ka (hbox); have n2_ := ka ((by rw [hg]; exact (below_size (kw HB.out)) : w.heap.size ≤ gb335)); have n3_ := n2_; clear HB; have HB := n0_; have BK335 := n1_; have GW335 := n2_; have GE335 := n3_; clear n0_ n1_ n2_ n3_; clear hb hbox hg; have hcz5 := blkAll9 BK335.out) | ((with_reducible refine gate_callee (f := 24) rfl ?_); refine kg (some 12) rfl rfl Try.func24 (by kernel_rfl) rfl #[.int .i64 a0_3] rfl ?_; (with_reducible refine (trivetref04_Of_s.calls a0_3 t336 t337 t338 t339 _ A2.out).mono ?_); rintro e w6 ⟨rfl, hb⟩; refine ⟨_, rfl, ?_⟩; have n0_ := ka (blk_below (g := gb335) (kz BK335.out) hb); have n1_ := ka (below_step (kw HB.out) hb); clear BK335; clear HB; have BK335 := n0_; have HB := n1_; clear n0_ n1_; (try clear hb); (try clear hb2); (try clear hk); (try clear hi)) | ((with_reducible refine gate_dst (N := 3) rfl ?_); refine kx (N := 3) (cs := #[.int .i64 0, .int .i64 0, .int .i64 0]) (t := 53) ?_; intro gb340 hg w7 hbox hb; have n0_ := ka (blk_below (g := gb335) (kz BK335.out) hb); have n1_ := ka (below_step (kw HB.out) hb); have n2_ := ka (hbox); have n3_ := ka ((by rw [hg]; exact (below_size (kw HB.out)) : w.heap.size ≤ gb340)); have n4_ := n3_; have n5_ := ka ((by rw [hg]; exact Nat.ne_of_lt (blk_lt (g := gb335) (kz BK335.out)) : gb335 ≠ gb340)); have n6_ := ka n5_.out.symm; clear BK335; clear HB; have BK335 := n0_; have HB := n1_; have BK340 := n2_; have GW340 := n3_; have GE340 := n4_; have NB335_340 := n5_; have NB340_335 := n6_; clear n0_ n1_ n2_ n3_ n4_ n5_ n6_; clear hb hbox hg; have hnb8 := NB340_335.out; have hnc8 := NB335_340.out; have hcz9 := blkAll3 BK340.out))
 (try simp only [Act.put, List.setIfInBounds_toArray, List.set_cons_zero, List.set_cons_succ])
 go_cut [31] (fun v31 wc => ∃ (kq : Nat) (x31_2 : Bool), v31 = .bool x31_2 ∧ Aside0 (trivetref11_May.j0 kq x31_2 a0_0 a0_1 a0_2 a0_3 a0_4 a0_5 a0_6 a0_7 a0_8 t336 t337 t338 = some r) ∧ Aside0 (kq ≤ k) ∧ Aside0 (wc.heap[gb335]? = some (.cells #[.int .i64 a0_0, .int .i64 a0_1, .int .i64 a0_2, .int .i64 a0_3, .int .i64 a0_4, .int .i64 a0_5, .int .i64 a0_6, .int .i64 a0_7, .int .i64 a0_8] 23 (0, 0))) ∧ Aside0 (wc.heap[gb340]? = some (.cells #[.int .i64 t336, .int .i64 t337, .int .i64 t338] 53 (0, 0))) ∧ Aside0 (Below w.heap.size w wc))
 case first =>
  have H := HC3.out
  clear HC3
  by_cases c10 : t339 = true
  ·subst c10
   have H1 : (if t338 = 1 then (if a0_2 < 1 then (trivetref11_May.j0 k true a0_0 a0_1 a0_2 a0_3 a0_4 a0_5 a0_6 a0_7 a0_8 t336 t337 t338) else (trivetref11_May.j0 k (decide (a0_2 > 480)) a0_0 a0_1 a0_2 a0_3 a0_4 a0_5 a0_6 a0_7 a0_8 t336 t337 t338)) else (trivetref11_May.j0 k true a0_0 a0_1 a0_2 a0_3 a0_4 a0_5 a0_6 a0_7 a0_8 t336 t337 t338)) = some r := by rw [if_pos rfl] at H; exact H
   clear H
   have H := H1
   clear H1
   by_cases c11 : t338 = 1
   ·rw [if_pos c11] at H
    have c11b0 : (t338 == 1) = true := beq_iff_eq.mpr c11
    have c11b1 : (t338 != 1) = false := bne_eq_false_iff_eq.mpr c11
    clear c11
    (first | rw [c11b0] | (simp only [i64_w, i32_w]; rw [c11b0]) | skip)
    by_cases c12 : a0_2 < 1
    ·rw [if_pos c12] at H
     have c12b0 : decide (a0_2 < 1) = true := decide_eq_true c12
     clear c12
     have H' := ka H
     clear H
     have hnb13 := NB340_335.out
     have hnc13 := NB335_340.out
     have hcz14 := blkAll3 BK340.out
     have hcz15 := blkAll9 BK335.out
     go_wp2
     go_meet
     case rel => exact ⟨_, (true), (by first | rfl | (simp; done) | (simp [*]; done)), H', ⟨by first | omega | exact Nat.le_refl _⟩, ⟨by (with_reducible repeat (first | apply kb1 | apply kb2 | apply kb3 | refine kb4 ?_ NB335_340.out _)); exact BK335.out⟩, ⟨by (with_reducible repeat (first | apply kb1 | apply kb2 | apply kb3 | apply blkPut3_2 | apply blkPut3_1 | apply blkPut3_0)); exact BK340.out⟩, ⟨by repeat (first | (with_reducible first | exact HB.out | apply kc1 | apply kc2 | apply kc3 | refine kc4 ?_ GE335.out | refine kc4 ?_ GE340.out) | exact HB.out)⟩⟩
    ·rw [if_neg c12] at H
     have c12b0 : decide (a0_2 < 1) = false := decide_eq_false c12
     clear c12
     have H' := ka H
     clear H
     have hnb16 := NB340_335.out
     have hnc16 := NB335_340.out
     have hcz17 := blkAll3 BK340.out
     have hcz18 := blkAll9 BK335.out
     go_wp2
     go_meet
     case rel => exact ⟨_, (decide (a0_2 > 480)), (by first | rfl | (simp; done) | (simp [*]; done)), H', ⟨by first | omega | exact Nat.le_refl _⟩, ⟨by (with_reducible repeat (first | apply kb1 | apply kb2 | apply kb3 | refine kb4 ?_ NB335_340.out _)); exact BK335.out⟩, ⟨by (with_reducible repeat (first | apply kb1 | apply kb2 | apply kb3 | apply blkPut3_2 | apply blkPut3_1 | apply blkPut3_0)); exact BK340.out⟩, ⟨by repeat (first | (with_reducible first | exact HB.out | apply kc1 | apply kc2 | apply kc3 | refine kc4 ?_ GE335.out | refine kc4 ?_ GE340.out) | exact HB.out)⟩⟩
   ·rw [if_neg c11] at H
    have c11b0 : (t338 == 1) = false := beq_eq_false_iff_ne.mpr c11
    have c11b1 : (t338 != 1) = true := bne_iff_ne.mpr c11
    (first | rw [c11b0] | (simp only [i64_w, i32_w]; rw [c11b0]) | skip)
    have H' := ka H
    clear H
    have hnb19 := NB340_335.out
    have hnc19 := NB335_340.out
    have hcz20 := blkAll3 BK340.out
    go_wp2
    go_meet
    case rel => exact ⟨_, (true), (by first | rfl | (simp; done) | (simp [*]; done)), H', ⟨by first | omega | exact Nat.le_refl _⟩, ⟨by (with_reducible repeat (first | apply kb1 | apply kb2 | apply kb3 | refine kb4 ?_ NB335_340.out _)); exact BK335.out⟩, ⟨by (with_reducible repeat (first | apply kb1 | apply kb2 | apply kb3 | apply blkPut3_2 | apply blkPut3_1 | apply blkPut3_0)); exact BK340.out⟩, ⟨by repeat (first | (with_reducible first | exact HB.out | apply kc1 | apply kc2 | apply kc3 | refine kc4 ?_ GE335.out | refine kc4 ?_ GE340.out) | exact HB.out)⟩⟩
  ·replace c10 := Bool.eq_false_iff.mpr c10
   subst c10
   have H1 : (trivetref11_May.j0 k true a0_0 a0_1 a0_2 a0_3 a0_4 a0_5 a0_6 a0_7 a0_8 t336 t337 t338) = some r := by rw [if_neg (show ¬ (false = true) by decide)] at H; exact H
   clear H
   have H := H1
   clear H1
   have H' := ka H
   clear H
   go_wp2
   go_meet
   case rel => exact ⟨_, (true), (by first | rfl | (simp; done) | (simp [*]; done)), H', ⟨by first | omega | exact Nat.le_refl _⟩, ⟨by (with_reducible repeat (first | apply kb1 | apply kb2 | apply kb3 | refine kb4 ?_ NB335_340.out _)); exact BK335.out⟩, ⟨by (with_reducible repeat (first | apply kb1 | apply kb2 | apply kb3 | apply blkPut3_2 | apply blkPut3_1 | apply blkPut3_0)); exact BK340.out⟩, ⟨by repeat (first | (with_reducible first | exact HB.out | apply kc1 | apply kc2 | apply kc3 | refine kc4 ?_ GE335.out | refine kc4 ?_ GE340.out) | exact HB.out)⟩⟩
 case rest =>
  clear HC3
  try clear c1
  try clear c2
  try clear p2
  try clear c8
  try clear c10
  try clear c11
  try clear c11b0
  try clear c11b1
  try clear c12
  try clear c12b0
  try clear c13
  try clear c16
  try clear c19
  try clear hcz14
  try clear hcz15
  try clear hcz17
  try clear hcz18
  try clear hcz20
  try clear hcz5
  try clear hcz9
  obtain ⟨kq, x31_2, rfl, HA, HJ2, BK335, BK340, HB⟩ := hcut
  cases kq with
  | zero => exact absurd HA.out (by simp [trivetref11_May.j0])
  | succ kj2 =>
   have H := HA.out
   clear HA
   simp only [trivetref11_May.j0] at H
   by_cases c21 : x31_2 = true
   ·subst c21
    have H1 : (some false) = some r := by rw [if_pos rfl] at H; exact H
    clear H
    have H := H1
    clear H1
    obtain rfl := Option.some.inj H
    go_wp2
    go_ret
    exact ⟨by first | rfl | (simp [errW_none, errW_some] <;> rfl) | (simp [*, errW_none, errW_some] <;> rfl), by repeat (first | (with_reducible first | exact HB.out | apply kc1 | apply kc2 | apply kc3 | refine kc4 ?_ GE335.out | refine kc4 ?_ GE340.out) | exact HB.out)⟩
   ·replace c21 := Bool.eq_false_iff.mpr c21
    subst c21
    have H1 : ((trivetref04_Months_s.f t336 t337 t338 a0_2).bind fun bt341 => (if a0_0 ≥ 1 then (if a0_0 ≤ 10000000000000 then (if a0_4 ≥ 0 then (trivetref11_May.j1 kj2 bt341.2.2.2 (decide (a0_4 ≤ 10000000000000)) a0_0 a0_1 a0_2 a0_3 a0_4 a0_5 a0_6 a0_7 a0_8) else (trivetref11_May.j1 kj2 bt341.2.2.2 false a0_0 a0_1 a0_2 a0_3 a0_4 a0_5 a0_6 a0_7 a0_8)) else (trivetref11_May.j1 kj2 bt341.2.2.2 false a0_0 a0_1 a0_2 a0_3 a0_4 a0_5 a0_6 a0_7 a0_8)) else (trivetref11_May.j1 kj2 bt341.2.2.2 false a0_0 a0_1 a0_2 a0_3 a0_4 a0_5 a0_6 a0_7 a0_8))) = some r := by rw [if_neg (show ¬ (false = true) by decide)] at H; exact H
    clear H
    have H := H1
    clear H1
    replace H := Option.bind_eq_some_iff.mp H
    obtain ⟨⟨t341, t342, t343, t344⟩, A220, H⟩ := H
    replace H : (if a0_0 ≥ 1 then (if a0_0 ≤ 10000000000000 then (if a0_4 ≥ 0 then (trivetref11_May.j1 kj2 t344 (decide (a0_4 ≤ 10000000000000)) a0_0 a0_1 a0_2 a0_3 a0_4 a0_5 a0_6 a0_7 a0_8) else (trivetref11_May.j1 kj2 t344 false a0_0 a0_1 a0_2 a0_3 a0_4 a0_5 a0_6 a0_7 a0_8)) else (trivetref11_May.j1 kj2 t344 false a0_0 a0_1 a0_2 a0_3 a0_4 a0_5 a0_6 a0_7 a0_8)) else (trivetref11_May.j1 kj2 t344 false a0_0 a0_1 a0_2 a0_3 a0_4 a0_5 a0_6 a0_7 a0_8)) = some r := H
    have A22 := ka A220
    clear A220
    have HC23 := ka H
    clear H
    have hnb24 := NB340_335.out
    have hnc24 := NB335_340.out
    have hcz25 := blkAll3 BK340.out
    have hcz26 := blkAll9 BK335.out
    go_upto_region 5 with (first | ((with_reducible refine gate_callee (f := 40) rfl ?_); refine kg (some 36) rfl rfl Try.func40 (by kernel_rfl) rfl #[.agg #[.int .i64 t336, .int .i64 t337, .int .i64 t338], .int .i64 a0_2] rfl ?_; (with_reducible refine (trivetref04_Months_s.calls t336 t337 t338 a0_2 t341 t342 t343 t344 _ A22.out).mono ?_); rintro e w27 ⟨rfl, hb⟩; refine ⟨_, rfl, ?_⟩; have n0_ := ka (blk_below (g := gb335) (kz BK335.out) hb); have n1_ := ka (blk_below (g := gb340) (kz BK340.out) hb); have n2_ := ka (below_step (kw HB.out) hb); clear BK335; clear BK340; clear HB; have BK335 := n0_; have BK340 := n1_; have HB := n2_; clear n0_ n1_ n2_; (try clear hb); (try clear hb2); (try clear hk); (try clear hi)) | ((with_reducible refine gate_dst (N := 5) rfl ?_); refine kx (N := 5) (cs := #[.int .i64 0, .int .i64 0, .int .i64 0]) (t := 53) ?_; intro gb345 hg w28 hbox hb; have n0_ := ka (blk_below (g := gb335) (kz BK335.out) hb); have n1_ := ka (blk_below (g := gb340) (kz BK340.out) hb); have n2_ := ka (below_step (kw HB.out) hb); have n3_ := ka (hbox); have n4_ := ka ((by rw [hg]; exact (below_size (kw HB.out)) : w.heap.size ≤ gb345)); have n5_ := n4_; have n6_ := ka ((by rw [hg]; exact Nat.ne_of_lt (blk_lt (g := gb335) (kz BK335.out)) : gb335 ≠ gb345)); have n7_ := ka n6_.out.symm; have n8_ := ka ((by rw [hg]; exact Nat.ne_of_lt (blk_lt (g := gb340) (kz BK340.out)) : gb340 ≠ gb345)); have n9_ := ka n8_.out.symm; clear BK335; clear BK340; clear HB; have BK335 := n0_; have BK340 := n1_; have HB := n2_; have BK345 := n3_; have GW345 := n4_; have GE345 := n5_; have NB335_345 := n6_; have NB345_335 := n7_; have NB340_345 := n8_; have NB345_340 := n9_; clear n0_ n1_ n2_ n3_ n4_ n5_ n6_ n7_ n8_ n9_; clear hb hbox hg; have hnb29 := NB345_335.out; have hnc29 := NB335_345.out; have hnb30 := NB345_340.out; have hnc30 := NB340_345.out; have hcz31 := blkAll3 BK345.out))
    (try simp only [Act.put, List.setIfInBounds_toArray, List.set_cons_zero, List.set_cons_succ])
    go_cut [7] (fun v7 wc => ∃ (kq : Nat) (x7_22 : Bool), v7 = .bool x7_22 ∧ Aside0 (trivetref11_May.j1 kq t344 x7_22 a0_0 a0_1 a0_2 a0_3 a0_4 a0_5 a0_6 a0_7 a0_8 = some r) ∧ Aside0 (kq ≤ kj2) ∧ Aside0 (wc.heap[gb335]? = some (.cells #[.int .i64 a0_0, .int .i64 a0_1, .int .i64 a0_2, .int .i64 a0_3, .int .i64 a0_4, .int .i64 a0_5, .int .i64 a0_6, .int .i64 a0_7, .int .i64 a0_8] 23 (0, 0))) ∧ Aside0 (wc.heap[gb340]? = some (.cells #[.int .i64 t336, .int .i64 t337, .int .i64 t338] 53 (0, 0))) ∧ Aside0 (wc.heap[gb345]? = some (.cells #[.int .i64 t341, .int .i64 t342, .int .i64 t343] 53 (0, 0))) ∧ Aside0 (Below w.heap.size w wc))
    case first =>
     have H := HC23.out
     clear HC23
     by_cases c32 : a0_0 ≥ 1
     ·rw [if_pos c32] at H
      have c32b0 : decide (1 ≤ a0_0) = true := decide_eq_true c32
      clear c32
      (first | rw [c32b0] | (simp only [i64_w, i32_w]; rw [c32b0]) | skip)
      by_cases c33 : a0_0 ≤ 10000000000000
      ·rw [if_pos c33] at H
       have c33b0 : decide (a0_0 ≤ 10000000000000) = true := decide_eq_true c33
       clear c33
       by_cases c34 : a0_4 ≥ 0
       ·rw [if_pos c34] at H
        have c34b0 : decide (0 ≤ a0_4) = true := decide_eq_true c34
        clear c34
        have H' := ka H
        clear H
        have hnb35 := NB335_340.out
        have hnc35 := NB340_335.out
        have hnb36 := NB335_345.out
        have hnc36 := NB345_335.out
        have hcz37 := blkAll9 BK335.out
        go_wp2
        go_meet
        case rel => exact ⟨_, (decide (a0_4 ≤ 10000000000000)), (by first | rfl | (simp; done) | (simp [*]; done)), H', ⟨by have := HJ2.out; first | omega | exact Nat.le_refl _⟩, ⟨by (with_reducible repeat (first | apply kb1 | apply kb2 | apply kb3 | refine kb4 ?_ NB335_345.out _)); exact BK335.out⟩, ⟨by (with_reducible repeat (first | apply kb1 | apply kb2 | apply kb3 | refine kb4 ?_ NB340_345.out _)); exact BK340.out⟩, ⟨by (with_reducible repeat (first | apply kb1 | apply kb2 | apply kb3 | apply blkPut3_2 | apply blkPut3_1 | apply blkPut3_0)); exact BK345.out⟩, ⟨by repeat (first | (with_reducible first | exact HB.out | apply kc1 | apply kc2 | apply kc3 | refine kc4 ?_ GE335.out | refine kc4 ?_ GE340.out | refine kc4 ?_ GE345.out) | exact HB.out)⟩⟩
       ·rw [if_neg c34] at H
        have c34b0 : decide (0 ≤ a0_4) = false := decide_eq_false c34
        clear c34
        have H' := ka H
        clear H
        have hnb38 := NB335_340.out
        have hnc38 := NB340_335.out
        have hnb39 := NB335_345.out
        have hnc39 := NB345_335.out
        have hcz40 := blkAll9 BK335.out
        go_wp2
        go_meet
        case rel => exact ⟨_, (false), (by first | rfl | (simp; done) | (simp [*]; done)), H', ⟨by have := HJ2.out; first | omega | exact Nat.le_refl _⟩, ⟨by (with_reducible repeat (first | apply kb1 | apply kb2 | apply kb3 | refine kb4 ?_ NB335_345.out _)); exact BK335.out⟩, ⟨by (with_reducible repeat (first | apply kb1 | apply kb2 | apply kb3 | refine kb4 ?_ NB340_345.out _)); exact BK340.out⟩, ⟨by (with_reducible repeat (first | apply kb1 | apply kb2 | apply kb3 | apply blkPut3_2 | apply blkPut3_1 | apply blkPut3_0)); exact BK345.out⟩, ⟨by repeat (first | (with_reducible first | exact HB.out | apply kc1 | apply kc2 | apply kc3 | refine kc4 ?_ GE335.out | refine kc4 ?_ GE340.out | refine kc4 ?_ GE345.out) | exact HB.out)⟩⟩
      ·rw [if_neg c33] at H
       have c33b0 : decide (a0_0 ≤ 10000000000000) = false := decide_eq_false c33
       clear c33
       have H' := ka H
       clear H
       have hnb41 := NB335_340.out
       have hnc41 := NB340_335.out
       have hnb42 := NB335_345.out
       have hnc42 := NB345_335.out
       have hcz43 := blkAll9 BK335.out
       go_wp2
       go_meet
       case rel => exact ⟨_, (false), (by first | rfl | (simp; done) | (simp [*]; done)), H', ⟨by have := HJ2.out; first | omega | exact Nat.le_refl _⟩, ⟨by (with_reducible repeat (first | apply kb1 | apply kb2 | apply kb3 | refine kb4 ?_ NB335_345.out _)); exact BK335.out⟩, ⟨by (with_reducible repeat (first | apply kb1 | apply kb2 | apply kb3 | refine kb4 ?_ NB340_345.out _)); exact BK340.out⟩, ⟨by (with_reducible repeat (first | apply kb1 | apply kb2 | apply kb3 | apply blkPut3_2 | apply blkPut3_1 | apply blkPut3_0)); exact BK345.out⟩, ⟨by repeat (first | (with_reducible first | exact HB.out | apply kc1 | apply kc2 | apply kc3 | refine kc4 ?_ GE335.out | refine kc4 ?_ GE340.out | refine kc4 ?_ GE345.out) | exact HB.out)⟩⟩
     ·rw [if_neg c32] at H
      have c32b0 : decide (1 ≤ a0_0) = false := decide_eq_false c32
      clear c32
      (first | rw [c32b0] | (simp only [i64_w, i32_w]; rw [c32b0]) | skip)
      have H' := ka H
      clear H
      have hnb44 := NB335_340.out
      have hnc44 := NB340_335.out
      have hnb45 := NB335_345.out
      have hnc45 := NB345_335.out
      have hcz46 := blkAll9 BK335.out
      go_wp2
      go_meet
      case rel => exact ⟨_, (false), (by first | rfl | (simp; done) | (simp [*]; done)), H', ⟨by have := HJ2.out; first | omega | exact Nat.le_refl _⟩, ⟨by (with_reducible repeat (first | apply kb1 | apply kb2 | apply kb3 | refine kb4 ?_ NB335_345.out _)); exact BK335.out⟩, ⟨by (with_reducible repeat (first | apply kb1 | apply kb2 | apply kb3 | refine kb4 ?_ NB340_345.out _)); exact BK340.out⟩, ⟨by (with_reducible repeat (first | apply kb1 | apply kb2 | apply kb3 | apply blkPut3_2 | apply blkPut3_1 | apply blkPut3_0)); exact BK345.out⟩, ⟨by repeat (first | (with_reducible first | exact HB.out | apply kc1 | apply kc2 | apply kc3 | refine kc4 ?_ GE335.out | refine kc4 ?_ GE340.out | refine kc4 ?_ GE345.out) | exact HB.out)⟩⟩
    case rest =>
     clear HC23
     try clear c1
     try clear c2
     try clear p2
     try clear c3
     try clear c4
     try clear c8
     try clear c10
     try clear c11
     try clear c11b0
     try clear c11b1
     try clear c12
     try clear c12b0
     try clear c13
     try clear c16
     try clear c19
     try clear c21
     try clear c24
     try clear c29
     try clear c30
     try clear c32
     try clear c32b0
     try clear c33
     try clear c33b0
     try clear c34
     try clear c34b0
     try clear c35
     try clear c36
     try clear c38
     try clear c39
     try clear c40
     try clear c41
     try clear c42
     try clear c44
     try clear c45
     try clear hcz14
     try clear hcz15
     try clear hcz17
     try clear hcz18
     try clear hcz20
     try clear hcz25
     try clear hcz26
     try clear hcz31
     try clear hcz37
     try clear hcz40
     try clear hcz43
     try clear hcz46
     try clear hcz5
     try clear hcz9
     try clear p2
     obtain ⟨kq, x7_22, rfl, HA, HJ22, BK335, BK340, BK345, HB⟩ := hcut
     cases kq with
     | zero => exact absurd HA.out (by simp [trivetref11_May.j1])
     | succ kj22 =>
      have H := HA.out
      clear HA
      simp only [trivetref11_May.j1] at H
      have HC47 := ka H
      clear H
      go_upto_region 6 with (fail)
      go_cut [8] (fun v8 wc => ∃ (kq : Nat) (x8_46 : Bool), v8 = .bool x8_46 ∧ Aside0 (trivetref11_May.j2 kq t344 x7_22 x8_46 a0_0 a0_1 a0_2 a0_3 a0_4 a0_5 a0_6 a0_7 a0_8 = some r) ∧ Aside0 (kq ≤ kj22) ∧ Aside0 (wc.heap[gb335]? = some (.cells #[.int .i64 a0_0, .int .i64 a0_1, .int .i64 a0_2, .int .i64 a0_3, .int .i64 a0_4, .int .i64 a0_5, .int .i64 a0_6, .int .i64 a0_7, .int .i64 a0_8] 23 (0, 0))) ∧ Aside0 (wc.heap[gb340]? = some (.cells #[.int .i64 t336, .int .i64 t337, .int .i64 t338] 53 (0, 0))) ∧ Aside0 (wc.heap[gb345]? = some (.cells #[.int .i64 t341, .int .i64 t342, .int .i64 t343] 53 (0, 0))) ∧ Aside0 (Below w.heap.size w wc))
      case first =>
       have H := HC47.out
       clear HC47
       by_cases c48 : a0_1 ≥ 0
       ·rw [if_pos c48] at H
        have c48b0 : decide (0 ≤ a0_1) = true := decide_eq_true c48
        clear c48
        (first | rw [c48b0] | (simp only [i64_w, i32_w]; rw [c48b0]) | skip)
        by_cases c49 : a0_1 ≤ 300000
        ·rw [if_pos c49] at H
         have c49b0 : decide (a0_1 ≤ 300000) = true := decide_eq_true c49
         clear c49
         by_cases c50 : a0_7 ≥ 0
         ·rw [if_pos c50] at H
          have c50b0 : decide (0 ≤ a0_7) = true := decide_eq_true c50
          clear c50
          by_cases c51 : a0_8 ≥ 0
          ·rw [if_pos c51] at H
           have c51b0 : decide (0 ≤ a0_8) = true := decide_eq_true c51
           clear c51
           by_cases c52 : a0_7 ≤ 300000
           ·rw [if_pos c52] at H
            have c52b0 : decide (a0_7 ≤ 300000) = true := decide_eq_true c52
            clear c52
            by_cases c53 : a0_8 ≤ 300000
            ·rw [if_pos c53] at H
             have c53b0 : decide (a0_8 ≤ 300000) = true := decide_eq_true c53
             clear c53
             have H' := ka H
             clear H
             have hnb54 := NB335_340.out
             have hnc54 := NB340_335.out
             have hnb55 := NB335_345.out
             have hnc55 := NB345_335.out
             have hcz56 := blkAll9 BK335.out
             go_wp2
             go_meet
             case rel => exact ⟨_, (decide ((wrap64 (a0_7 + a0_8)) ≤ a0_1)), (by first | rfl | (simp; done) | (simp [*]; done)), H', ⟨by have := HJ2.out; have := HJ22.out; first | omega | exact Nat.le_refl _⟩, ⟨by (with_reducible repeat (first | apply kb1 | apply kb2 | apply kb3)); exact BK335.out⟩, ⟨by (with_reducible repeat (first | apply kb1 | apply kb2 | apply kb3)); exact BK340.out⟩, ⟨by (with_reducible repeat (first | apply kb1 | apply kb2 | apply kb3)); exact BK345.out⟩, ⟨by repeat (first | (with_reducible first | exact HB.out | apply kc1 | apply kc2 | apply kc3 | refine kc4 ?_ GE335.out | refine kc4 ?_ GE340.out | refine kc4 ?_ GE345.out) | exact HB.out)⟩⟩
            ·rw [if_neg c53] at H
             have c53b0 : decide (a0_8 ≤ 300000) = false := decide_eq_false c53
             clear c53
             have H' := ka H
             clear H
             have hnb57 := NB335_340.out
             have hnc57 := NB340_335.out
             have hnb58 := NB335_345.out
             have hnc58 := NB345_335.out
             have hcz59 := blkAll9 BK335.out
             go_wp2
             go_meet
             case rel => exact ⟨_, (false), (by first | rfl | (simp; done) | (simp [*]; done)), H', ⟨by have := HJ2.out; have := HJ22.out; first | omega | exact Nat.le_refl _⟩, ⟨by (with_reducible repeat (first | apply kb1 | apply kb2 | apply kb3)); exact BK335.out⟩, ⟨by (with_reducible repeat (first | apply kb1 | apply kb2 | apply kb3)); exact BK340.out⟩, ⟨by (with_reducible repeat (first | apply kb1 | apply kb2 | apply kb3)); exact BK345.out⟩, ⟨by repeat (first | (with_reducible first | exact HB.out | apply kc1 | apply kc2 | apply kc3 | refine kc4 ?_ GE335.out | refine kc4 ?_ GE340.out | refine kc4 ?_ GE345.out) | exact HB.out)⟩⟩
           ·rw [if_neg c52] at H
            have c52b0 : decide (a0_7 ≤ 300000) = false := decide_eq_false c52
            clear c52
            have H' := ka H
            clear H
            have hnb60 := NB335_340.out
            have hnc60 := NB340_335.out
            have hnb61 := NB335_345.out
            have hnc61 := NB345_335.out
            have hcz62 := blkAll9 BK335.out
            go_wp2
            go_meet
            case rel => exact ⟨_, (false), (by first | rfl | (simp; done) | (simp [*]; done)), H', ⟨by have := HJ2.out; have := HJ22.out; first | omega | exact Nat.le_refl _⟩, ⟨by (with_reducible repeat (first | apply kb1 | apply kb2 | apply kb3)); exact BK335.out⟩, ⟨by (with_reducible repeat (first | apply kb1 | apply kb2 | apply kb3)); exact BK340.out⟩, ⟨by (with_reducible repeat (first | apply kb1 | apply kb2 | apply kb3)); exact BK345.out⟩, ⟨by repeat (first | (with_reducible first | exact HB.out | apply kc1 | apply kc2 | apply kc3 | refine kc4 ?_ GE335.out | refine kc4 ?_ GE340.out | refine kc4 ?_ GE345.out) | exact HB.out)⟩⟩
          ·rw [if_neg c51] at H
           have c51b0 : decide (0 ≤ a0_8) = false := decide_eq_false c51
           clear c51
           have H' := ka H
           clear H
           have hnb63 := NB335_340.out
           have hnc63 := NB340_335.out
           have hnb64 := NB335_345.out
           have hnc64 := NB345_335.out
           have hcz65 := blkAll9 BK335.out
           go_wp2
           go_meet
           case rel => exact ⟨_, (false), (by first | rfl | (simp; done) | (simp [*]; done)), H', ⟨by have := HJ2.out; have := HJ22.out; first | omega | exact Nat.le_refl _⟩, ⟨by (with_reducible repeat (first | apply kb1 | apply kb2 | apply kb3)); exact BK335.out⟩, ⟨by (with_reducible repeat (first | apply kb1 | apply kb2 | apply kb3)); exact BK340.out⟩, ⟨by (with_reducible repeat (first | apply kb1 | apply kb2 | apply kb3)); exact BK345.out⟩, ⟨by repeat (first | (with_reducible first | exact HB.out | apply kc1 | apply kc2 | apply kc3 | refine kc4 ?_ GE335.out | refine kc4 ?_ GE340.out | refine kc4 ?_ GE345.out) | exact HB.out)⟩⟩
         ·rw [if_neg c50] at H
          have c50b0 : decide (0 ≤ a0_7) = false := decide_eq_false c50
          clear c50
          have H' := ka H
          clear H
          have hnb66 := NB335_340.out
          have hnc66 := NB340_335.out
          have hnb67 := NB335_345.out
          have hnc67 := NB345_335.out
          have hcz68 := blkAll9 BK335.out
          go_wp2
          go_meet
          case rel => exact ⟨_, (false), (by first | rfl | (simp; done) | (simp [*]; done)), H', ⟨by have := HJ2.out; have := HJ22.out; first | omega | exact Nat.le_refl _⟩, ⟨by (with_reducible repeat (first | apply kb1 | apply kb2 | apply kb3)); exact BK335.out⟩, ⟨by (with_reducible repeat (first | apply kb1 | apply kb2 | apply kb3)); exact BK340.out⟩, ⟨by (with_reducible repeat (first | apply kb1 | apply kb2 | apply kb3)); exact BK345.out⟩, ⟨by repeat (first | (with_reducible first | exact HB.out | apply kc1 | apply kc2 | apply kc3 | refine kc4 ?_ GE335.out | refine kc4 ?_ GE340.out | refine kc4 ?_ GE345.out) | exact HB.out)⟩⟩
        ·rw [if_neg c49] at H
         have c49b0 : decide (a0_1 ≤ 300000) = false := decide_eq_false c49
         clear c49
         have H' := ka H
         clear H
         have hnb69 := NB335_340.out
         have hnc69 := NB340_335.out
         have hnb70 := NB335_345.out
         have hnc70 := NB345_335.out
         have hcz71 := blkAll9 BK335.out
         go_wp2
         go_meet
         case rel => exact ⟨_, (false), (by first | rfl | (simp; done) | (simp [*]; done)), H', ⟨by have := HJ2.out; have := HJ22.out; first | omega | exact Nat.le_refl _⟩, ⟨by (with_reducible repeat (first | apply kb1 | apply kb2 | apply kb3)); exact BK335.out⟩, ⟨by (with_reducible repeat (first | apply kb1 | apply kb2 | apply kb3)); exact BK340.out⟩, ⟨by (with_reducible repeat (first | apply kb1 | apply kb2 | apply kb3)); exact BK345.out⟩, ⟨by repeat (first | (with_reducible first | exact HB.out | apply kc1 | apply kc2 | apply kc3 | refine kc4 ?_ GE335.out | refine kc4 ?_ GE340.out | refine kc4 ?_ GE345.out) | exact HB.out)⟩⟩
       ·rw [if_neg c48] at H
        have c48b0 : decide (0 ≤ a0_1) = false := decide_eq_false c48
        clear c48
        (first | rw [c48b0] | (simp only [i64_w, i32_w]; rw [c48b0]) | skip)
        have H' := ka H
        clear H
        have hnb72 := NB335_340.out
        have hnc72 := NB340_335.out
        have hnb73 := NB335_345.out
        have hnc73 := NB345_335.out
        have hcz74 := blkAll9 BK335.out
        go_wp2
        go_meet
        case rel => exact ⟨_, (false), (by first | rfl | (simp; done) | (simp [*]; done)), H', ⟨by have := HJ2.out; have := HJ22.out; first | omega | exact Nat.le_refl _⟩, ⟨by (with_reducible repeat (first | apply kb1 | apply kb2 | apply kb3)); exact BK335.out⟩, ⟨by (with_reducible repeat (first | apply kb1 | apply kb2 | apply kb3)); exact BK340.out⟩, ⟨by (with_reducible repeat (first | apply kb1 | apply kb2 | apply kb3)); exact BK345.out⟩, ⟨by repeat (first | (with_reducible first | exact HB.out | apply kc1 | apply kc2 | apply kc3 | refine kc4 ?_ GE335.out | refine kc4 ?_ GE340.out | refine kc4 ?_ GE345.out) | exact HB.out)⟩⟩
      case rest =>
       clear HC47
       try clear c1
       try clear c2
       try clear p2
       try clear c3
       try clear c4
       try clear c5
       try clear c6
       try clear p6
       try clear c7
       try clear c8
       try clear c10
       try clear c11
       try clear c11b0
       try clear c11b1
       try clear c12
       try clear c12b0
       try clear c13
       try clear c16
       try clear c19
       try clear c21
       try clear c24
       try clear c29
       try clear c30
       try clear c32
       try clear c32b0
       try clear c33
       try clear c33b0
       try clear c34
       try clear c34b0
       try clear c35
       try clear c36
       try clear c38
       try clear c39
       try clear c40
       try clear c41
       try clear c42
       try clear c44
       try clear c45
       try clear c48
       try clear c48b0
       try clear c49
       try clear c49b0
       try clear c50
       try clear c50b0
       try clear c51
       try clear c51b0
       try clear c52
       try clear c52b0
       try clear c53
       try clear c53b0
       try clear c54
       try clear c55
       try clear c57
       try clear c58
       try clear c60
       try clear c61
       try clear c63
       try clear c64
       try clear p64
       try clear c66
       try clear c67
       try clear c69
       try clear c70
       try clear c72
       try clear c73
       try clear hcz14
       try clear hcz15
       try clear hcz17
       try clear hcz18
       try clear hcz20
       try clear hcz25
       try clear hcz26
       try clear hcz31
       try clear hcz37
       try clear hcz40
       try clear hcz43
       try clear hcz46
       try clear hcz56
       try clear hcz59
       try clear hcz5
       try clear hcz62
       try clear hcz65
       try clear hcz68
       try clear hcz71
       try clear hcz74
       try clear hcz9
       try clear p2
       obtain ⟨kq, x8_46, rfl, HA, HJ46, BK335, BK340, BK345, HB⟩ := hcut
       cases kq with
       | zero => exact absurd HA.out (by simp [trivetref11_May.j2])
       | succ kj46 =>
        have H := HA.out
        clear HA
        simp only [trivetref11_May.j2] at H
        have HC75 := ka H
        clear H
        go_upto_region 7 with (fail)
        go_cut [2] (fun v2 wc => ∃ (kq : Nat) (x2_74 : Bool), v2 = .bool x2_74 ∧ Aside0 (trivetref11_May.j3 kq x2_74 = some r) ∧ Aside0 (kq ≤ kj46) ∧ Aside0 (wc.heap[gb335]? = some (.cells #[.int .i64 a0_0, .int .i64 a0_1, .int .i64 a0_2, .int .i64 a0_3, .int .i64 a0_4, .int .i64 a0_5, .int .i64 a0_6, .int .i64 a0_7, .int .i64 a0_8] 23 (0, 0))) ∧ Aside0 (wc.heap[gb340]? = some (.cells #[.int .i64 t336, .int .i64 t337, .int .i64 t338] 53 (0, 0))) ∧ Aside0 (wc.heap[gb345]? = some (.cells #[.int .i64 t341, .int .i64 t342, .int .i64 t343] 53 (0, 0))) ∧ Aside0 (Below w.heap.size w wc))
        case first =>
         have H := HC75.out
         clear HC75
         by_cases c76 : t344 = true
         ·subst c76
          have H1 : (if x7_22 = true then (if x8_46 = true then (if a0_5 ≥ 1 then (if a0_5 ≤ 64 then (if a0_6 ≥ 1 then (trivetref11_May.j3 kj46 (decide (a0_6 ≤ 3))) else (trivetref11_May.j3 kj46 false)) else (trivetref11_May.j3 kj46 false)) else (trivetref11_May.j3 kj46 false)) else (trivetref11_May.j3 kj46 false)) else (trivetref11_May.j3 kj46 false)) = some r := by rw [if_pos rfl] at H; exact H
          clear H
          have H := H1
          clear H1
          by_cases c77 : x7_22 = true
          ·subst c77
           have H1 : (if x8_46 = true then (if a0_5 ≥ 1 then (if a0_5 ≤ 64 then (if a0_6 ≥ 1 then (trivetref11_May.j3 kj46 (decide (a0_6 ≤ 3))) else (trivetref11_May.j3 kj46 false)) else (trivetref11_May.j3 kj46 false)) else (trivetref11_May.j3 kj46 false)) else (trivetref11_May.j3 kj46 false)) = some r := by rw [if_pos rfl] at H; exact H
           clear H
           have H := H1
           clear H1
           by_cases c78 : x8_46 = true
           ·subst c78
            have H1 : (if a0_5 ≥ 1 then (if a0_5 ≤ 64 then (if a0_6 ≥ 1 then (trivetref11_May.j3 kj46 (decide (a0_6 ≤ 3))) else (trivetref11_May.j3 kj46 false)) else (trivetref11_May.j3 kj46 false)) else (trivetref11_May.j3 kj46 false)) = some r := by rw [if_pos rfl] at H; exact H
            clear H
            have H := H1
            clear H1
            by_cases c79 : a0_5 ≥ 1
            ·rw [if_pos c79] at H
             have c79b0 : decide (1 ≤ a0_5) = true := decide_eq_true c79
             clear c79
             (first | rw [c79b0] | (simp only [i64_w, i32_w]; rw [c79b0]) | skip)
             by_cases c80 : a0_5 ≤ 64
             ·rw [if_pos c80] at H
              have c80b0 : decide (a0_5 ≤ 64) = true := decide_eq_true c80
              clear c80
              by_cases c81 : a0_6 ≥ 1
              ·rw [if_pos c81] at H
               have c81b0 : decide (1 ≤ a0_6) = true := decide_eq_true c81
               clear c81
               have H' := ka H
               clear H
               have hnb82 := NB335_340.out
               have hnc82 := NB340_335.out
               have hnb83 := NB335_345.out
               have hnc83 := NB345_335.out
               have hcz84 := blkAll9 BK335.out
               go_wp2
               go_meet
               case rel => exact ⟨_, (decide (a0_6 ≤ 3)), (by first | rfl | (simp; done) | (simp [*]; done)), H', ⟨by have := HJ2.out; have := HJ22.out; have := HJ46.out; first | omega | exact Nat.le_refl _⟩, ⟨by (with_reducible repeat (first | apply kb1 | apply kb2 | apply kb3)); exact BK335.out⟩, ⟨by (with_reducible repeat (first | apply kb1 | apply kb2 | apply kb3)); exact BK340.out⟩, ⟨by (with_reducible repeat (first | apply kb1 | apply kb2 | apply kb3)); exact BK345.out⟩, ⟨by repeat (first | (with_reducible first | exact HB.out | apply kc1 | apply kc2 | apply kc3 | refine kc4 ?_ GE335.out | refine kc4 ?_ GE340.out | refine kc4 ?_ GE345.out) | exact HB.out)⟩⟩
              ·rw [if_neg c81] at H
               have c81b0 : decide (1 ≤ a0_6) = false := decide_eq_false c81
               clear c81
               have H' := ka H
               clear H
               have hnb85 := NB335_340.out
               have hnc85 := NB340_335.out
               have hnb86 := NB335_345.out
               have hnc86 := NB345_335.out
               have hcz87 := blkAll9 BK335.out
               go_wp2
               go_meet
               case rel => exact ⟨_, (false), (by first | rfl | (simp; done) | (simp [*]; done)), H', ⟨by have := HJ2.out; have := HJ22.out; have := HJ46.out; first | omega | exact Nat.le_refl _⟩, ⟨by (with_reducible repeat (first | apply kb1 | apply kb2 | apply kb3)); exact BK335.out⟩, ⟨by (with_reducible repeat (first | apply kb1 | apply kb2 | apply kb3)); exact BK340.out⟩, ⟨by (with_reducible repeat (first | apply kb1 | apply kb2 | apply kb3)); exact BK345.out⟩, ⟨by repeat (first | (with_reducible first | exact HB.out | apply kc1 | apply kc2 | apply kc3 | refine kc4 ?_ GE335.out | refine kc4 ?_ GE340.out | refine kc4 ?_ GE345.out) | exact HB.out)⟩⟩
             ·rw [if_neg c80] at H
              have c80b0 : decide (a0_5 ≤ 64) = false := decide_eq_false c80
              clear c80
              have H' := ka H
              clear H
              have hnb88 := NB335_340.out
              have hnc88 := NB340_335.out
              have hnb89 := NB335_345.out
              have hnc89 := NB345_335.out
              have hcz90 := blkAll9 BK335.out
              go_wp2
              go_meet
              case rel => exact ⟨_, (false), (by first | rfl | (simp; done) | (simp [*]; done)), H', ⟨by have := HJ2.out; have := HJ22.out; have := HJ46.out; first | omega | exact Nat.le_refl _⟩, ⟨by (with_reducible repeat (first | apply kb1 | apply kb2 | apply kb3)); exact BK335.out⟩, ⟨by (with_reducible repeat (first | apply kb1 | apply kb2 | apply kb3)); exact BK340.out⟩, ⟨by (with_reducible repeat (first | apply kb1 | apply kb2 | apply kb3)); exact BK345.out⟩, ⟨by repeat (first | (with_reducible first | exact HB.out | apply kc1 | apply kc2 | apply kc3 | refine kc4 ?_ GE335.out | refine kc4 ?_ GE340.out | refine kc4 ?_ GE345.out) | exact HB.out)⟩⟩
            ·rw [if_neg c79] at H
             have c79b0 : decide (1 ≤ a0_5) = false := decide_eq_false c79
             clear c79
             (first | rw [c79b0] | (simp only [i64_w, i32_w]; rw [c79b0]) | skip)
             have H' := ka H
             clear H
             have hnb91 := NB335_340.out
             have hnc91 := NB340_335.out
             have hnb92 := NB335_345.out
             have hnc92 := NB345_335.out
             have hcz93 := blkAll9 BK335.out
             go_wp2
             go_meet
             case rel => exact ⟨_, (false), (by first | rfl | (simp; done) | (simp [*]; done)), H', ⟨by have := HJ2.out; have := HJ22.out; have := HJ46.out; first | omega | exact Nat.le_refl _⟩, ⟨by (with_reducible repeat (first | apply kb1 | apply kb2 | apply kb3)); exact BK335.out⟩, ⟨by (with_reducible repeat (first | apply kb1 | apply kb2 | apply kb3)); exact BK340.out⟩, ⟨by (with_reducible repeat (first | apply kb1 | apply kb2 | apply kb3)); exact BK345.out⟩, ⟨by repeat (first | (with_reducible first | exact HB.out | apply kc1 | apply kc2 | apply kc3 | refine kc4 ?_ GE335.out | refine kc4 ?_ GE340.out | refine kc4 ?_ GE345.out) | exact HB.out)⟩⟩
           ·replace c78 := Bool.eq_false_iff.mpr c78
            subst c78
            have H1 : (trivetref11_May.j3 kj46 false) = some r := by rw [if_neg (show ¬ (false = true) by decide)] at H; exact H
            clear H
            have H := H1
            clear H1
            have H' := ka H
            clear H
            go_wp2
            go_meet
            case rel => exact ⟨_, (false), (by first | rfl | (simp; done) | (simp [*]; done)), H', ⟨by have := HJ2.out; have := HJ22.out; have := HJ46.out; first | omega | exact Nat.le_refl _⟩, ⟨by (with_reducible repeat (first | apply kb1 | apply kb2 | apply kb3)); exact BK335.out⟩, ⟨by (with_reducible repeat (first | apply kb1 | apply kb2 | apply kb3)); exact BK340.out⟩, ⟨by (with_reducible repeat (first | apply kb1 | apply kb2 | apply kb3)); exact BK345.out⟩, ⟨by repeat (first | (with_reducible first | exact HB.out | apply kc1 | apply kc2 | apply kc3 | refine kc4 ?_ GE335.out | refine kc4 ?_ GE340.out | refine kc4 ?_ GE345.out) | exact HB.out)⟩⟩
          ·replace c77 := Bool.eq_false_iff.mpr c77
           subst c77
           have H1 : (trivetref11_May.j3 kj46 false) = some r := by rw [if_neg (show ¬ (false = true) by decide)] at H; exact H
           clear H
           have H := H1
           clear H1
           have H' := ka H
           clear H
           go_wp2
           go_meet
           case rel => exact ⟨_, (false), (by first | rfl | (simp; done) | (simp [*]; done)), H', ⟨by have := HJ2.out; have := HJ22.out; have := HJ46.out; first | omega | exact Nat.le_refl _⟩, ⟨by (with_reducible repeat (first | apply kb1 | apply kb2 | apply kb3)); exact BK335.out⟩, ⟨by (with_reducible repeat (first | apply kb1 | apply kb2 | apply kb3)); exact BK340.out⟩, ⟨by (with_reducible repeat (first | apply kb1 | apply kb2 | apply kb3)); exact BK345.out⟩, ⟨by repeat (first | (with_reducible first | exact HB.out | apply kc1 | apply kc2 | apply kc3 | refine kc4 ?_ GE335.out | refine kc4 ?_ GE340.out | refine kc4 ?_ GE345.out) | exact HB.out)⟩⟩
         ·replace c76 := Bool.eq_false_iff.mpr c76
          subst c76
          have H1 : (trivetref11_May.j3 kj46 false) = some r := by rw [if_neg (show ¬ (false = true) by decide)] at H; exact H
          clear H
          have H := H1
          clear H1
          have H' := ka H
          clear H
          go_wp2
          go_meet
          case rel => exact ⟨_, (false), (by first | rfl | (simp; done) | (simp [*]; done)), H', ⟨by have := HJ2.out; have := HJ22.out; have := HJ46.out; first | omega | exact Nat.le_refl _⟩, ⟨by (with_reducible repeat (first | apply kb1 | apply kb2 | apply kb3)); exact BK335.out⟩, ⟨by (with_reducible repeat (first | apply kb1 | apply kb2 | apply kb3)); exact BK340.out⟩, ⟨by (with_reducible repeat (first | apply kb1 | apply kb2 | apply kb3)); exact BK345.out⟩, ⟨by repeat (first | (with_reducible first | exact HB.out | apply kc1 | apply kc2 | apply kc3 | refine kc4 ?_ GE335.out | refine kc4 ?_ GE340.out | refine kc4 ?_ GE345.out) | exact HB.out)⟩⟩
        case rest =>
         clear HC75
         try clear c1
         try clear c2
         try clear p2
         try clear c3
         try clear c4
         try clear c5
         try clear c6
         try clear p6
         try clear c7
         try clear c8
         try clear c9
         try clear c10
         try clear c11
         try clear c11b0
         try clear c11b1
         try clear c12
         try clear c12b0
         try clear c13
         try clear c16
         try clear c19
         try clear c21
         try clear c24
         try clear c29
         try clear c30
         try clear c32
         try clear c32b0
         try clear c33
         try clear c33b0
         try clear c34
         try clear c34b0
         try clear c35
         try clear c36
         try clear c38
         try clear c39
         try clear c40
         try clear c41
         try clear c42
         try clear c44
         try clear c45
         try clear c48
         try clear c48b0
         try clear c49
         try clear c49b0
         try clear c50
         try clear c50b0
         try clear c51
         try clear c51b0
         try clear c52
         try clear c52b0
         try clear c53
         try clear c53b0
         try clear c54
         try clear c55
         try clear c57
         try clear c58
         try clear c60
         try clear c61
         try clear c63
         try clear c64
         try clear p64
         try clear c66
         try clear c67
         try clear c69
         try clear c70
         try clear c72
         try clear c73
         try clear c76
         try clear c77
         try clear c78
         try clear c79
         try clear c79b0
         try clear c80
         try clear c80b0
         try clear c81
         try clear c81b0
         try clear c82
         try clear c83
         try clear c85
         try clear c86
         try clear c88
         try clear c89
         try clear c91
         try clear c92
         try clear hcz14
         try clear hcz15
         try clear hcz17
         try clear hcz18
         try clear hcz20
         try clear hcz25
         try clear hcz26
         try clear hcz31
         try clear hcz37
         try clear hcz40
         try clear hcz43
         try clear hcz46
         try clear hcz56
         try clear hcz59
         try clear hcz5
         try clear hcz62
         try clear hcz65
         try clear hcz68
         try clear hcz71
         try clear hcz74
         try clear hcz84
         try clear hcz87
         try clear hcz90
         try clear hcz93
         try clear hcz9
         try clear p2
         try clear p6
         try clear p64
         obtain ⟨kq, x2_74, rfl, HA, HJ74, BK335, BK340, BK345, HB⟩ := hcut
         cases kq with
         | zero => exact absurd HA.out (by simp [trivetref11_May.j3])
         | succ kj74 =>
          have H := HA.out
          clear HA
          simp only [trivetref11_May.j3] at H
          obtain rfl := Option.some.inj H
          go_wp2
          go_ret
          exact ⟨by first | rfl | (simp [errW_none, errW_some] <;> rfl) | (simp [*, errW_none, errW_some] <;> rfl), by repeat (first | (with_reducible first | exact HB.out | apply kc1 | apply kc2 | apply kc3 | refine kc4 ?_ GE335.out | refine kc4 ?_ GE340.out | refine kc4 ?_ GE345.out) | exact HB.out)⟩

end Go.Proofs.Ytimobafoidplaaa.P
