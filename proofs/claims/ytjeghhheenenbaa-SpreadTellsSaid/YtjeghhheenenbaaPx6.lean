-- Written by a program of this session out of the translation of the seat: Lean functions and the proofs that the Go functions come to them.
import Derived.Test.YtjeghhheenenbaaPx0
import Derived.Test.YtjeghhheenenbaaPx1
import Derived.Test.YtjeghhheenenbaaPx5
namespace Go.Proofs.Ytjeghhheenenbaa.P
open Go.RowKit Go.Proofs.YtjeghhheenenbaaW.PrintWords Go.Proofs.YtjeghhheenenbaaW.PrintLast Go.Proofs.YtjeghhheenenbaaW.PrintMore
attribute [local go_sem] max2_int min2_int max_two min_two max_three min_three max_four min_four   -- for this text's walks alone
set_option linter.unusedVariables false
set_option linter.unusedSimpArgs false

/-! ### spread_Of: function 9 -/
mutual
def spread_Of.j0 : Nat → Int → Bool → Bool → Int → Int → Int → Int → Int → List Int → Option (Int × Int × Int × Int × List Int × Option Int)
 | 0, _, _, _, _, _, _, _, _, _ => none
 | k + 1, x1, x2, x33, x453000, x453001, x453002, x453003, x453004, x453005 => if x33 = true then (some (0, 0, 0, 0, ([] : List Int), some 1)) else ((spread_differs.f x453003 x1).bind fun bt457 => (if (mx (mx bt457.1 bt457.2.1) bt457.2.2.1) > 10000000000000 then (some (0, 0, 0, 0, ([] : List Int), some 1)) else (if 12 ≤ 35184372088832 then ((some (List.replicate 12 0 : List Int)).bind fun y465 => (if bt457.1 ≥ 5000 then (spread_Of.j1 k bt457.1 x2 x453000 x453001 x453002 x453003 x453004 x453005 bt457.1 bt457.2.1 bt457.2.2.1 bt457.2.2.2.1 y465) else (spread_Of.j1 k bt457.1 false x453000 x453001 x453002 x453003 x453004 x453005 bt457.1 bt457.2.1 bt457.2.2.1 bt457.2.2.2.1 y465))) else (none))))
def spread_Of.j1 : Nat → Int → Bool → Int → Int → Int → Int → Int → List Int → Int → Int → Int → Int → List Int → Option (Int × Int × Int × Int × List Int × Option Int)
 | 0, _, _, _, _, _, _, _, _, _, _, _, _, _ => none
 | k + 1, x9, x59, x453000, x453001, x453002, x453003, x453004, x453005, x465000, x465001, x465002, x465003, x465004 => if x59 = true then (spread_Of.j2 k 0 x453000 x453001 x453002 x453003 x453004 x453005 x465000 x465001 x465002 x465000 x465004) else (spread_Of.j2 k x9 x453000 x453001 x453002 x453003 x453004 x453005 x465000 x465001 x465002 x465003 x465004)
def spread_Of.j2 : Nat → Int → Int → Int → Int → Int → Int → List Int → Int → Int → Int → Int → List Int → Option (Int × Int × Int × Int × List Int × Option Int)
 | 0, _, _, _, _, _, _, _, _, _, _, _, _ => none
 | k + 1, x9, x453000, x453001, x453002, x453003, x453004, x453005, x465000, x465001, x465002, x465003, x465004 => if x465002 < x453001 then (spread_Of.j3 k x9 2 x465000 x465001 x465002 x465003 x465004) else (spread_Of.j3 k x9 12 x465000 x465001 x465002 x465003 x465004)
def spread_Of.j3 : Nat → Int → Int → Int → Int → Int → Int → List Int → Option (Int × Int × Int × Int × List Int × Option Int)
 | 0, _, _, _, _, _, _, _ => none
 | k + 1, x9, x10, x465000, x465001, x465002, x465003, x465004 => (spread_add.f k x465004 x9 12 (-1)).bind fun bt468 => (if bt468.1.isNone = true then ((spread_add.f k bt468.2 x465001 12 1).bind fun bt471 => (if bt471.1.isNone = true then ((spread_add.f k bt471.2 x465002 x10 1).bind fun bt474 => (if bt474.1.isNone = true then (some (x465000, x465001, x465002, x465003, bt474.2, none)) else (some (0, 0, 0, 0, ([] : List Int), some (bt474.1.getD 0))))) else (some (0, 0, 0, 0, ([] : List Int), some (bt471.1.getD 0))))) else (some (0, 0, 0, 0, ([] : List Int), some (bt468.1.getD 0))))
end
def spread_Of.f (k : Nat) (a0_0 : Int) (a0_1 : Int) (a0_2 : Int) (a0_3 : Int) (a0_4 : Int) (l0_5 : List Int) (a1 : Int) (a2 : Bool) : Option (Int × Int × Int × Int × List Int × Option Int) := if a0_1 < 0 then (spread_Of.j0 k a1 a2 true a0_0 a0_1 a0_2 a0_3 a0_4 l0_5) else ((spread_within.f a0_1).bind fun t454 => (if t454 = true then ((spread_within.f a0_3).bind fun t455 => (if t455 = true then ((spread_within.f a1).bind fun t456 => (spread_Of.j0 k a1 a2 (!t456) a0_0 a0_1 a0_2 a0_3 a0_4 l0_5)) else (spread_Of.j0 k a1 a2 true a0_0 a0_1 a0_2 a0_3 a0_4 l0_5))) else (spread_Of.j0 k a1 a2 true a0_0 a0_1 a0_2 a0_3 a0_4 l0_5)))
theorem spread_Of.mono_l : ∀ k, (∀ y0 y1 y2 y3 y4 y5 y6 y7 y8, LeO (spread_Of.j0 k y0 y1 y2 y3 y4 y5 y6 y7 y8) (spread_Of.j0 (k + 1) y0 y1 y2 y3 y4 y5 y6 y7 y8)) ∧ (∀ y0 y1 y2 y3 y4 y5 y6 y7 y8 y9 y10 y11 y12, LeO (spread_Of.j1 k y0 y1 y2 y3 y4 y5 y6 y7 y8 y9 y10 y11 y12) (spread_Of.j1 (k + 1) y0 y1 y2 y3 y4 y5 y6 y7 y8 y9 y10 y11 y12)) ∧ (∀ y0 y1 y2 y3 y4 y5 y6 y7 y8 y9 y10 y11, LeO (spread_Of.j2 k y0 y1 y2 y3 y4 y5 y6 y7 y8 y9 y10 y11) (spread_Of.j2 (k + 1) y0 y1 y2 y3 y4 y5 y6 y7 y8 y9 y10 y11)) ∧ (∀ y0 y1 y2 y3 y4 y5 y6, LeO (spread_Of.j3 k y0 y1 y2 y3 y4 y5 y6) (spread_Of.j3 (k + 1) y0 y1 y2 y3 y4 y5 y6))
 | 0 => ⟨fun _ _ _ _ _ _ _ _ _ r h => by simp [spread_Of.j0] at h, fun _ _ _ _ _ _ _ _ _ _ _ _ _ r h => by simp [spread_Of.j1] at h, fun _ _ _ _ _ _ _ _ _ _ _ _ r h => by simp [spread_Of.j2] at h, fun _ _ _ _ _ _ _ r h => by simp [spread_Of.j3] at h⟩
 | k + 1 => by
  obtain ⟨ih0, ih1, ih2, ih3⟩ := spread_Of.mono_l k
  refine ⟨?_, ?_, ?_, ?_⟩
  ·intro y0 y1 y2 y3 y4 y5 y6 y7 y8
   unfold spread_Of.j0
   repeat' first
   | (with_reducible exact ih0 _ _ _ _ _ _ _ _ _)
   | (with_reducible exact ih1 _ _ _ _ _ _ _ _ _ _ _ _ _)
   | (with_reducible exact ih2 _ _ _ _ _ _ _ _ _ _ _ _)
   | (with_reducible exact ih3 _ _ _ _ _ _ _)
   | (with_reducible exact spread_add.mono _ _ _ _ _)
   | (with_reducible exact LeO.refl _)
   | (with_reducible exact LeO.none _)
   | (with_reducible refine LeO.ite ?_ ?_)
   | (with_reducible refine LeO.bind ?_ (fun _ => ?_))
   | exact ih0 _ _ _ _ _ _ _ _ _
   | exact ih1 _ _ _ _ _ _ _ _ _ _ _ _ _
   | exact ih2 _ _ _ _ _ _ _ _ _ _ _ _
   | exact ih3 _ _ _ _ _ _ _
   | exact spread_add.mono _ _ _ _ _
   | exact LeO.none _
   | refine LeO.ite ?_ ?_
   | refine LeO.bind ?_ (fun _ => ?_)
  ·intro y0 y1 y2 y3 y4 y5 y6 y7 y8 y9 y10 y11 y12
   unfold spread_Of.j1
   repeat' first
   | (with_reducible exact ih0 _ _ _ _ _ _ _ _ _)
   | (with_reducible exact ih1 _ _ _ _ _ _ _ _ _ _ _ _ _)
   | (with_reducible exact ih2 _ _ _ _ _ _ _ _ _ _ _ _)
   | (with_reducible exact ih3 _ _ _ _ _ _ _)
   | (with_reducible exact spread_add.mono _ _ _ _ _)
   | (with_reducible exact LeO.refl _)
   | (with_reducible exact LeO.none _)
   | (with_reducible refine LeO.ite ?_ ?_)
   | (with_reducible refine LeO.bind ?_ (fun _ => ?_))
   | exact ih0 _ _ _ _ _ _ _ _ _
   | exact ih1 _ _ _ _ _ _ _ _ _ _ _ _ _
   | exact ih2 _ _ _ _ _ _ _ _ _ _ _ _
   | exact ih3 _ _ _ _ _ _ _
   | exact spread_add.mono _ _ _ _ _
   | exact LeO.none _
   | refine LeO.ite ?_ ?_
   | refine LeO.bind ?_ (fun _ => ?_)
  ·intro y0 y1 y2 y3 y4 y5 y6 y7 y8 y9 y10 y11
   unfold spread_Of.j2
   repeat' first
   | (with_reducible exact ih0 _ _ _ _ _ _ _ _ _)
   | (with_reducible exact ih1 _ _ _ _ _ _ _ _ _ _ _ _ _)
   | (with_reducible exact ih2 _ _ _ _ _ _ _ _ _ _ _ _)
   | (with_reducible exact ih3 _ _ _ _ _ _ _)
   | (with_reducible exact spread_add.mono _ _ _ _ _)
   | (with_reducible exact LeO.refl _)
   | (with_reducible exact LeO.none _)
   | (with_reducible refine LeO.ite ?_ ?_)
   | (with_reducible refine LeO.bind ?_ (fun _ => ?_))
   | exact ih0 _ _ _ _ _ _ _ _ _
   | exact ih1 _ _ _ _ _ _ _ _ _ _ _ _ _
   | exact ih2 _ _ _ _ _ _ _ _ _ _ _ _
   | exact ih3 _ _ _ _ _ _ _
   | exact spread_add.mono _ _ _ _ _
   | exact LeO.none _
   | refine LeO.ite ?_ ?_
   | refine LeO.bind ?_ (fun _ => ?_)
  ·intro y0 y1 y2 y3 y4 y5 y6
   unfold spread_Of.j3
   repeat' first
   | (with_reducible exact ih0 _ _ _ _ _ _ _ _ _)
   | (with_reducible exact ih1 _ _ _ _ _ _ _ _ _ _ _ _ _)
   | (with_reducible exact ih2 _ _ _ _ _ _ _ _ _ _ _ _)
   | (with_reducible exact ih3 _ _ _ _ _ _ _)
   | (with_reducible exact spread_add.mono _ _ _ _ _)
   | (with_reducible exact LeO.refl _)
   | (with_reducible exact LeO.none _)
   | (with_reducible refine LeO.ite ?_ ?_)
   | (with_reducible refine LeO.bind ?_ (fun _ => ?_))
   | exact ih0 _ _ _ _ _ _ _ _ _
   | exact ih1 _ _ _ _ _ _ _ _ _ _ _ _ _
   | exact ih2 _ _ _ _ _ _ _ _ _ _ _ _
   | exact ih3 _ _ _ _ _ _ _
   | exact spread_add.mono _ _ _ _ _
   | exact LeO.none _
   | refine LeO.ite ?_ ?_
   | refine LeO.bind ?_ (fun _ => ?_)
theorem spread_Of.mono : ∀ a0 a1 a2 a3 a4 a5 a6 a7 k, LeO (spread_Of.f k a0 a1 a2 a3 a4 a5 a6 a7) (spread_Of.f (k + 1) a0 a1 a2 a3 a4 a5 a6 a7) := by
 intro a0 a1 a2 a3 a4 a5 a6 a7 k
 obtain ⟨ih0, ih1, ih2, ih3⟩ := spread_Of.mono_l k
 unfold spread_Of.f
 repeat' first
   | (with_reducible exact ih0 _ _ _ _ _ _ _ _ _)
   | (with_reducible exact ih1 _ _ _ _ _ _ _ _ _ _ _ _ _)
   | (with_reducible exact ih2 _ _ _ _ _ _ _ _ _ _ _ _)
   | (with_reducible exact ih3 _ _ _ _ _ _ _)
   | (with_reducible exact spread_add.mono _ _ _ _ _)
   | (with_reducible exact LeO.refl _)
   | (with_reducible exact LeO.none _)
   | (with_reducible refine LeO.ite ?_ ?_)
   | (with_reducible refine LeO.bind ?_ (fun _ => ?_))
   | exact ih0 _ _ _ _ _ _ _ _ _
   | exact ih1 _ _ _ _ _ _ _ _ _ _ _ _ _
   | exact ih2 _ _ _ _ _ _ _ _ _ _ _ _
   | exact ih3 _ _ _ _ _ _ _
   | exact spread_add.mono _ _ _ _ _
   | exact LeO.none _
   | refine LeO.ite ?_ ?_
   | refine LeO.bind ?_ (fun _ => ?_)
set_option maxHeartbeats 8000000 in
set_option maxRecDepth 100000 in
theorem spread_Of.calls (k : Nat) (a0_0 : Int) (a0_1 : Int) (a0_2 : Int) (a0_3 : Int) (a0_4 : Int) (A0_5 : Option Addr) (c0_5 : Nat) (l0_5 : List Int) (a1 : Int) (a2 : Bool) (r1 : Int) (r2 : Int) (r3 : Int) (r4 : Int) (r5 : List Int) (r6 : Option Int) (w : World) (hr0_5 : Kd.C (Kd.int .i64) w A0_5 l0_5.length l0_5) (hc0_5 : l0_5.length ≤ c0_5) (h : spread_Of.f k a0_0 a0_1 a0_2 a0_3 a0_4 l0_5 a1 a2 = some (r1, r2, r3, r4, r5, r6)) :
  Calls Try.prog 9 #[.agg #[.int .i64 a0_0, .int .i64 a0_1, .int .i64 a0_2, .int .i64 a0_3, .int .i64 a0_4, .slice A0_5 l0_5.length c0_5], .int .i64 a1, .bool a2] w fun e w' => ∃ v4_ : Value, e = .returned (.tuple #[.agg #[.int .i64 r1, .int .i64 r2, .int .i64 r3, .int .i64 r4, v4_], errW r6]) ∧ Kd.R (Kd.int .i64) 2 w' w.heap.size (fun _ => True) v4_ r5 ∧ Below w.heap.size w w' := by
 have hu24 := Try.underlying24
 have hu27 := Try.underlying27
 have hu29 := Try.underlying29
 have hu34 := Try.underlying34
 have HR0_5 := ka hr0_5
 have HC0_5 := ka hc0_5
 clear hr0_5 hc0_5
 have HB := ka (Below.refl w.heap.size w)
 have H : (if a0_1 < 0 then (spread_Of.j0 k a1 a2 true a0_0 a0_1 a0_2 a0_3 a0_4 l0_5) else ((spread_within.f a0_1).bind fun t454 => (if t454 = true then ((spread_within.f a0_3).bind fun t455 => (if t455 = true then ((spread_within.f a1).bind fun t456 => (spread_Of.j0 k a1 a2 (!t456) a0_0 a0_1 a0_2 a0_3 a0_4 l0_5)) else (spread_Of.j0 k a1 a2 true a0_0 a0_1 a0_2 a0_3 a0_4 l0_5))) else (spread_Of.j0 k a1 a2 true a0_0 a0_1 a0_2 a0_3 a0_4 l0_5)))) = some (r1, r2, r3, r4, r5, r6) := h
 clear h
 have HC4 := ka H
 clear H
 go_enter Try.func9, Try.ntmps9
 go_upto_region 1 with (first | ((with_reducible refine gate_dst (N := 3) rfl ?_); refine kx (N := 3) (cs := #[.int .i64 a0_0, .int .i64 a0_1, .int .i64 a0_2, .int .i64 a0_3, .int .i64 a0_4, .slice A0_5 l0_5.length c0_5]) (t := 24) ?_; intro gb452 hg w5 hbox hb; have n0_ := ka (below_step (kw HB.out) hb); have n1_ := ka (hbox); have n2_ := ka ((by rw [hg]; exact (below_size (kw HB.out)) : w.heap.size ≤ gb452)); have n3_ := n2_; clear HB; have HB := n0_; have BK452 := n1_; have GW452 := n2_; have GE452 := n3_; clear n0_ n1_ n2_ n3_; clear hb hbox hg) | ((with_reducible refine gate_dst (N := 6) rfl ?_); refine kx (N := 6) (cs := #[.int .i64 0, .int .i64 0, .int .i64 0, .int .i64 0, .slice none 0 0]) (t := 27) ?_; intro gb453 hg w6 hbox hb; have n0_ := ka (blk_below (g := gb452) (kz BK452.out) hb); have n1_ := ka (below_step (kw HB.out) hb); have n2_ := ka (hbox); have n3_ := ka ((by rw [hg]; exact (below_size (kw HB.out)) : w.heap.size ≤ gb453)); have n4_ := n3_; have n5_ := ka ((by rw [hg]; exact Nat.ne_of_lt (blk_lt (g := gb452) (kz BK452.out)) : gb452 ≠ gb453)); have n6_ := ka n5_.out.symm; clear BK452; clear HB; have BK452 := n0_; have HB := n1_; have BK453 := n2_; have GW453 := n3_; have GE453 := n4_; have NB452_453 := n5_; have NB453_452 := n6_; clear n0_ n1_ n2_ n3_ n4_ n5_ n6_; clear hb hbox hg))
 (try simp only [Act.put, List.setIfInBounds_toArray, List.set_cons_zero, List.set_cons_succ])
 go_cut [33] (fun v33 wc => ∃ (kq : Nat) (x33_3 : Bool), v33 = .bool x33_3 ∧ Aside0 (spread_Of.j0 kq a1 a2 x33_3 a0_0 a0_1 a0_2 a0_3 a0_4 l0_5 = some (r1, r2, r3, r4, r5, r6)) ∧ Aside0 (kq ≤ k) ∧ Aside0 (wc.heap[gb452]? = some (.cells #[.int .i64 a0_0, .int .i64 a0_1, .int .i64 a0_2, .int .i64 a0_3, .int .i64 a0_4, (.slice A0_5 l0_5.length c0_5)] 24 (0, 0))) ∧ Aside0 (wc.heap[gb453]? = some (.cells #[.int .i64 0, .int .i64 0, .int .i64 0, .int .i64 0, (.slice none 0 0)] 27 (0, 0))) ∧ Aside0 (Below w.heap.size w wc))
 case first =>
  have H := HC4.out
  clear HC4
  by_cases c7 : a0_1 < 0
  ·rw [if_pos c7] at H
   have c7b0 : decide (a0_1 < 0) = true := decide_eq_true c7
   clear c7
   (first | rw [c7b0] | (simp only [i64_w, i32_w]; rw [c7b0]) | skip)
   have H' := ka H
   clear H
   have hnb8 := NB452_453.out
   have hnc8 := NB453_452.out
   have hcz9 := blkAll6 BK452.out
   go_wp2
   go_meet
   case rel => exact ⟨_, (true), (by first | rfl | (simp; done) | (simp [*]; done)), H', ⟨by first | omega | exact Nat.le_refl _⟩, ⟨by (with_reducible repeat (first | apply kb1 | apply kb2 | apply kb3)); exact BK452.out⟩, ⟨by (with_reducible repeat (first | apply kb1 | apply kb2 | apply kb3)); exact BK453.out⟩, ⟨by repeat (first | (with_reducible first | exact HB.out | apply kc1 | apply kc2 | apply kc3 | refine kc4 ?_ GE452.out | refine kc4 ?_ GE453.out) | exact HB.out)⟩⟩
  ·rw [if_neg c7] at H
   have c7b0 : decide (a0_1 < 0) = false := decide_eq_false c7
   clear c7
   (first | rw [c7b0] | (simp only [i64_w, i32_w]; rw [c7b0]) | skip)
   replace H := Option.bind_eq_some_iff.mp H
   obtain ⟨t454, A100, H⟩ := H
   replace H : (if t454 = true then ((spread_within.f a0_3).bind fun t455 => (if t455 = true then ((spread_within.f a1).bind fun t456 => (spread_Of.j0 k a1 a2 (!t456) a0_0 a0_1 a0_2 a0_3 a0_4 l0_5)) else (spread_Of.j0 k a1 a2 true a0_0 a0_1 a0_2 a0_3 a0_4 l0_5))) else (spread_Of.j0 k a1 a2 true a0_0 a0_1 a0_2 a0_3 a0_4 l0_5)) = some (r1, r2, r3, r4, r5, r6) := H
   have A10 := ka A100
   clear A100
   by_cases c11 : t454 = true
   ·subst c11
    have H1 : ((spread_within.f a0_3).bind fun t455 => (if t455 = true then ((spread_within.f a1).bind fun t456 => (spread_Of.j0 k a1 a2 (!t456) a0_0 a0_1 a0_2 a0_3 a0_4 l0_5)) else (spread_Of.j0 k a1 a2 true a0_0 a0_1 a0_2 a0_3 a0_4 l0_5))) = some (r1, r2, r3, r4, r5, r6) := by rw [if_pos rfl] at H; exact H
    clear H
    have H := H1
    clear H1
    replace H := Option.bind_eq_some_iff.mp H
    obtain ⟨t455, A120, H⟩ := H
    replace H : (if t455 = true then ((spread_within.f a1).bind fun t456 => (spread_Of.j0 k a1 a2 (!t456) a0_0 a0_1 a0_2 a0_3 a0_4 l0_5)) else (spread_Of.j0 k a1 a2 true a0_0 a0_1 a0_2 a0_3 a0_4 l0_5)) = some (r1, r2, r3, r4, r5, r6) := H
    have A12 := ka A120
    clear A120
    by_cases c13 : t455 = true
    ·subst c13
     have H1 : ((spread_within.f a1).bind fun t456 => (spread_Of.j0 k a1 a2 (!t456) a0_0 a0_1 a0_2 a0_3 a0_4 l0_5)) = some (r1, r2, r3, r4, r5, r6) := by rw [if_pos rfl] at H; exact H
     clear H
     have H := H1
     clear H1
     replace H := Option.bind_eq_some_iff.mp H
     obtain ⟨t456, A140, H⟩ := H
     replace H : (spread_Of.j0 k a1 a2 (!t456) a0_0 a0_1 a0_2 a0_3 a0_4 l0_5) = some (r1, r2, r3, r4, r5, r6) := H
     have A14 := ka A140
     clear A140
     have H' := ka H
     clear H
     have hnb15 := NB452_453.out
     have hnc15 := NB453_452.out
     have hcz16 := blkAll6 BK452.out
     go_wp2_with (first | (go_at_call 13; (with_reducible refine (spread_within.calls a0_1 true _ A10.out).mono ?_); rintro e w' ⟨rfl, ⟨nd, rfl⟩⟩) | (go_at_call 13; (with_reducible refine (spread_within.calls a0_3 true _ A12.out).mono ?_); rintro e w' ⟨rfl, ⟨nd, rfl⟩⟩) | (go_at_call 13; (with_reducible refine (spread_within.calls a1 t456 _ A14.out).mono ?_); rintro e w' ⟨rfl, ⟨nd, rfl⟩⟩))
     go_meet
     case rel => exact ⟨_, (!t456), (by first | rfl | (simp; done) | (simp [*]; done)), H', ⟨by first | omega | exact Nat.le_refl _⟩, ⟨by (with_reducible repeat (first | apply kb1 | apply kb2 | apply kb3)); exact BK452.out⟩, ⟨by (with_reducible repeat (first | apply kb1 | apply kb2 | apply kb3)); exact BK453.out⟩, ⟨by repeat (first | (with_reducible first | exact HB.out | apply kc1 | apply kc2 | apply kc3 | refine kc4 ?_ GE452.out | refine kc4 ?_ GE453.out) | exact HB.out)⟩⟩
    ·replace c13 := Bool.eq_false_iff.mpr c13
     subst c13
     have H1 : (spread_Of.j0 k a1 a2 true a0_0 a0_1 a0_2 a0_3 a0_4 l0_5) = some (r1, r2, r3, r4, r5, r6) := by rw [if_neg (show ¬ (false = true) by decide)] at H; exact H
     clear H
     have H := H1
     clear H1
     have H' := ka H
     clear H
     have hnb17 := NB452_453.out
     have hnc17 := NB453_452.out
     have hcz18 := blkAll6 BK452.out
     go_wp2_with (first | (go_at_call 13; (with_reducible refine (spread_within.calls a0_1 true _ A10.out).mono ?_); rintro e w' ⟨rfl, ⟨nd, rfl⟩⟩) | (go_at_call 13; (with_reducible refine (spread_within.calls a0_3 false _ A12.out).mono ?_); rintro e w' ⟨rfl, ⟨nd, rfl⟩⟩))
     go_meet
     case rel => exact ⟨_, (true), (by first | rfl | (simp; done) | (simp [*]; done)), H', ⟨by first | omega | exact Nat.le_refl _⟩, ⟨by (with_reducible repeat (first | apply kb1 | apply kb2 | apply kb3)); exact BK452.out⟩, ⟨by (with_reducible repeat (first | apply kb1 | apply kb2 | apply kb3)); exact BK453.out⟩, ⟨by repeat (first | (with_reducible first | exact HB.out | apply kc1 | apply kc2 | apply kc3 | refine kc4 ?_ GE452.out | refine kc4 ?_ GE453.out) | exact HB.out)⟩⟩
   ·replace c11 := Bool.eq_false_iff.mpr c11
    subst c11
    have H1 : (spread_Of.j0 k a1 a2 true a0_0 a0_1 a0_2 a0_3 a0_4 l0_5) = some (r1, r2, r3, r4, r5, r6) := by rw [if_neg (show ¬ (false = true) by decide)] at H; exact H
    clear H
    have H := H1
    clear H1
    have H' := ka H
    clear H
    have hnb19 := NB452_453.out
    have hnc19 := NB453_452.out
    have hcz20 := blkAll6 BK452.out
    go_wp2_with (first | (go_at_call 13; (with_reducible refine (spread_within.calls a0_1 false _ A10.out).mono ?_); rintro e w' ⟨rfl, ⟨nd, rfl⟩⟩))
    go_meet
    case rel => exact ⟨_, (true), (by first | rfl | (simp; done) | (simp [*]; done)), H', ⟨by first | omega | exact Nat.le_refl _⟩, ⟨by (with_reducible repeat (first | apply kb1 | apply kb2 | apply kb3)); exact BK452.out⟩, ⟨by (with_reducible repeat (first | apply kb1 | apply kb2 | apply kb3)); exact BK453.out⟩, ⟨by repeat (first | (with_reducible first | exact HB.out | apply kc1 | apply kc2 | apply kc3 | refine kc4 ?_ GE452.out | refine kc4 ?_ GE453.out) | exact HB.out)⟩⟩
 case rest =>
  clear HC4
  try clear c1
  try clear p2
  try clear c7
  try clear c7b0
  try clear c8
  try clear c9
  try clear c11
  try clear c13
  try clear c15
  try clear c17
  try clear c19
  try clear hcz16
  try clear hcz18
  try clear hcz20
  try clear hcz9
  obtain ⟨kq, x33_3, rfl, HA, HJ3, BK452, BK453, HB⟩ := hcut
  cases kq with
  | zero => exact absurd HA.out (by simp [spread_Of.j0])
  | succ kj3 =>
   have H := HA.out
   clear HA
   simp only [spread_Of.j0] at H
   by_cases c21 : x33_3 = true
   ·subst c21
    have H1 : (some (0, 0, 0, 0, ([] : List Int), some 1)) = some (r1, r2, r3, r4, r5, r6) := by rw [if_pos rfl] at H; exact H
    clear H
    have H := H1
    clear H1
    simp only [Option.some.injEq, Prod.mk.injEq] at H
    obtain ⟨rfl, rfl, rfl, rfl, rfl, rfl⟩ := H
    have hnb22 := NB453_452.out
    have hnc22 := NB452_453.out
    have hcz23 := blkAll5 BK453.out
    go_wp2
    refine bodyPost_ret (results_ct rfl _ _ gb453 27 #[.int .i64 0, .int .i64 0, .int .i64 0, .int .i64 0, .slice none 0 0] (0, 0) _ rfl (by (with_reducible repeat (first | apply kb1 | apply kb2 | apply kb3 | apply blkPut5_4 | apply blkPut5_3 | apply blkPut5_2 | apply blkPut5_1 | apply blkPut5_0)); exact BK453.out) Try.underlying27 rfl (by kernel_rfl)) rfl ?_
    exact ⟨_, by first | rfl | (simp [errW_none, errW_some] <;> rfl) | (simp [*, errW_none, errW_some] <;> rfl), by first | exact Kd.R_nil _ _ _ _ _ | exact Kd.N_nil _ _ _ _ _ | exact Kd.V_nil _ _ _ _ _ | exact Kd.Q_nil _ _ _ _ _ | exact Kd.S_nil _ _ _ _ _, by repeat (first | (with_reducible first | exact HB.out | apply kc1 | apply kc2 | apply kc3 | refine kc4 ?_ GE452.out | refine kc4 ?_ GE453.out) | exact HB.out)⟩
   ·replace c21 := Bool.eq_false_iff.mpr c21
    subst c21
    have H1 : ((spread_differs.f a0_3 a1).bind fun bt457 => (if (mx (mx bt457.1 bt457.2.1) bt457.2.2.1) > 10000000000000 then (some (0, 0, 0, 0, ([] : List Int), some 1)) else (if 12 ≤ 35184372088832 then ((some (List.replicate 12 0 : List Int)).bind fun y465 => (if bt457.1 ≥ 5000 then (spread_Of.j1 kj3 bt457.1 a2 a0_0 a0_1 a0_2 a0_3 a0_4 l0_5 bt457.1 bt457.2.1 bt457.2.2.1 bt457.2.2.2.1 y465) else (spread_Of.j1 kj3 bt457.1 false a0_0 a0_1 a0_2 a0_3 a0_4 l0_5 bt457.1 bt457.2.1 bt457.2.2.1 bt457.2.2.2.1 y465))) else (none)))) = some (r1, r2, r3, r4, r5, r6) := by rw [if_neg (show ¬ (false = true) by decide)] at H; exact H
    clear H
    have H := H1
    clear H1
    replace H := Option.bind_eq_some_iff.mp H
    obtain ⟨⟨t457, t458, t459, t460, t461⟩, A240, H⟩ := H
    replace H : (if (mx (mx t457 t458) t459) > 10000000000000 then (some (0, 0, 0, 0, ([] : List Int), some 1)) else (if 12 ≤ 35184372088832 then ((some (List.replicate 12 0 : List Int)).bind fun y465 => (if t457 ≥ 5000 then (spread_Of.j1 kj3 t457 a2 a0_0 a0_1 a0_2 a0_3 a0_4 l0_5 t457 t458 t459 t460 y465) else (spread_Of.j1 kj3 t457 false a0_0 a0_1 a0_2 a0_3 a0_4 l0_5 t457 t458 t459 t460 y465))) else (none))) = some (r1, r2, r3, r4, r5, r6) := H
    have A24 := ka A240
    clear A240
    obtain ⟨ji25, hji25⟩ : ∃ j_ : Int, (mx t457 t458) = j_ := ⟨_, rfl⟩
    replace H : (if (mx (ji25) t459) > 10000000000000 then (some (0, 0, 0, 0, ([] : List Int), some 1)) else (if 12 ≤ 35184372088832 then ((some (List.replicate 12 0 : List Int)).bind fun y465 => (if t457 ≥ 5000 then (spread_Of.j1 kj3 t457 a2 a0_0 a0_1 a0_2 a0_3 a0_4 l0_5 t457 t458 t459 t460 y465) else (spread_Of.j1 kj3 t457 false a0_0 a0_1 a0_2 a0_3 a0_4 l0_5 t457 t458 t459 t460 y465))) else (none))) = some (r1, r2, r3, r4, r5, r6) := by first | (rw [hji25] at H; exact H) | (simp only [hji25] at H ⊢; exact H)
    (try rw [hji25] at A24)
    have hji25_ : (if t457 < t458 then t458 else t457) = ji25 := hji25
    obtain ⟨ji26, hji26⟩ : ∃ j_ : Int, (mx (ji25) t459) = j_ := ⟨_, rfl⟩
    replace H : (if (ji26) > 10000000000000 then (some (0, 0, 0, 0, ([] : List Int), some 1)) else (if 12 ≤ 35184372088832 then ((some (List.replicate 12 0 : List Int)).bind fun y465 => (if t457 ≥ 5000 then (spread_Of.j1 kj3 t457 a2 a0_0 a0_1 a0_2 a0_3 a0_4 l0_5 t457 t458 t459 t460 y465) else (spread_Of.j1 kj3 t457 false a0_0 a0_1 a0_2 a0_3 a0_4 l0_5 t457 t458 t459 t460 y465))) else (none))) = some (r1, r2, r3, r4, r5, r6) := by first | (rw [hji26] at H; exact H) | (simp only [hji26] at H ⊢; exact H)
    (try rw [hji26] at A24)
    have hji26_ : (if (ji25) < t459 then t459 else (ji25)) = ji26 := hji26
    by_cases c27 : (ji26) > 10000000000000
    ·rw [if_pos c27] at H
     have c27b0 : decide (10000000000000 < (ji26)) = true := decide_eq_true c27
     clear c27
     simp only [Option.some.injEq, Prod.mk.injEq] at H
     obtain ⟨rfl, rfl, rfl, rfl, rfl, rfl⟩ := H
     have hnb28 := NB452_453.out
     have hnc28 := NB453_452.out
     have hcz29 := blkAll6 BK452.out
     go_wp2_with (first | ((with_reducible refine gate_callee (f := 14) rfl ?_); refine kg (some 39) rfl rfl Try.func14 (by kernel_rfl) rfl #[.int .i64 a0_3, .int .i64 a1] rfl ?_; (with_reducible refine (spread_differs.calls a0_3 a1 t457 t458 t459 t460 t461 _ A24.out).mono ?_); rintro e w30 ⟨v462, rfl, ho0, hb⟩; refine ⟨_, rfl, ?_⟩; have HO463 := ka (Kd.R_lower ho0 (below_size (kw HB.out))); replace BK452 := kbb BK452 hb; replace BK453 := kbb BK453 hb; replace HB := ka (below_step (kw HB.out) hb); (try clear hb); (try clear hb2); (try clear hk); (try clear hi); (try clear ho0)) | ((with_reducible refine gate_dst (N := 8) rfl ?_); refine kx (N := 8) (cs := #[.int .i64 0, .int .i64 0, .int .i64 0, .int .i64 0, .slice none 0 0]) (t := 27) ?_; intro gb464 hg w31 hbox hb; have n0_ := ka (Kd.R_below (kr HO463.out) hb); have n1_ := ka (blk_below (g := gb452) (kz BK452.out) hb); have n2_ := ka (blk_below (g := gb453) (kz BK453.out) hb); have n3_ := ka (below_step (kw HB.out) hb); have n4_ := ka (hbox); have n5_ := ka ((by rw [hg]; exact (below_size (kw HB.out)) : w.heap.size ≤ gb464)); have n6_ := n5_; have n7_ := ka ((by rw [hg]; exact Nat.ne_of_lt (blk_lt (g := gb452) (kz BK452.out)) : gb452 ≠ gb464)); have n8_ := ka n7_.out.symm; have n9_ := ka ((by rw [hg]; exact Nat.ne_of_lt (blk_lt (g := gb453) (kz BK453.out)) : gb453 ≠ gb464)); have n10_ := ka n9_.out.symm; clear HO463; clear BK452; clear BK453; clear HB; have HO463 := n0_; have BK452 := n1_; have BK453 := n2_; have HB := n3_; have BK464 := n4_; have GW464 := n5_; have GE464 := n6_; have NB452_464 := n7_; have NB464_452 := n8_; have NB453_464 := n9_; have NB464_453 := n10_; clear n0_ n1_ n2_ n3_ n4_ n5_ n6_ n7_ n8_ n9_ n10_; clear hb hbox hg; have hnb32 := NB464_452.out; have hnc32 := NB452_464.out; have hnb33 := NB464_453.out; have hnc33 := NB453_464.out; have hcz34 := blkAll5 BK464.out; obtain ⟨Ao35, co35, eo35⟩ := Kd.R_slice HO463.out; subst eo35; have hcz36 := blkAll5 BK453.out))
     refine bodyPost_ret (results_ct rfl _ _ gb453 27 #[.int .i64 0, .int .i64 0, .int .i64 0, .int .i64 0, .slice none 0 0] (0, 0) _ rfl (by (with_reducible repeat (first | apply kb1 | apply kb2 | apply kb3 | apply blkPut5_4 | apply blkPut5_3 | apply blkPut5_2 | apply blkPut5_1 | apply blkPut5_0 | refine kb4 ?_ NB453_464.out _)); exact BK453.out) Try.underlying27 rfl (by kernel_rfl)) rfl ?_
     exact ⟨_, by first | rfl | (simp [errW_none, errW_some] <;> rfl) | (simp only [← hji25, ← hji26]; first | rfl | (simp [errW_none, errW_some] <;> rfl)) | (simp [*, errW_none, errW_some] <;> rfl), by first | exact Kd.R_nil _ _ _ _ _ | exact Kd.N_nil _ _ _ _ _ | exact Kd.V_nil _ _ _ _ _ | exact Kd.Q_nil _ _ _ _ _ | exact Kd.S_nil _ _ _ _ _, by repeat (first | (with_reducible first | exact HB.out | apply kc1 | apply kc2 | apply kc3 | refine kc4 ?_ GE452.out | refine kc4 ?_ GE453.out | refine kc4 ?_ GE464.out) | exact HB.out)⟩
    ·rw [if_neg c27] at H
     have c27b0 : decide (10000000000000 < (ji26)) = false := decide_eq_false c27
     clear c27
     by_cases c37 : 12 ≤ 35184372088832
     ·rw [if_pos c37] at H
      have c37b0 := eq_true c37
      have c37b1 : decide (12 ≤ 35184372088832) = true := decide_eq_true c37
      clear c37
      obtain ⟨y465, hy465⟩ : ∃ y_ : List Int, y_ = (List.replicate 12 0) := ⟨_, rfl⟩
      replace H : (if t457 ≥ 5000 then (spread_Of.j1 kj3 t457 a2 a0_0 a0_1 a0_2 a0_3 a0_4 l0_5 t457 t458 t459 t460 y465) else (spread_Of.j1 kj3 t457 false a0_0 a0_1 a0_2 a0_3 a0_4 l0_5 t457 t458 t459 t460 y465)) = some (r1, r2, r3, r4, r5, r6) := by first | (rw [hy465]; with_reducible exact H) | (have H2_ := (Option.bind_some _ _).symm.trans H; rw [hy465]; with_reducible exact H2_) | (have H2_ := (Option.bind_some _ _).symm.trans H; with_reducible exact H2_) | with_reducible exact H | (rw [hy465]; exact H) | exact H
      have Ny465 := ka hy465
      clear hy465
      have HC38 := ka H
      clear H
      have hnb39 := NB452_453.out
      have hnc39 := NB453_452.out
      have hcz40 := blkAll6 BK452.out
      go_upto_region 8 with (first | ((with_reducible refine gate_callee (f := 14) rfl ?_); refine kg (some 39) rfl rfl Try.func14 (by kernel_rfl) rfl #[.int .i64 a0_3, .int .i64 a1] rfl ?_; (with_reducible refine (spread_differs.calls a0_3 a1 t457 t458 t459 t460 t461 _ A24.out).mono ?_); rintro e w41 ⟨v462, rfl, ho0, hb⟩; refine ⟨_, rfl, ?_⟩; have HO463 := ka (Kd.R_lower ho0 (below_size (kw HB.out))); replace BK452 := kbb BK452 hb; replace BK453 := kbb BK453 hb; replace HB := ka (below_step (kw HB.out) hb); (try clear hb); (try clear hb2); (try clear hk); (try clear hi); (try clear ho0)) | ((with_reducible refine gate_dst (N := 8) rfl ?_); refine kx (N := 8) (cs := #[.int .i64 0, .int .i64 0, .int .i64 0, .int .i64 0, .slice none 0 0]) (t := 27) ?_; intro gb464 hg w42 hbox hb; have n0_ := ka (Kd.R_below (kr HO463.out) hb); have n1_ := ka (blk_below (g := gb452) (kz BK452.out) hb); have n2_ := ka (blk_below (g := gb453) (kz BK453.out) hb); have n3_ := ka (below_step (kw HB.out) hb); have n4_ := ka (hbox); have n5_ := ka ((by rw [hg]; exact (below_size (kw HB.out)) : w.heap.size ≤ gb464)); have n6_ := n5_; have n7_ := ka ((by rw [hg]; exact Nat.ne_of_lt (blk_lt (g := gb452) (kz BK452.out)) : gb452 ≠ gb464)); have n8_ := ka n7_.out.symm; have n9_ := ka ((by rw [hg]; exact Nat.ne_of_lt (blk_lt (g := gb453) (kz BK453.out)) : gb453 ≠ gb464)); have n10_ := ka n9_.out.symm; clear HO463; clear BK452; clear BK453; clear HB; have HO463 := n0_; have BK452 := n1_; have BK453 := n2_; have HB := n3_; have BK464 := n4_; have GW464 := n5_; have GE464 := n6_; have NB452_464 := n7_; have NB464_452 := n8_; have NB453_464 := n9_; have NB464_453 := n10_; clear n0_ n1_ n2_ n3_ n4_ n5_ n6_ n7_ n8_ n9_ n10_; clear hb hbox hg; have hnb43 := NB464_452.out; have hnc43 := NB452_464.out; have hnb44 := NB464_453.out; have hnc44 := NB453_464.out; have hcz45 := blkAll5 BK464.out; obtain ⟨Ao46, co46, eo46⟩ := Kd.R_slice HO463.out; subst eo46) | ((with_reducible refine gate_dst (N := 50) rfl ?_); refine Kd.R_make (Kd.int .i64) _ 2 rfl (N := 50) rfl 22 _ _ rfl 12 rfl rfl Try.underlying22 (.int .i64 0) 8 info2 rfl (by decide) (by omega) 0 (ok := fun _ => True) (okp := fun _ => True) rfl (fun _ hk => hk) trivial (by omega) (by omega) (Below.refl _ _) (Nat.le_refl _) ?_; intro v466 w47 ho48 hb hg_ hnew_; clear hg_ hnew_; (first | rw [← Ny465.out] at ho48 | (simp only [Int.reduceToNat] at ho48; rw [← Ny465.out] at ho48)); have HO467 := ka (Kd.R_lower (Kd.R_new' ho48 (Kd.R_lt (kr ((Kd.R_mono (Kd.R_far (p := ⟨gb464, 4, none⟩) (Kd.R_far (p := ⟨gb464, 3, none⟩) (Kd.R_far (p := ⟨gb464, 2, none⟩) (Kd.R_far (p := ⟨gb464, 1, none⟩) (Kd.R_far (p := ⟨gb464, 0, none⟩) (Kd.R_types HO463.out BK464.out (by decide)) (fun _ hk => hk.2) (.int .i64 t457)) (fun _ hk => hk.2) (.int .i64 t458)) (fun _ hk => hk.2) (.int .i64 t459)) (fun _ hk => hk.2) (.int .i64 t460)) (fun _ hk => hk.2) (.slice Ao46 t461.length co46)) (fun _ h_ => h_.1)))))) (below_size (kw HB.out))); replace HO463 := ka (Kd.R_elder' (kr ((Kd.R_mono (Kd.R_far (p := ⟨gb464, 4, none⟩) (Kd.R_far (p := ⟨gb464, 3, none⟩) (Kd.R_far (p := ⟨gb464, 2, none⟩) (Kd.R_far (p := ⟨gb464, 1, none⟩) (Kd.R_far (p := ⟨gb464, 0, none⟩) (Kd.R_types HO463.out BK464.out (by decide)) (fun _ hk => hk.2) (.int .i64 t457)) (fun _ hk => hk.2) (.int .i64 t458)) (fun _ hk => hk.2) (.int .i64 t459)) (fun _ hk => hk.2) (.int .i64 t460)) (fun _ hk => hk.2) (.slice Ao46 t461.length co46)) (fun _ h_ => h_.1)))) (Kd.R_base ho48) hb); replace BK452 := ka (blk_below (g := gb452) (o := .cells #[.int .i64 a0_0, .int .i64 a0_1, .int .i64 a0_2, .int .i64 a0_3, .int .i64 a0_4, .slice A0_5 l0_5.length c0_5] 24 (0, 0)) (by (with_reducible repeat (first | apply kb1 | apply kb2 | apply kb3 | refine kb4 ?_ NB452_464.out _)); exact BK452.out) hb); replace BK453 := ka (blk_below (g := gb453) (o := .cells #[.int .i64 0, .int .i64 0, .int .i64 0, .int .i64 0, .slice none 0 0] 27 (0, 0)) (by (with_reducible repeat (first | apply kb1 | apply kb2 | apply kb3 | refine kb4 ?_ NB453_464.out _)); exact BK453.out) hb); replace BK464 := ka (blk_below (g := gb464) (o := .cells #[.int .i64 t457, .int .i64 t458, .int .i64 t459, .int .i64 t460, .slice Ao46 t461.length co46] 27 (0, 0)) (by (with_reducible repeat (first | apply kb1 | apply kb2 | apply kb3 | apply blkPut5_4 | apply blkPut5_3 | apply blkPut5_2 | apply blkPut5_1 | apply blkPut5_0)); exact BK464.out) hb); replace HB := ka (below_step (kw HB.out) hb); clear hb ho48; obtain ⟨Ao49, co49, eo49⟩ := Kd.R_slice HO467.out; subst eo49; have hcz50 := blkAll5 BK464.out))
      (try simp only [Act.put, List.setIfInBounds_toArray, List.set_cons_zero, List.set_cons_succ])
      go_cut [59] (fun v59 wc => ∃ (kq : Nat) (x59_37 : Bool), v59 = .bool x59_37 ∧ Aside0 (spread_Of.j1 kq t457 x59_37 a0_0 a0_1 a0_2 a0_3 a0_4 l0_5 t457 t458 t459 t460 y465 = some (r1, r2, r3, r4, r5, r6)) ∧ Aside0 (kq ≤ kj3) ∧ Aside0 (Kd.R (Kd.int .i64) 2 wc w.heap.size (fun _ => True) (.slice Ao49 y465.length co49) y465) ∧ Aside0 (wc.heap[gb452]? = some (.cells #[.int .i64 a0_0, .int .i64 a0_1, .int .i64 a0_2, .int .i64 a0_3, .int .i64 a0_4, (.slice A0_5 l0_5.length c0_5)] 24 (0, 0))) ∧ Aside0 (wc.heap[gb453]? = some (.cells #[.int .i64 0, .int .i64 0, .int .i64 0, .int .i64 0, (.slice none 0 0)] 27 (0, 0))) ∧ Aside0 (wc.heap[gb464]? = some (.cells #[.int .i64 t457, .int .i64 t458, .int .i64 t459, .int .i64 t460, (.slice Ao49 y465.length co49)] 27 (0, 0))) ∧ Aside0 (Below w.heap.size w wc))
      case first =>
       have H := HC38.out
       clear HC38
       by_cases c51 : t457 ≥ 5000
       ·rw [if_pos c51] at H
        have c51b0 : decide (5000 ≤ t457) = true := decide_eq_true c51
        clear c51
        (first | rw [c51b0] | (simp only [i64_w, i32_w]; rw [c51b0]) | skip)
        have H' := ka H
        clear H
        have hnb52 := NB464_452.out
        have hnc52 := NB452_464.out
        have hnb53 := NB464_453.out
        have hnc53 := NB453_464.out
        have hcz54 := blkAll5 BK464.out
        go_wp2
        go_meet
        case rel => exact ⟨_, (a2), (by first | rfl | (simp; done) | (simp [*]; done)), H', ⟨by have := HJ3.out; first | omega | exact Nat.le_refl _⟩, ⟨kr (Kd.R_mono (Kd.R_far (p := ⟨gb464, 4, none⟩) (Kd.R_types HO467.out BK464.out (by decide)) (fun _ hk => hk.2) (.slice Ao49 y465.length co49)) (fun _ hk => trivial))⟩, ⟨by (with_reducible repeat (first | apply kb1 | apply kb2 | apply kb3)); refine kb4 ?_ NB452_464.out _; (with_reducible repeat (first | apply kb1 | apply kb2 | apply kb3)); exact BK452.out⟩, ⟨by (with_reducible repeat (first | apply kb1 | apply kb2 | apply kb3)); refine kb4 ?_ NB453_464.out _; (with_reducible repeat (first | apply kb1 | apply kb2 | apply kb3)); exact BK453.out⟩, ⟨by (with_reducible repeat (first | apply kb1 | apply kb2 | apply kb3)); refine blk_put (cs := #[.int .i64 t457, .int .i64 t458, .int .i64 t459, .int .i64 t460, .slice Ao46 t461.length co46]) ?_ 4 _ rfl; (with_reducible repeat (first | apply kb1 | apply kb2 | apply kb3)); exact BK464.out⟩, ⟨by repeat (first | (with_reducible first | exact HB.out | apply kc1 | apply kc2 | apply kc3 | refine kc4 ?_ GE452.out | refine kc4 ?_ GE453.out | refine kc4 ?_ GE464.out) | exact HB.out)⟩⟩
       ·rw [if_neg c51] at H
        have c51b0 : decide (5000 ≤ t457) = false := decide_eq_false c51
        clear c51
        (first | rw [c51b0] | (simp only [i64_w, i32_w]; rw [c51b0]) | skip)
        have H' := ka H
        clear H
        have hnb55 := NB464_452.out
        have hnc55 := NB452_464.out
        have hnb56 := NB464_453.out
        have hnc56 := NB453_464.out
        have hcz57 := blkAll5 BK464.out
        go_wp2
        go_meet
        case rel => exact ⟨_, (false), (by first | rfl | (simp; done) | (simp [*]; done)), H', ⟨by have := HJ3.out; first | omega | exact Nat.le_refl _⟩, ⟨kr (Kd.R_mono (Kd.R_far (p := ⟨gb464, 4, none⟩) (Kd.R_types HO467.out BK464.out (by decide)) (fun _ hk => hk.2) (.slice Ao49 y465.length co49)) (fun _ hk => trivial))⟩, ⟨by (with_reducible repeat (first | apply kb1 | apply kb2 | apply kb3)); refine kb4 ?_ NB452_464.out _; (with_reducible repeat (first | apply kb1 | apply kb2 | apply kb3)); exact BK452.out⟩, ⟨by (with_reducible repeat (first | apply kb1 | apply kb2 | apply kb3)); refine kb4 ?_ NB453_464.out _; (with_reducible repeat (first | apply kb1 | apply kb2 | apply kb3)); exact BK453.out⟩, ⟨by (with_reducible repeat (first | apply kb1 | apply kb2 | apply kb3)); refine blk_put (cs := #[.int .i64 t457, .int .i64 t458, .int .i64 t459, .int .i64 t460, .slice Ao46 t461.length co46]) ?_ 4 _ rfl; (with_reducible repeat (first | apply kb1 | apply kb2 | apply kb3)); exact BK464.out⟩, ⟨by repeat (first | (with_reducible first | exact HB.out | apply kc1 | apply kc2 | apply kc3 | refine kc4 ?_ GE452.out | refine kc4 ?_ GE453.out | refine kc4 ?_ GE464.out) | exact HB.out)⟩⟩
      case rest =>
       clear HC38
       try clear c1
       try clear c2
       try clear p2
       try clear c3
       try clear c4
       try clear c5
       try clear c7
       try clear c7b0
       try clear c8
       try clear c9
       try clear c11
       try clear c13
       try clear c14
       try clear c15
       try clear c17
       try clear c19
       try clear c21
       try clear c22
       try clear c27
       try clear c27b0
       try clear c28
       try clear c32
       try clear c33
       try clear c37
       try clear c37b0
       try clear c37b1
       try clear c39
       try clear c43
       try clear c44
       try clear c51
       try clear c51b0
       try clear c52
       try clear c53
       try clear c55
       try clear c56
       try clear hcz16
       try clear hcz18
       try clear hcz20
       try clear hcz23
       try clear hcz29
       try clear hcz34
       try clear hcz36
       try clear hcz40
       try clear hcz45
       try clear hcz50
       try clear hcz54
       try clear hcz57
       try clear hcz9
       try clear p2
       obtain ⟨kq, x59_37, rfl, HA, HJ37, HO_465004, BK452, BK453, BK464, HB⟩ := hcut
       cases kq with
       | zero => exact absurd HA.out (by simp [spread_Of.j1])
       | succ kj37 =>
        have H := HA.out
        clear HA
        simp only [spread_Of.j1] at H
        have HC58 := ka H
        clear H
        go_upto_if 59 with (fail)
        go_cut [9] (fun v9 wc => ∃ (kq : Nat) (x9_57 : Int) (x465003_57 : Int), v9 = .int .i64 x9_57 ∧ Aside0 (spread_Of.j2 kq x9_57 a0_0 a0_1 a0_2 a0_3 a0_4 l0_5 t457 t458 t459 x465003_57 y465 = some (r1, r2, r3, r4, r5, r6)) ∧ Aside0 (kq ≤ kj37) ∧ Aside0 (Kd.R (Kd.int .i64) 2 wc w.heap.size (fun _ => True) (.slice Ao49 y465.length co49) y465) ∧ Aside0 (wc.heap[gb452]? = some (.cells #[.int .i64 a0_0, .int .i64 a0_1, .int .i64 a0_2, .int .i64 a0_3, .int .i64 a0_4, (.slice A0_5 l0_5.length c0_5)] 24 (0, 0))) ∧ Aside0 (wc.heap[gb453]? = some (.cells #[.int .i64 0, .int .i64 0, .int .i64 0, .int .i64 0, (.slice none 0 0)] 27 (0, 0))) ∧ Aside0 (wc.heap[gb464]? = some (.cells #[.int .i64 t457, .int .i64 t458, .int .i64 t459, .int .i64 x465003_57, (.slice Ao49 y465.length co49)] 27 (0, 0))) ∧ Aside0 (Below w.heap.size w wc))
        case first =>
         have H := HC58.out
         clear HC58
         by_cases c59 : x59_37 = true
         ·subst c59
          have H1 : (spread_Of.j2 kj37 0 a0_0 a0_1 a0_2 a0_3 a0_4 l0_5 t457 t458 t459 t457 y465) = some (r1, r2, r3, r4, r5, r6) := by rw [if_pos rfl] at H; exact H
          clear H
          have H := H1
          clear H1
          have H' := ka H
          clear H
          have hnb60 := NB464_452.out
          have hnc60 := NB452_464.out
          have hnb61 := NB464_453.out
          have hnc61 := NB453_464.out
          have hcz62 := blkAll5 BK464.out
          go_wp2
          go_meet
          case rel => exact ⟨_, (0), (t457), (by first | rfl | (simp; done) | (simp [*]; done)), H', ⟨by have := HJ3.out; have := HJ37.out; first | omega | exact Nat.le_refl _⟩, ⟨kr (Kd.R_mono (Kd.R_far (p := ⟨gb464, 3, none⟩) (Kd.R_types HO_465004.out BK464.out (by decide)) (fun _ hk => hk.2) (.int .i64 t457)) (fun _ hk => trivial))⟩, ⟨by (with_reducible repeat (first | apply kb1 | apply kb2 | apply kb3)); refine kb4 ?_ NB452_464.out _; (with_reducible repeat (first | apply kb1 | apply kb2 | apply kb3)); exact BK452.out⟩, ⟨by (with_reducible repeat (first | apply kb1 | apply kb2 | apply kb3)); refine kb4 ?_ NB453_464.out _; (with_reducible repeat (first | apply kb1 | apply kb2 | apply kb3)); exact BK453.out⟩, ⟨by (with_reducible repeat (first | apply kb1 | apply kb2 | apply kb3)); refine blk_put (cs := #[.int .i64 t457, .int .i64 t458, .int .i64 t459, .int .i64 t460, .slice Ao49 y465.length co49]) ?_ 3 _ rfl; (with_reducible repeat (first | apply kb1 | apply kb2 | apply kb3)); exact BK464.out⟩, ⟨by repeat (first | (with_reducible first | exact HB.out | apply kc1 | apply kc2 | apply kc3 | refine kc4 ?_ GE452.out | refine kc4 ?_ GE453.out | refine kc4 ?_ GE464.out) | exact HB.out)⟩⟩
         ·replace c59 := Bool.eq_false_iff.mpr c59
          subst c59
          have H1 : (spread_Of.j2 kj37 t457 a0_0 a0_1 a0_2 a0_3 a0_4 l0_5 t457 t458 t459 t460 y465) = some (r1, r2, r3, r4, r5, r6) := by rw [if_neg (show ¬ (false = true) by decide)] at H; exact H
          clear H
          have H := H1
          clear H1
          have H' := ka H
          clear H
          go_wp2
          go_meet
          case rel => exact ⟨_, (t457), (t460), (by first | rfl | (simp; done) | (simp [*]; done)), H', ⟨by have := HJ3.out; have := HJ37.out; first | omega | exact Nat.le_refl _⟩, ⟨kr HO_465004.out⟩, ⟨by (with_reducible repeat (first | apply kb1 | apply kb2 | apply kb3)); exact BK452.out⟩, ⟨by (with_reducible repeat (first | apply kb1 | apply kb2 | apply kb3)); exact BK453.out⟩, ⟨by (with_reducible repeat (first | apply kb1 | apply kb2 | apply kb3)); exact BK464.out⟩, ⟨by repeat (first | (with_reducible first | exact HB.out | apply kc1 | apply kc2 | apply kc3 | refine kc4 ?_ GE452.out | refine kc4 ?_ GE453.out | refine kc4 ?_ GE464.out) | exact HB.out)⟩⟩
        case rest =>
         clear HC58
         try clear c1
         try clear c2
         try clear p2
         try clear c3
         try clear c4
         try clear c5
         try clear c6
         try clear c7
         try clear c7b0
         try clear c8
         try clear c9
         try clear c11
         try clear c13
         try clear c14
         try clear c15
         try clear c17
         try clear c19
         try clear c21
         try clear c22
         try clear c27
         try clear c27b0
         try clear c28
         try clear c32
         try clear c33
         try clear c37
         try clear c37b0
         try clear c37b1
         try clear c39
         try clear c43
         try clear c44
         try clear c51
         try clear c51b0
         try clear c52
         try clear c53
         try clear c55
         try clear c56
         try clear c59
         try clear c60
         try clear c61
         try clear hcz16
         try clear hcz18
         try clear hcz20
         try clear hcz23
         try clear hcz29
         try clear hcz34
         try clear hcz36
         try clear hcz40
         try clear hcz45
         try clear hcz50
         try clear hcz54
         try clear hcz57
         try clear hcz62
         try clear hcz9
         try clear p2
         obtain ⟨kq, x9_57, x465003_57, rfl, HA, HJ57, HO_465004, BK452, BK453, BK464, HB⟩ := hcut
         cases kq with
         | zero => exact absurd HA.out (by simp [spread_Of.j2])
         | succ kj57 =>
          have H := HA.out
          clear HA
          simp only [spread_Of.j2] at H
          have HC63 := ka H
          clear H
          have hnb64 := NB464_452.out
          have hnc64 := NB452_464.out
          have hnb65 := NB464_453.out
          have hnc65 := NB453_464.out
          have hcz66 := blkAll5 BK464.out
          have hnb67 := NB452_453.out
          have hnc67 := NB453_452.out
          have hcz68 := blkAll6 BK452.out
          go_upto_if 67 with (fail)
          go_cut [10] (fun v10 wc => ∃ (kq : Nat) (x10_62 : Int), v10 = .int .i64 x10_62 ∧ Aside0 (spread_Of.j3 kq x9_57 x10_62 t457 t458 t459 x465003_57 y465 = some (r1, r2, r3, r4, r5, r6)) ∧ Aside0 (kq ≤ kj57) ∧ Aside0 (Kd.R (Kd.int .i64) 2 wc w.heap.size (fun _ => True) (.slice Ao49 y465.length co49) y465) ∧ Aside0 (wc.heap[gb452]? = some (.cells #[.int .i64 a0_0, .int .i64 a0_1, .int .i64 a0_2, .int .i64 a0_3, .int .i64 a0_4, (.slice A0_5 l0_5.length c0_5)] 24 (0, 0))) ∧ Aside0 (wc.heap[gb453]? = some (.cells #[.int .i64 0, .int .i64 0, .int .i64 0, .int .i64 0, (.slice none 0 0)] 27 (0, 0))) ∧ Aside0 (wc.heap[gb464]? = some (.cells #[.int .i64 t457, .int .i64 t458, .int .i64 t459, .int .i64 x465003_57, (.slice Ao49 y465.length co49)] 27 (0, 0))) ∧ Aside0 (Below w.heap.size w wc))
          case first =>
           have H := HC63.out
           clear HC63
           by_cases c69 : t459 < a0_1
           ·rw [if_pos c69] at H
            have c69b0 : decide (t459 < a0_1) = true := decide_eq_true c69
            clear c69
            (first | rw [c69b0] | (simp only [i64_w, i32_w]; rw [c69b0]) | skip)
            have H' := ka H
            clear H
            go_wp2
            go_meet
            case rel => exact ⟨_, (2), (by first | rfl | (simp; done) | (simp [*]; done)), H', ⟨by have := HJ3.out; have := HJ37.out; have := HJ57.out; first | omega | exact Nat.le_refl _⟩, ⟨kr HO_465004.out⟩, ⟨by (with_reducible repeat (first | apply kb1 | apply kb2 | apply kb3)); exact BK452.out⟩, ⟨by (with_reducible repeat (first | apply kb1 | apply kb2 | apply kb3)); exact BK453.out⟩, ⟨by (with_reducible repeat (first | apply kb1 | apply kb2 | apply kb3)); exact BK464.out⟩, ⟨by repeat (first | (with_reducible first | exact HB.out | apply kc1 | apply kc2 | apply kc3 | refine kc4 ?_ GE452.out | refine kc4 ?_ GE453.out | refine kc4 ?_ GE464.out) | exact HB.out)⟩⟩
           ·rw [if_neg c69] at H
            have c69b0 : decide (t459 < a0_1) = false := decide_eq_false c69
            clear c69
            (first | rw [c69b0] | (simp only [i64_w, i32_w]; rw [c69b0]) | skip)
            have H' := ka H
            clear H
            go_wp2
            go_meet
            case rel => exact ⟨_, (12), (by first | rfl | (simp; done) | (simp [*]; done)), H', ⟨by have := HJ3.out; have := HJ37.out; have := HJ57.out; first | omega | exact Nat.le_refl _⟩, ⟨kr HO_465004.out⟩, ⟨by (with_reducible repeat (first | apply kb1 | apply kb2 | apply kb3)); exact BK452.out⟩, ⟨by (with_reducible repeat (first | apply kb1 | apply kb2 | apply kb3)); exact BK453.out⟩, ⟨by (with_reducible repeat (first | apply kb1 | apply kb2 | apply kb3)); exact BK464.out⟩, ⟨by repeat (first | (with_reducible first | exact HB.out | apply kc1 | apply kc2 | apply kc3 | refine kc4 ?_ GE452.out | refine kc4 ?_ GE453.out | refine kc4 ?_ GE464.out) | exact HB.out)⟩⟩
          case rest =>
           clear HC63
           try clear c1
           try clear c2
           try clear p2
           try clear c3
           try clear c4
           try clear c5
           try clear c6
           try clear c7
           try clear c7b0
           try clear c8
           try clear c9
           try clear c11
           try clear c13
           try clear c14
           try clear c15
           try clear c17
           try clear c19
           try clear c21
           try clear c22
           try clear c27
           try clear c27b0
           try clear c28
           try clear c32
           try clear c33
           try clear c37
           try clear c37b0
           try clear c37b1
           try clear c39
           try clear c43
           try clear c44
           try clear c51
           try clear c51b0
           try clear c52
           try clear c53
           try clear c55
           try clear c56
           try clear c59
           try clear c60
           try clear c61
           try clear c64
           try clear c65
           try clear c67
           try clear c69
           try clear c69b0
           try clear hcz16
           try clear hcz18
           try clear hcz20
           try clear hcz23
           try clear hcz29
           try clear hcz34
           try clear hcz36
           try clear hcz40
           try clear hcz45
           try clear hcz50
           try clear hcz54
           try clear hcz57
           try clear hcz62
           try clear hcz66
           try clear hcz68
           try clear hcz9
           try clear p2
           obtain ⟨kq, x10_62, rfl, HA, HJ62, HO_465004, BK452, BK453, BK464, HB⟩ := hcut
           cases kq with
           | zero => exact absurd HA.out (by simp [spread_Of.j3])
           | succ kj62 =>
            have H := HA.out
            clear HA
            simp only [spread_Of.j3] at H
            replace H := Option.bind_eq_some_iff.mp H
            obtain ⟨⟨t468, t469⟩, A700, H⟩ := H
            replace H : (if t468.isNone = true then ((spread_add.f kj62 t469 t458 12 1).bind fun bt471 => (if bt471.1.isNone = true then ((spread_add.f kj62 bt471.2 t459 x10_62 1).bind fun bt474 => (if bt474.1.isNone = true then (some (t457, t458, t459, x465003_57, bt474.2, none)) else (some (0, 0, 0, 0, ([] : List Int), some (bt474.1.getD 0))))) else (some (0, 0, 0, 0, ([] : List Int), some (bt471.1.getD 0))))) else (some (0, 0, 0, 0, ([] : List Int), some (t468.getD 0)))) = some (r1, r2, r3, r4, r5, r6) := H
            have A70 := ka A700
            clear A700
            rcases t468 with _ | q470
            ·have H1 : ((spread_add.f kj62 t469 t458 12 1).bind fun bt471 => (if bt471.1.isNone = true then ((spread_add.f kj62 bt471.2 t459 x10_62 1).bind fun bt474 => (if bt474.1.isNone = true then (some (t457, t458, t459, x465003_57, bt474.2, none)) else (some (0, 0, 0, 0, ([] : List Int), some (bt474.1.getD 0))))) else (some (0, 0, 0, 0, ([] : List Int), some (bt471.1.getD 0))))) = some (r1, r2, r3, r4, r5, r6) := by rw [if_pos (show (none : Option Int).isNone = true by rfl)] at H; exact H
             clear H
             have H := H1
             clear H1
             try simp only [errW_none, errW_some]
             replace H := Option.bind_eq_some_iff.mp H
             obtain ⟨⟨t471, t472⟩, A710, H⟩ := H
             replace H : (if t471.isNone = true then ((spread_add.f kj62 t472 t459 x10_62 1).bind fun bt474 => (if bt474.1.isNone = true then (some (t457, t458, t459, x465003_57, bt474.2, none)) else (some (0, 0, 0, 0, ([] : List Int), some (bt474.1.getD 0))))) else (some (0, 0, 0, 0, ([] : List Int), some (t471.getD 0)))) = some (r1, r2, r3, r4, r5, r6) := H
             have A71 := ka A710
             clear A710
             rcases t471 with _ | q473
             ·have H1 : ((spread_add.f kj62 t472 t459 x10_62 1).bind fun bt474 => (if bt474.1.isNone = true then (some (t457, t458, t459, x465003_57, bt474.2, none)) else (some (0, 0, 0, 0, ([] : List Int), some (bt474.1.getD 0))))) = some (r1, r2, r3, r4, r5, r6) := by rw [if_pos (show (none : Option Int).isNone = true by rfl)] at H; exact H
              clear H
              have H := H1
              clear H1
              try simp only [errW_none, errW_some]
              replace H := Option.bind_eq_some_iff.mp H
              obtain ⟨⟨t474, t475⟩, A720, H⟩ := H
              replace H : (if t474.isNone = true then (some (t457, t458, t459, x465003_57, t475, none)) else (some (0, 0, 0, 0, ([] : List Int), some (t474.getD 0)))) = some (r1, r2, r3, r4, r5, r6) := H
              have A72 := ka A720
              clear A720
              rcases t474 with _ | q476
              ·have H1 : (some (t457, t458, t459, x465003_57, t475, none)) = some (r1, r2, r3, r4, r5, r6) := by rw [if_pos (show (none : Option Int).isNone = true by rfl)] at H; exact H
               clear H
               have H := H1
               clear H1
               try simp only [errW_none, errW_some]
               simp only [Option.some.injEq, Prod.mk.injEq] at H
               obtain ⟨rfl, rfl, rfl, rfl, rfl, rfl⟩ := H
               have hnb73 := NB464_452.out
               have hnc73 := NB452_464.out
               have hnb74 := NB464_453.out
               have hnc74 := NB453_464.out
               have hcz75 := blkAll5 BK464.out
               go_wp2_with (first | ((with_reducible refine gate_callee (f := 15) rfl ?_); refine kg (some 71) rfl rfl Try.func15 (by kernel_rfl) rfl #[.slice Ao49 y465.length co49, .int .i64 x9_57, .int .i64 12, .int .i64 (-1)] rfl ?_; (with_reducible refine (spread_add.calls kj62 (fun k_ => some k_ = (.slice Ao49 y465.length co49 : Value).ownBlock) (.slice Ao49 y465.length co49) y465 x9_57 12 (-1) none t469 w _ ?side1 ?side2 A70.out).mono ?_); (case side1 => repeat (first | (with_reducible first | exact HB.out | apply kc1 | apply kc2 | apply kc3 | refine kc4 ?_ GE452.out | refine kc4 ?_ GE453.out | refine kc4 ?_ GE464.out) | exact HB.out)); (case side2 => exact Kd.R_tight rfl HO_465004.out); rintro e w76 ⟨rfl, hy0, hb, hkp⟩; refine ⟨_, rfl, ?_⟩; replace BK452 := ka (blk_kept (kz BK452.out) hkp (fun hs_ => (fun e_ => (Kd.R_ne HO_465004.out BK452.out (by decide)) e_) hs_)); replace BK453 := ka (blk_kept (kz BK453.out) hkp (fun hs_ => (fun e_ => (Kd.R_ne HO_465004.out BK453.out (by decide)) e_) hs_)); replace BK464 := ka (blk_kept (kz BK464.out) hkp (fun hs_ => (fun e_ => (Kd.R_ne HO_465004.out BK464.out (by decide)) e_) hs_)); replace HO_465004 := ka (Kd.R_reok rfl hy0 (fun k_ e_ => HO_465004.out.1 k_ e_)); replace HB := ka (hb); (try clear hb); (try clear hkp); (try clear hy0); (try simp only [errW_none, errW_some]); have hcz77 := blkAll5 BK464.out) | ((with_reducible refine gate_callee (f := 15) rfl ?_); refine kg (some 80) rfl rfl Try.func15 (by kernel_rfl) rfl #[.slice Ao49 y465.length co49, .int .i64 t458, .int .i64 12, .int .i64 1] rfl ?_; (with_reducible refine (spread_add.calls kj62 (fun k_ => some k_ = (.slice Ao49 y465.length co49 : Value).ownBlock) (.slice Ao49 y465.length co49) t469 t458 12 1 none t472 w _ ?side1 ?side2 A71.out).mono ?_); (case side1 => repeat (first | (with_reducible first | exact HB.out | apply kc1 | apply kc2 | apply kc3 | refine kc4 ?_ GE452.out | refine kc4 ?_ GE453.out | refine kc4 ?_ GE464.out) | exact HB.out)); (case side2 => exact Kd.R_tight rfl HO_465004.out); rintro e w78 ⟨rfl, hy0, hb, hkp⟩; refine ⟨_, rfl, ?_⟩; replace BK452 := ka (blk_kept (kz BK452.out) hkp (fun hs_ => (fun e_ => (Kd.R_ne HO_465004.out BK452.out (by decide)) e_) hs_)); replace BK453 := ka (blk_kept (kz BK453.out) hkp (fun hs_ => (fun e_ => (Kd.R_ne HO_465004.out BK453.out (by decide)) e_) hs_)); replace BK464 := ka (blk_kept (kz BK464.out) hkp (fun hs_ => (fun e_ => (Kd.R_ne HO_465004.out BK464.out (by decide)) e_) hs_)); replace HO_465004 := ka (Kd.R_reok rfl hy0 (fun k_ e_ => HO_465004.out.1 k_ e_)); replace HB := ka (hb); (try clear hb); (try clear hkp); (try clear hy0); (try simp only [errW_none, errW_some]); have hcz79 := blkAll5 BK464.out) | ((with_reducible refine gate_callee (f := 15) rfl ?_); refine kg (some 90) rfl rfl Try.func15 (by kernel_rfl) rfl #[.slice Ao49 y465.length co49, .int .i64 t459, .int .i64 x10_62, .int .i64 1] rfl ?_; (with_reducible refine (spread_add.calls kj62 (fun k_ => some k_ = (.slice Ao49 y465.length co49 : Value).ownBlock) (.slice Ao49 y465.length co49) t472 t459 x10_62 1 none t475 w _ ?side1 ?side2 A72.out).mono ?_); (case side1 => repeat (first | (with_reducible first | exact HB.out | apply kc1 | apply kc2 | apply kc3 | refine kc4 ?_ GE452.out | refine kc4 ?_ GE453.out | refine kc4 ?_ GE464.out) | exact HB.out)); (case side2 => exact Kd.R_tight rfl HO_465004.out); rintro e w80 ⟨rfl, hy0, hb, hkp⟩; refine ⟨_, rfl, ?_⟩; replace BK452 := ka (blk_kept (kz BK452.out) hkp (fun hs_ => (fun e_ => (Kd.R_ne HO_465004.out BK452.out (by decide)) e_) hs_)); replace BK453 := ka (blk_kept (kz BK453.out) hkp (fun hs_ => (fun e_ => (Kd.R_ne HO_465004.out BK453.out (by decide)) e_) hs_)); replace BK464 := ka (blk_kept (kz BK464.out) hkp (fun hs_ => (fun e_ => (Kd.R_ne HO_465004.out BK464.out (by decide)) e_) hs_)); replace HO_465004 := ka (Kd.R_reok rfl hy0 (fun k_ e_ => HO_465004.out.1 k_ e_)); replace HB := ka (hb); (try clear hb); (try clear hkp); (try clear hy0); (try simp only [errW_none, errW_some]); have hcz81 := blkAll5 BK464.out; have hnb82 := NB453_452.out; have hnc82 := NB452_453.out; have hcz83 := blkAll5 BK453.out))
               refine bodyPost_ret (results_ct rfl _ _ gb453 27 #[.int .i64 t457, .int .i64 t458, .int .i64 t459, .int .i64 x465003_57, .slice Ao49 y465.length co49] (0, 0) _ rfl (by (with_reducible repeat (first | apply kb1 | apply kb2 | apply kb3 | apply blkPut5_4 | apply blkPut5_3 | apply blkPut5_2 | apply blkPut5_1 | apply blkPut5_0)); exact BK453.out) Try.underlying27 rfl (by kernel_rfl)) rfl ?_
               exact ⟨_, by first | rfl | (simp [errW_none, errW_some] <;> rfl) | (simp only [← hji25, ← hji26]; first | rfl | (simp [errW_none, errW_some] <;> rfl)) | (simp [*, errW_none, errW_some] <;> rfl), by (with_reducible repeat (first | apply Kd.R_alloc | apply Kd.R_drewN | apply Kd.R_drew)); exact Kd.R_mono (Kd.R_far (p := ⟨gb453, 4, none⟩) (Kd.R_far (p := ⟨gb453, 3, none⟩) (Kd.R_far (p := ⟨gb453, 2, none⟩) (Kd.R_far (p := ⟨gb453, 1, none⟩) (Kd.R_far (p := ⟨gb453, 0, none⟩) (Kd.R_types HO_465004.out BK453.out (by decide)) (fun _ hk => hk.2) (.int .i64 t457)) (fun _ hk => hk.2) (.int .i64 t458)) (fun _ hk => hk.2) (.int .i64 t459)) (fun _ hk => hk.2) (.int .i64 x465003_57)) (fun _ hk => hk.2) (.slice Ao49 y465.length co49)) (fun _ hk => trivial), by repeat (first | (with_reducible first | exact HB.out | apply kc1 | apply kc2 | apply kc3 | refine kc4 ?_ GE452.out | refine kc4 ?_ GE453.out | refine kc4 ?_ GE464.out) | exact HB.out)⟩
              ·have H1 : (some (0, 0, 0, 0, ([] : List Int), some q476)) = some (r1, r2, r3, r4, r5, r6) := by rw [if_neg (show ¬ (some q476).isNone = true by simp)] at H; exact H
               clear H
               have H := H1
               clear H1
               try simp only [errW_none, errW_some]
               simp only [Option.some.injEq, Prod.mk.injEq] at H
               obtain ⟨rfl, rfl, rfl, rfl, rfl, rfl⟩ := H
               have hnb84 := NB464_452.out
               have hnc84 := NB452_464.out
               have hnb85 := NB464_453.out
               have hnc85 := NB453_464.out
               have hcz86 := blkAll5 BK464.out
               go_wp2_with (first | ((with_reducible refine gate_callee (f := 15) rfl ?_); refine kg (some 71) rfl rfl Try.func15 (by kernel_rfl) rfl #[.slice Ao49 y465.length co49, .int .i64 x9_57, .int .i64 12, .int .i64 (-1)] rfl ?_; (with_reducible refine (spread_add.calls kj62 (fun k_ => some k_ = (.slice Ao49 y465.length co49 : Value).ownBlock) (.slice Ao49 y465.length co49) y465 x9_57 12 (-1) none t469 w _ ?side1 ?side2 A70.out).mono ?_); (case side1 => repeat (first | (with_reducible first | exact HB.out | apply kc1 | apply kc2 | apply kc3 | refine kc4 ?_ GE452.out | refine kc4 ?_ GE453.out | refine kc4 ?_ GE464.out) | exact HB.out)); (case side2 => exact Kd.R_tight rfl HO_465004.out); rintro e w87 ⟨rfl, hy0, hb, hkp⟩; refine ⟨_, rfl, ?_⟩; replace BK452 := ka (blk_kept (kz BK452.out) hkp (fun hs_ => (fun e_ => (Kd.R_ne HO_465004.out BK452.out (by decide)) e_) hs_)); replace BK453 := ka (blk_kept (kz BK453.out) hkp (fun hs_ => (fun e_ => (Kd.R_ne HO_465004.out BK453.out (by decide)) e_) hs_)); replace BK464 := ka (blk_kept (kz BK464.out) hkp (fun hs_ => (fun e_ => (Kd.R_ne HO_465004.out BK464.out (by decide)) e_) hs_)); replace HO_465004 := ka (Kd.R_reok rfl hy0 (fun k_ e_ => HO_465004.out.1 k_ e_)); replace HB := ka (hb); (try clear hb); (try clear hkp); (try clear hy0); (try simp only [errW_none, errW_some]); have hcz88 := blkAll5 BK464.out) | ((with_reducible refine gate_callee (f := 15) rfl ?_); refine kg (some 80) rfl rfl Try.func15 (by kernel_rfl) rfl #[.slice Ao49 y465.length co49, .int .i64 t458, .int .i64 12, .int .i64 1] rfl ?_; (with_reducible refine (spread_add.calls kj62 (fun k_ => some k_ = (.slice Ao49 y465.length co49 : Value).ownBlock) (.slice Ao49 y465.length co49) t469 t458 12 1 none t472 w _ ?side1 ?side2 A71.out).mono ?_); (case side1 => repeat (first | (with_reducible first | exact HB.out | apply kc1 | apply kc2 | apply kc3 | refine kc4 ?_ GE452.out | refine kc4 ?_ GE453.out | refine kc4 ?_ GE464.out) | exact HB.out)); (case side2 => exact Kd.R_tight rfl HO_465004.out); rintro e w89 ⟨rfl, hy0, hb, hkp⟩; refine ⟨_, rfl, ?_⟩; replace BK452 := ka (blk_kept (kz BK452.out) hkp (fun hs_ => (fun e_ => (Kd.R_ne HO_465004.out BK452.out (by decide)) e_) hs_)); replace BK453 := ka (blk_kept (kz BK453.out) hkp (fun hs_ => (fun e_ => (Kd.R_ne HO_465004.out BK453.out (by decide)) e_) hs_)); replace BK464 := ka (blk_kept (kz BK464.out) hkp (fun hs_ => (fun e_ => (Kd.R_ne HO_465004.out BK464.out (by decide)) e_) hs_)); replace HO_465004 := ka (Kd.R_reok rfl hy0 (fun k_ e_ => HO_465004.out.1 k_ e_)); replace HB := ka (hb); (try clear hb); (try clear hkp); (try clear hy0); (try simp only [errW_none, errW_some]); have hcz90 := blkAll5 BK464.out) | ((with_reducible refine gate_callee (f := 15) rfl ?_); refine kg (some 90) rfl rfl Try.func15 (by kernel_rfl) rfl #[.slice Ao49 y465.length co49, .int .i64 t459, .int .i64 x10_62, .int .i64 1] rfl ?_; (with_reducible refine (spread_add.calls kj62 (fun k_ => some k_ = (.slice Ao49 y465.length co49 : Value).ownBlock) (.slice Ao49 y465.length co49) t472 t459 x10_62 1 (some q476) t475 w _ ?side1 ?side2 A72.out).mono ?_); (case side1 => repeat (first | (with_reducible first | exact HB.out | apply kc1 | apply kc2 | apply kc3 | refine kc4 ?_ GE452.out | refine kc4 ?_ GE453.out | refine kc4 ?_ GE464.out) | exact HB.out)); (case side2 => exact Kd.R_tight rfl HO_465004.out); rintro e w91 ⟨rfl, hy0, hb, hkp⟩; refine ⟨_, rfl, ?_⟩; replace BK452 := ka (blk_kept (kz BK452.out) hkp (fun hs_ => (fun e_ => (Kd.R_ne HO_465004.out BK452.out (by decide)) e_) hs_)); replace BK453 := ka (blk_kept (kz BK453.out) hkp (fun hs_ => (fun e_ => (Kd.R_ne HO_465004.out BK453.out (by decide)) e_) hs_)); replace BK464 := ka (blk_kept (kz BK464.out) hkp (fun hs_ => (fun e_ => (Kd.R_ne HO_465004.out BK464.out (by decide)) e_) hs_)); replace HO_465004 := ka (Kd.R_reok rfl hy0 (fun k_ e_ => HO_465004.out.1 k_ e_)); replace HB := ka (hb); (try clear hb); (try clear hkp); (try clear hy0); (try simp only [errW_none, errW_some]); have hnb92 := NB453_452.out; have hnc92 := NB452_453.out; have hcz93 := blkAll5 BK453.out))
               refine bodyPost_ret (results_ct rfl _ _ gb453 27 #[.int .i64 0, .int .i64 0, .int .i64 0, .int .i64 0, .slice none 0 0] (0, 0) _ rfl (by (with_reducible repeat (first | apply kb1 | apply kb2 | apply kb3 | apply blkPut5_4 | apply blkPut5_3 | apply blkPut5_2 | apply blkPut5_1 | apply blkPut5_0)); exact BK453.out) Try.underlying27 rfl (by kernel_rfl)) rfl ?_
               exact ⟨_, by first | rfl | (simp [errW_none, errW_some] <;> rfl) | (simp only [← hji25, ← hji26]; first | rfl | (simp [errW_none, errW_some] <;> rfl)) | (simp [*, errW_none, errW_some] <;> rfl), by first | exact Kd.R_nil _ _ _ _ _ | exact Kd.N_nil _ _ _ _ _ | exact Kd.V_nil _ _ _ _ _ | exact Kd.Q_nil _ _ _ _ _ | exact Kd.S_nil _ _ _ _ _, by repeat (first | (with_reducible first | exact HB.out | apply kc1 | apply kc2 | apply kc3 | refine kc4 ?_ GE452.out | refine kc4 ?_ GE453.out | refine kc4 ?_ GE464.out) | exact HB.out)⟩
             ·have H1 : (some (0, 0, 0, 0, ([] : List Int), some q473)) = some (r1, r2, r3, r4, r5, r6) := by rw [if_neg (show ¬ (some q473).isNone = true by simp)] at H; exact H
              clear H
              have H := H1
              clear H1
              try simp only [errW_none, errW_some]
              simp only [Option.some.injEq, Prod.mk.injEq] at H
              obtain ⟨rfl, rfl, rfl, rfl, rfl, rfl⟩ := H
              have hnb94 := NB464_452.out
              have hnc94 := NB452_464.out
              have hnb95 := NB464_453.out
              have hnc95 := NB453_464.out
              have hcz96 := blkAll5 BK464.out
              go_wp2_with (first | ((with_reducible refine gate_callee (f := 15) rfl ?_); refine kg (some 71) rfl rfl Try.func15 (by kernel_rfl) rfl #[.slice Ao49 y465.length co49, .int .i64 x9_57, .int .i64 12, .int .i64 (-1)] rfl ?_; (with_reducible refine (spread_add.calls kj62 (fun k_ => some k_ = (.slice Ao49 y465.length co49 : Value).ownBlock) (.slice Ao49 y465.length co49) y465 x9_57 12 (-1) none t469 w _ ?side1 ?side2 A70.out).mono ?_); (case side1 => repeat (first | (with_reducible first | exact HB.out | apply kc1 | apply kc2 | apply kc3 | refine kc4 ?_ GE452.out | refine kc4 ?_ GE453.out | refine kc4 ?_ GE464.out) | exact HB.out)); (case side2 => exact Kd.R_tight rfl HO_465004.out); rintro e w97 ⟨rfl, hy0, hb, hkp⟩; refine ⟨_, rfl, ?_⟩; replace BK452 := ka (blk_kept (kz BK452.out) hkp (fun hs_ => (fun e_ => (Kd.R_ne HO_465004.out BK452.out (by decide)) e_) hs_)); replace BK453 := ka (blk_kept (kz BK453.out) hkp (fun hs_ => (fun e_ => (Kd.R_ne HO_465004.out BK453.out (by decide)) e_) hs_)); replace BK464 := ka (blk_kept (kz BK464.out) hkp (fun hs_ => (fun e_ => (Kd.R_ne HO_465004.out BK464.out (by decide)) e_) hs_)); replace HO_465004 := ka (Kd.R_reok rfl hy0 (fun k_ e_ => HO_465004.out.1 k_ e_)); replace HB := ka (hb); (try clear hb); (try clear hkp); (try clear hy0); (try simp only [errW_none, errW_some]); have hcz98 := blkAll5 BK464.out) | ((with_reducible refine gate_callee (f := 15) rfl ?_); refine kg (some 80) rfl rfl Try.func15 (by kernel_rfl) rfl #[.slice Ao49 y465.length co49, .int .i64 t458, .int .i64 12, .int .i64 1] rfl ?_; (with_reducible refine (spread_add.calls kj62 (fun k_ => some k_ = (.slice Ao49 y465.length co49 : Value).ownBlock) (.slice Ao49 y465.length co49) t469 t458 12 1 (some q473) t472 w _ ?side1 ?side2 A71.out).mono ?_); (case side1 => repeat (first | (with_reducible first | exact HB.out | apply kc1 | apply kc2 | apply kc3 | refine kc4 ?_ GE452.out | refine kc4 ?_ GE453.out | refine kc4 ?_ GE464.out) | exact HB.out)); (case side2 => exact Kd.R_tight rfl HO_465004.out); rintro e w99 ⟨rfl, hy0, hb, hkp⟩; refine ⟨_, rfl, ?_⟩; replace BK452 := ka (blk_kept (kz BK452.out) hkp (fun hs_ => (fun e_ => (Kd.R_ne HO_465004.out BK452.out (by decide)) e_) hs_)); replace BK453 := ka (blk_kept (kz BK453.out) hkp (fun hs_ => (fun e_ => (Kd.R_ne HO_465004.out BK453.out (by decide)) e_) hs_)); replace BK464 := ka (blk_kept (kz BK464.out) hkp (fun hs_ => (fun e_ => (Kd.R_ne HO_465004.out BK464.out (by decide)) e_) hs_)); replace HO_465004 := ka (Kd.R_reok rfl hy0 (fun k_ e_ => HO_465004.out.1 k_ e_)); replace HB := ka (hb); (try clear hb); (try clear hkp); (try clear hy0); (try simp only [errW_none, errW_some]); have hnb100 := NB453_452.out; have hnc100 := NB452_453.out; have hcz101 := blkAll5 BK453.out))
              refine bodyPost_ret (results_ct rfl _ _ gb453 27 #[.int .i64 0, .int .i64 0, .int .i64 0, .int .i64 0, .slice none 0 0] (0, 0) _ rfl (by (with_reducible repeat (first | apply kb1 | apply kb2 | apply kb3 | apply blkPut5_4 | apply blkPut5_3 | apply blkPut5_2 | apply blkPut5_1 | apply blkPut5_0)); exact BK453.out) Try.underlying27 rfl (by kernel_rfl)) rfl ?_
              exact ⟨_, by first | rfl | (simp [errW_none, errW_some] <;> rfl) | (simp only [← hji25, ← hji26]; first | rfl | (simp [errW_none, errW_some] <;> rfl)) | (simp [*, errW_none, errW_some] <;> rfl), by first | exact Kd.R_nil _ _ _ _ _ | exact Kd.N_nil _ _ _ _ _ | exact Kd.V_nil _ _ _ _ _ | exact Kd.Q_nil _ _ _ _ _ | exact Kd.S_nil _ _ _ _ _, by repeat (first | (with_reducible first | exact HB.out | apply kc1 | apply kc2 | apply kc3 | refine kc4 ?_ GE452.out | refine kc4 ?_ GE453.out | refine kc4 ?_ GE464.out) | exact HB.out)⟩
            ·have H1 : (some (0, 0, 0, 0, ([] : List Int), some q470)) = some (r1, r2, r3, r4, r5, r6) := by rw [if_neg (show ¬ (some q470).isNone = true by simp)] at H; exact H
             clear H
             have H := H1
             clear H1
             try simp only [errW_none, errW_some]
             simp only [Option.some.injEq, Prod.mk.injEq] at H
             obtain ⟨rfl, rfl, rfl, rfl, rfl, rfl⟩ := H
             have hnb102 := NB464_452.out
             have hnc102 := NB452_464.out
             have hnb103 := NB464_453.out
             have hnc103 := NB453_464.out
             have hcz104 := blkAll5 BK464.out
             go_wp2_with (first | ((with_reducible refine gate_callee (f := 15) rfl ?_); refine kg (some 71) rfl rfl Try.func15 (by kernel_rfl) rfl #[.slice Ao49 y465.length co49, .int .i64 x9_57, .int .i64 12, .int .i64 (-1)] rfl ?_; (with_reducible refine (spread_add.calls kj62 (fun k_ => some k_ = (.slice Ao49 y465.length co49 : Value).ownBlock) (.slice Ao49 y465.length co49) y465 x9_57 12 (-1) (some q470) t469 w _ ?side1 ?side2 A70.out).mono ?_); (case side1 => repeat (first | (with_reducible first | exact HB.out | apply kc1 | apply kc2 | apply kc3 | refine kc4 ?_ GE452.out | refine kc4 ?_ GE453.out | refine kc4 ?_ GE464.out) | exact HB.out)); (case side2 => exact Kd.R_tight rfl HO_465004.out); rintro e w105 ⟨rfl, hy0, hb, hkp⟩; refine ⟨_, rfl, ?_⟩; replace BK452 := ka (blk_kept (kz BK452.out) hkp (fun hs_ => (fun e_ => (Kd.R_ne HO_465004.out BK452.out (by decide)) e_) hs_)); replace BK453 := ka (blk_kept (kz BK453.out) hkp (fun hs_ => (fun e_ => (Kd.R_ne HO_465004.out BK453.out (by decide)) e_) hs_)); replace BK464 := ka (blk_kept (kz BK464.out) hkp (fun hs_ => (fun e_ => (Kd.R_ne HO_465004.out BK464.out (by decide)) e_) hs_)); replace HO_465004 := ka (Kd.R_reok rfl hy0 (fun k_ e_ => HO_465004.out.1 k_ e_)); replace HB := ka (hb); (try clear hb); (try clear hkp); (try clear hy0); (try simp only [errW_none, errW_some]); have hnb106 := NB453_452.out; have hnc106 := NB452_453.out; have hcz107 := blkAll5 BK453.out))
             refine bodyPost_ret (results_ct rfl _ _ gb453 27 #[.int .i64 0, .int .i64 0, .int .i64 0, .int .i64 0, .slice none 0 0] (0, 0) _ rfl (by (with_reducible repeat (first | apply kb1 | apply kb2 | apply kb3 | apply blkPut5_4 | apply blkPut5_3 | apply blkPut5_2 | apply blkPut5_1 | apply blkPut5_0)); exact BK453.out) Try.underlying27 rfl (by kernel_rfl)) rfl ?_
             exact ⟨_, by first | rfl | (simp [errW_none, errW_some] <;> rfl) | (simp only [← hji25, ← hji26]; first | rfl | (simp [errW_none, errW_some] <;> rfl)) | (simp [*, errW_none, errW_some] <;> rfl), by first | exact Kd.R_nil _ _ _ _ _ | exact Kd.N_nil _ _ _ _ _ | exact Kd.V_nil _ _ _ _ _ | exact Kd.Q_nil _ _ _ _ _ | exact Kd.S_nil _ _ _ _ _, by repeat (first | (with_reducible first | exact HB.out | apply kc1 | apply kc2 | apply kc3 | refine kc4 ?_ GE452.out | refine kc4 ?_ GE453.out | refine kc4 ?_ GE464.out) | exact HB.out)⟩
     ·rw [if_neg c37] at H
      exact absurd H (by simp)

end Go.Proofs.Ytjeghhheenenbaa.P
