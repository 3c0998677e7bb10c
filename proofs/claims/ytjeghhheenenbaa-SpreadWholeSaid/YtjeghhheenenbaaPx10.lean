-- Written by a program of this session out of the translation of the seat: Lean functions and the proofs that the Go functions come to them.
import Derived.Test.YtjeghhheenenbaaPx0
import Derived.Test.YtjeghhheenenbaaPx6
import Derived.Test.YtjeghhheenenbaaPx7
namespace Go.Proofs.Ytjeghhheenenbaa.P
open Go.RowKit Go.Proofs.YtjeghhheenenbaaW.PrintWords Go.Proofs.YtjeghhheenenbaaW.PrintLast Go.Proofs.YtjeghhheenenbaaW.PrintMore
attribute [local go_sem] max2_int min2_int max_two min_two max_three min_three max_four min_four   -- for this text's walks alone
set_option linter.unusedVariables false
set_option linter.unusedSimpArgs false

/-! ### trivetlaw16_SpreadWhole: function 4 -/
def trivetlaw16_SpreadWhole.l0 : Nat → Int → Bool → Bool → Int → Int → Int → Int → Int → Int → Int → List Int → Int → Int → Int → Int → List Int → Option (Bool)
 | 0, _, _, _, _, _, _, _, _, _, _, _, _, _, _, _, _ => none
 | k + 1, x1, x2, x7, x10, x11, x548000, x548001, x548002, x548003, x548004, x548005, x558000, x558001, x558002, x558003, x558004 => if x11 < (x558004.length : Int) then (if 0 ≤ x11 then (trivetlaw16_SpreadWhole.l0 k x1 x2 x7 (wrap64 (x10 + (rd x558004 x11))) (wrap64 (x11 + 1)) x548000 x548001 x548002 x548003 x548004 x548005 x558000 x558001 x558002 x558003 x558004) else (none)) else (if (x558004.length : Int) = 12 then (if x10 = x548003 then (if x558000 < 0 then (none) else (if x558001 < 0 then (none) else (if x558002 < 0 then (none) else (if x558000 > 0 then (if x558001 > 0 then (none) else (if x7 = true then (if x558002 > 0 then (none) else (if x558003 = 0 then (if x1 < 0 then (some (!(decide (x1 < x548003)))) else (some true)) else (if x558003 = x558000 then (if x2 = true then (if x558003 ≥ 5000 then (if x1 < 0 then (some (!(decide (x1 < x548003)))) else (some true)) else (none)) else (none)) else (none)))) else (none))) else (if x7 = true then (if x558003 = 0 then (if x1 < 0 then (some ((decide (x558002 > 0)) == (decide (x1 < x548003)))) else (some (!(decide (x558002 > 0))))) else (if x558003 = x558000 then (if x2 = true then (if x558003 ≥ 5000 then (if x1 < 0 then (some ((decide (x558002 > 0)) == (decide (x1 < x548003)))) else (some (!(decide (x558002 > 0))))) else (none)) else (none)) else (none))) else (none)))))) else (none)) else (none))
def trivetlaw16_SpreadWhole.f (k : Nat) (a0_0 : Int) (a0_1 : Int) (a0_2 : Int) (a0_3 : Int) (a0_4 : Int) (l0_5 : List Int) (a1 : Int) (a2 : Bool) : Option (Bool) := (trivetlaw16_up.f k).bind fun t548 => ((spread_Of.f k a0_0 a0_1 a0_2 a0_3 a0_4 l0_5 a1 a2).bind fun bt549 => (if bt549.2.2.2.2.2.isNone = true then (trivetlaw16_SpreadWhole.l0 k a1 a2 t548 (wrap64 (a1 - bt549.2.2.2.1)) 0 a0_0 a0_1 a0_2 a0_3 a0_4 l0_5 bt549.1 bt549.2.1 bt549.2.2.1 bt549.2.2.2.1 bt549.2.2.2.2.1) else (some t548)))
theorem trivetlaw16_SpreadWhole.mono_l : ∀ k, (∀ y0 y1 y2 y3 y4 y5 y6 y7 y8 y9 y10 y11 y12 y13 y14 y15, LeO (trivetlaw16_SpreadWhole.l0 k y0 y1 y2 y3 y4 y5 y6 y7 y8 y9 y10 y11 y12 y13 y14 y15) (trivetlaw16_SpreadWhole.l0 (k + 1) y0 y1 y2 y3 y4 y5 y6 y7 y8 y9 y10 y11 y12 y13 y14 y15))
 | 0 => fun _ _ _ _ _ _ _ _ _ _ _ _ _ _ _ _ r h => by simp [trivetlaw16_SpreadWhole.l0] at h
 | k + 1 => by
  have ih0 := trivetlaw16_SpreadWhole.mono_l k
  ·intro y0 y1 y2 y3 y4 y5 y6 y7 y8 y9 y10 y11 y12 y13 y14 y15
   unfold trivetlaw16_SpreadWhole.l0
   repeat' first
   | (with_reducible exact ih0 _ _ _ _ _ _ _ _ _ _ _ _ _ _ _ _)
   | (with_reducible exact spread_Of.mono _ _ _ _ _ _ _ _ _)
   | (with_reducible exact trivetlaw16_up.mono _)
   | (with_reducible exact LeO.refl _)
   | (with_reducible exact LeO.none _)
   | (with_reducible refine LeO.ite ?_ ?_)
   | (with_reducible refine LeO.bind ?_ (fun _ => ?_))
   | exact ih0 _ _ _ _ _ _ _ _ _ _ _ _ _ _ _ _
   | exact spread_Of.mono _ _ _ _ _ _ _ _ _
   | exact trivetlaw16_up.mono _
   | exact LeO.none _
   | refine LeO.ite ?_ ?_
   | refine LeO.bind ?_ (fun _ => ?_)
theorem trivetlaw16_SpreadWhole.mono : ∀ a0 a1 a2 a3 a4 a5 a6 a7 k, LeO (trivetlaw16_SpreadWhole.f k a0 a1 a2 a3 a4 a5 a6 a7) (trivetlaw16_SpreadWhole.f (k + 1) a0 a1 a2 a3 a4 a5 a6 a7) := by
 intro a0 a1 a2 a3 a4 a5 a6 a7 k
 have ih0 := trivetlaw16_SpreadWhole.mono_l k
 unfold trivetlaw16_SpreadWhole.f
 repeat' first
   | (with_reducible exact ih0 _ _ _ _ _ _ _ _ _ _ _ _ _ _ _ _)
   | (with_reducible exact spread_Of.mono _ _ _ _ _ _ _ _ _)
   | (with_reducible exact trivetlaw16_up.mono _)
   | (with_reducible exact LeO.refl _)
   | (with_reducible exact LeO.none _)
   | (with_reducible refine LeO.ite ?_ ?_)
   | (with_reducible refine LeO.bind ?_ (fun _ => ?_))
   | exact ih0 _ _ _ _ _ _ _ _ _ _ _ _ _ _ _ _
   | exact spread_Of.mono _ _ _ _ _ _ _ _ _
   | exact trivetlaw16_up.mono _
   | exact LeO.none _
   | refine LeO.ite ?_ ?_
   | refine LeO.bind ?_ (fun _ => ?_)
set_option maxHeartbeats 8000000 in
set_option maxRecDepth 100000 in
theorem trivetlaw16_SpreadWhole.calls (k : Nat) (a0_0 : Int) (a0_1 : Int) (a0_2 : Int) (a0_3 : Int) (a0_4 : Int) (A0_5 : Option Addr) (c0_5 : Nat) (l0_5 : List Int) (a1 : Int) (a2 : Bool) (r : Bool) (w : World) (hr0_5 : Kd.C (Kd.int .i64) w A0_5 l0_5.length l0_5) (hc0_5 : l0_5.length ≤ c0_5) (h : trivetlaw16_SpreadWhole.f k a0_0 a0_1 a0_2 a0_3 a0_4 l0_5 a1 a2 = some r) :
  Calls Try.prog 4 #[.agg #[.int .i64 a0_0, .int .i64 a0_1, .int .i64 a0_2, .int .i64 a0_3, .int .i64 a0_4, .slice A0_5 l0_5.length c0_5], .int .i64 a1, .bool a2] w fun e w' => e = .returned (.bool r) ∧ Below w.heap.size w w' := by
 have hu24 := Try.underlying24
 have hu27 := Try.underlying27
 have hu29 := Try.underlying29
 have hu34 := Try.underlying34
 have HR0_5 := ka hr0_5
 have HC0_5 := ka hc0_5
 clear hr0_5 hc0_5
 have HB := ka (Below.refl w.heap.size w)
 have H : ((trivetlaw16_up.f k).bind fun t548 => ((spread_Of.f k a0_0 a0_1 a0_2 a0_3 a0_4 l0_5 a1 a2).bind fun bt549 => (if bt549.2.2.2.2.2.isNone = true then (trivetlaw16_SpreadWhole.l0 k a1 a2 t548 (wrap64 (a1 - bt549.2.2.2.1)) 0 a0_0 a0_1 a0_2 a0_3 a0_4 l0_5 bt549.1 bt549.2.1 bt549.2.2.1 bt549.2.2.2.1 bt549.2.2.2.2.1) else (some t548)))) = some r := h
 clear h
 replace H := Option.bind_eq_some_iff.mp H
 obtain ⟨t548, A40, H⟩ := H
 replace H : ((spread_Of.f k a0_0 a0_1 a0_2 a0_3 a0_4 l0_5 a1 a2).bind fun bt549 => (if bt549.2.2.2.2.2.isNone = true then (trivetlaw16_SpreadWhole.l0 k a1 a2 t548 (wrap64 (a1 - bt549.2.2.2.1)) 0 a0_0 a0_1 a0_2 a0_3 a0_4 l0_5 bt549.1 bt549.2.1 bt549.2.2.1 bt549.2.2.2.1 bt549.2.2.2.2.1) else (some t548))) = some r := H
 have A4 := ka A40
 clear A40
 replace H := Option.bind_eq_some_iff.mp H
 obtain ⟨⟨t549, t550, t551, t552, t553, t556⟩, A50, H⟩ := H
 replace H : (if t556.isNone = true then (trivetlaw16_SpreadWhole.l0 k a1 a2 t548 (wrap64 (a1 - t552)) 0 a0_0 a0_1 a0_2 a0_3 a0_4 l0_5 t549 t550 t551 t552 t553) else (some t548)) = some r := H
 have A5 := ka A50
 clear A50
 rcases t556 with _ | q558
 ·have H1 : (trivetlaw16_SpreadWhole.l0 k a1 a2 t548 (wrap64 (a1 - t552)) 0 a0_0 a0_1 a0_2 a0_3 a0_4 l0_5 t549 t550 t551 t552 t553) = some r := by rw [if_pos (show (none : Option Int).isNone = true by rfl)] at H; exact H
  clear H
  have H := H1
  clear H1
  try simp only [errW_none, errW_some]
  have H' := ka H
  clear H
  go_enter Try.func4, Try.ntmps4
  go_wp2_with (first | ((with_reducible refine gate_dst (N := 3) rfl ?_); refine kx (N := 3) (cs := #[.int .i64 a0_0, .int .i64 a0_1, .int .i64 a0_2, .int .i64 a0_3, .int .i64 a0_4, .slice A0_5 l0_5.length c0_5]) (t := 24) ?_; intro gb547 hg w6 hbox hb; have n0_ := ka (below_step (kw HB.out) hb); have n1_ := ka (hbox); have n2_ := ka ((by rw [hg]; exact (below_size (kw HB.out)) : w.heap.size ≤ gb547)); have n3_ := n2_; clear HB; have HB := n0_; have BK547 := n1_; have GW547 := n2_; have GE547 := n3_; clear n0_ n1_ n2_ n3_; clear hb hbox hg) | ((with_reducible refine gate_callee (f := 8) rfl ?_); refine kg (some 13) rfl rfl Try.func8 (by kernel_rfl) rfl #[] rfl ?_; (with_reducible refine (trivetlaw16_up.calls k  t548 _ A4.out).mono ?_); rintro e w7 ⟨rfl, hb⟩; refine ⟨_, rfl, ?_⟩; replace BK547 := kbb BK547 hb; replace HB := ka (below_step (kw HB.out) hb); (try clear hb); (try clear hb2); (try clear hk); (try clear hi); have hcz8 := blkAll6 BK547.out) | ((with_reducible refine gate_callee (f := 9) rfl ?_); refine kg (some 18) rfl rfl Try.func9 (by kernel_rfl) rfl #[.agg #[.int .i64 a0_0, .int .i64 a0_1, .int .i64 a0_2, .int .i64 a0_3, .int .i64 a0_4, .slice A0_5 l0_5.length c0_5], .int .i64 a1, .bool a2] rfl ?_; (with_reducible refine (spread_Of.calls k a0_0 a0_1 a0_2 a0_3 a0_4 _ _ l0_5 a1 a2 t549 t550 t551 t552 t553 none _ ?side1 ?side2 A5.out).mono ?_); (case side1 => repeat (first | exact (Kd.C_below HR0_5.out HB.out) | (with_reducible refine Kd.C_alloc ?_ _) | (with_reducible refine Kd.C_drewN ?_ _) | (with_reducible refine Kd.C_drew ?_))); (case side2 => exact HC0_5.out); rintro e w9 ⟨v554, rfl, ho0, hb⟩; refine ⟨_, rfl, ?_⟩; have HO555 := ka (Kd.R_lower ho0 (below_size (kw HB.out))); replace BK547 := kbb BK547 hb; replace HB := ka (below_step (kw HB.out) hb); (try clear hb); (try clear hb2); (try clear hk); (try clear hi); (try clear ho0); (try simp only [errW_none, errW_some])) | ((with_reducible refine gate_dst (N := 8) rfl ?_); refine kx (N := 8) (cs := #[.int .i64 0, .int .i64 0, .int .i64 0, .int .i64 0, .slice none 0 0]) (t := 27) ?_; intro gb557 hg w10 hbox hb; have n0_ := ka (Kd.R_below (kr HO555.out) hb); have n1_ := ka (blk_below (g := gb547) (kz BK547.out) hb); have n2_ := ka (below_step (kw HB.out) hb); have n3_ := ka (hbox); have n4_ := ka ((by rw [hg]; exact (below_size (kw HB.out)) : w.heap.size ≤ gb557)); have n5_ := n4_; have n6_ := ka ((by rw [hg]; exact Nat.ne_of_lt (blk_lt (g := gb547) (kz BK547.out)) : gb547 ≠ gb557)); have n7_ := ka n6_.out.symm; clear HO555; clear BK547; clear HB; have HO555 := n0_; have BK547 := n1_; have HB := n2_; have BK557 := n3_; have GW557 := n4_; have GE557 := n5_; have NB547_557 := n6_; have NB557_547 := n7_; clear n0_ n1_ n2_ n3_ n4_ n5_ n6_ n7_; clear hb hbox hg; have hnb11 := NB557_547.out; have hnc11 := NB547_557.out; have hcz12 := blkAll5 BK557.out; obtain ⟨Ao13, co13, eo13⟩ := Kd.R_slice HO555.out; subst eo13))
  (try simp only [Act.put, List.setIfInBounds_toArray, List.set_cons_zero, List.set_cons_succ])
  go_loopg [10, 11] k (fun kq v10 v11 w' => ∃ (x10_1 : Int) (x11_1 : Int), v10 = .int .i64 x10_1 ∧ v11 = .int .i64 x11_1 ∧ Aside0 (trivetlaw16_SpreadWhole.l0 kq a1 a2 t548 x10_1 x11_1 a0_0 a0_1 a0_2 a0_3 a0_4 l0_5 t549 t550 t551 t552 t553 = some r) ∧ Aside0 (kq ≤ k) ∧ Aside0 (Kd.R (Kd.int .i64) 2 w' w.heap.size (fun _ => True) (.slice Ao13 t553.length co13) t553) ∧ Aside0 (w'.heap[gb547]? = some (.cells #[.int .i64 a0_0, .int .i64 a0_1, .int .i64 a0_2, .int .i64 a0_3, .int .i64 a0_4, (.slice A0_5 l0_5.length c0_5)] 24 (0, 0))) ∧ Aside0 (w'.heap[gb557]? = some (.cells #[.int .i64 t549, .int .i64 t550, .int .i64 t551, .int .i64 t552, (.slice Ao13 t553.length co13)] 27 (0, 0))) ∧ Aside0 (Below w.heap.size w w'))
  case atStart => exact ⟨(wrap64 (a1 - t552)), (0), (by first | rfl | (simp; done) | (simp [*]; done)), (by first | rfl | (simp; done) | (simp [*]; done)), H', ⟨Nat.le_refl _⟩, ⟨kr (Kd.R_mono (Kd.R_far (p := ⟨gb557, 4, none⟩) (Kd.R_far (p := ⟨gb557, 3, none⟩) (Kd.R_far (p := ⟨gb557, 2, none⟩) (Kd.R_far (p := ⟨gb557, 1, none⟩) (Kd.R_far (p := ⟨gb557, 0, none⟩) (Kd.R_types HO555.out BK557.out (by decide)) (fun _ hk => hk.2) (.int .i64 t549)) (fun _ hk => hk.2) (.int .i64 t550)) (fun _ hk => hk.2) (.int .i64 t551)) (fun _ hk => hk.2) (.int .i64 t552)) (fun _ hk => hk.2) (.slice Ao13 t553.length co13)) (fun _ hk => trivial))⟩, ⟨by (with_reducible repeat (first | apply kb1 | apply kb2 | apply kb3 | refine kb4 ?_ NB547_557.out _)); exact BK547.out⟩, ⟨by (with_reducible repeat (first | apply kb1 | apply kb2 | apply kb3 | apply blkPut5_4 | apply blkPut5_3 | apply blkPut5_2 | apply blkPut5_1 | apply blkPut5_0)); exact BK557.out⟩, ⟨by repeat (first | (with_reducible first | exact HB.out | apply kc1 | apply kc2 | apply kc3 | refine kc4 ?_ GE547.out | refine kc4 ?_ GE557.out) | exact HB.out)⟩⟩
  case round =>
   clear H'
   try clear c1
   try clear p2
   try clear c4
   try clear q5
   try clear p6
   try clear c8
   try clear c9
   try clear c11
   try clear hcz12
   try clear hcz8
   try clear q558
   obtain ⟨x10_1, x11_1, rfl, rfl, HA, HK1, HO_558004, BK547, BK557, HB⟩ := hrel
   cases gk with
   | zero => exact absurd HA.out (by simp [trivetlaw16_SpreadWhole.l0])
   | succ k1 =>
    have H := HA.out
    clear HA
    simp only [trivetlaw16_SpreadWhole.l0] at H
    by_cases c14 : x11_1 < (t553.length : Int)
    ·rw [if_pos c14] at H
     have c14b0 : decide (x11_1 < (t553.length : Int)) = true := decide_eq_true c14
     clear c14
     by_cases c15 : 0 ≤ x11_1
     ·rw [if_pos c15] at H
      have c15b0 : decide (0 ≤ x11_1) = true := decide_eq_true c15
      clear c15
      have H' := ka H
      clear H
      have hnb16 := NB557_547.out
      have hnc16 := NB547_557.out
      have hcz17 := blkAll5 BK557.out
      have p559 : 0 ≤ (x11_1 : Int) := of_decide_eq_true (by first | (with_reducible assumption) | assumption)
      have q559 : x11_1 < (t553.length : Int) := of_decide_eq_true (by first | (with_reducible assumption) | assumption)
      obtain ⟨ad559, e559, hx559_0⟩ := Kd.at_int (Kd.R_reads' HO_558004.out).2.2 x11_1 p559 q559
      cases e559
      replace p559 := eq_true p559
      replace q559 := eq_true q559
      go_wp2
      go_roundg k1
      case measure => have := HK1.out; omega
      case rel => exact ⟨(wrap64 (x10_1 + (rd t553 x11_1))), (wrap64 (x11_1 + 1)), (by first | rfl | (simp; done) | (simp [*]; done)), (by first | rfl | (simp; done) | (simp [*]; done)), H', ⟨by have := HK1.out; omega⟩, ⟨kr HO_558004.out⟩, ⟨by (with_reducible repeat (first | apply kb1 | apply kb2 | apply kb3)); exact BK547.out⟩, ⟨by (with_reducible repeat (first | apply kb1 | apply kb2 | apply kb3)); exact BK557.out⟩, ⟨by repeat (first | (with_reducible first | exact HB.out | apply kc1 | apply kc2 | apply kc3 | refine kc4 ?_ GE547.out | refine kc4 ?_ GE557.out) | exact HB.out)⟩⟩
     ·rw [if_neg c15] at H
      exact absurd H (by simp)
    ·rw [if_neg c14] at H
     have c14b0 : decide (x11_1 < (t553.length : Int)) = false := decide_eq_false c14
     clear c14
     by_cases c18 : (t553.length : Int) = 12
     ·rw [if_pos c18] at H
      have c18b0 : ((t553.length : Int) == 12) = true := beq_iff_eq.mpr c18
      have c18b1 : ((t553.length : Int) != 12) = false := bne_eq_false_iff_eq.mpr c18
      clear c18
      by_cases c19 : x10_1 = a0_3
      ·rw [if_pos c19] at H
       have c19b0 : (x10_1 == a0_3) = true := beq_iff_eq.mpr c19
       have c19b1 : (x10_1 != a0_3) = false := bne_eq_false_iff_eq.mpr c19
       clear c19
       by_cases c20 : t549 < 0
       ·rw [if_pos c20] at H
        exact absurd H (by simp)
       ·rw [if_neg c20] at H
        have c20b0 : decide (t549 < 0) = false := decide_eq_false c20
        clear c20
        by_cases c21 : t550 < 0
        ·rw [if_pos c21] at H
         exact absurd H (by simp)
        ·rw [if_neg c21] at H
         have c21b0 : decide (t550 < 0) = false := decide_eq_false c21
         clear c21
         by_cases c22 : t551 < 0
         ·rw [if_pos c22] at H
          exact absurd H (by simp)
         ·rw [if_neg c22] at H
          have c22b0 : decide (t551 < 0) = false := decide_eq_false c22
          clear c22
          by_cases c23 : t549 > 0
          ·rw [if_pos c23] at H
           have c23b0 : decide (0 < t549) = true := decide_eq_true c23
           clear c23
           by_cases c24 : t550 > 0
           ·rw [if_pos c24] at H
            exact absurd H (by simp)
           ·rw [if_neg c24] at H
            have c24b0 : decide (0 < t550) = false := decide_eq_false c24
            clear c24
            by_cases c25 : t548 = true
            ·subst c25
             have H1 : (if t551 > 0 then (none) else (if t552 = 0 then (if a1 < 0 then (some (!(decide (a1 < a0_3)))) else (some true)) else (if t552 = t549 then (if a2 = true then (if t552 ≥ 5000 then (if a1 < 0 then (some (!(decide (a1 < a0_3)))) else (some true)) else (none)) else (none)) else (none)))) = some r := by rw [if_pos rfl] at H; exact H
             clear H
             have H := H1
             clear H1
             by_cases c26 : t551 > 0
             ·rw [if_pos c26] at H
              exact absurd H (by simp)
             ·rw [if_neg c26] at H
              have c26b0 : decide (0 < t551) = false := decide_eq_false c26
              clear c26
              by_cases c27 : t552 = 0
              ·rw [if_pos c27] at H
               have c27b0 : (t552 == 0) = true := beq_iff_eq.mpr c27
               have c27b1 : (t552 != 0) = false := bne_eq_false_iff_eq.mpr c27
               clear c27
               by_cases c28 : a1 < 0
               ·rw [if_pos c28] at H
                have c28b0 : decide (a1 < 0) = true := decide_eq_true c28
                clear c28
                obtain rfl := Option.some.inj H
                have hnb29 := NB557_547.out
                have hnc29 := NB547_557.out
                have hcz30 := blkAll5 BK557.out
                have hcz31 := blkAll6 BK547.out
                go_wp2
                go_ret
                exact ⟨by first | rfl | (simp [errW_none, errW_some] <;> rfl) | (simp [*, errW_none, errW_some] <;> rfl), by repeat (first | (with_reducible first | exact HB.out | apply kc1 | apply kc2 | apply kc3 | refine kc4 ?_ GE547.out | refine kc4 ?_ GE557.out) | exact HB.out)⟩
               ·rw [if_neg c28] at H
                have c28b0 : decide (a1 < 0) = false := decide_eq_false c28
                clear c28
                obtain rfl := Option.some.inj H
                have hnb32 := NB557_547.out
                have hnc32 := NB547_557.out
                have hcz33 := blkAll5 BK557.out
                have hcz34 := blkAll6 BK547.out
                go_wp2
                go_ret
                exact ⟨by first | rfl | (simp [errW_none, errW_some] <;> rfl) | (simp [*, errW_none, errW_some] <;> rfl), by repeat (first | (with_reducible first | exact HB.out | apply kc1 | apply kc2 | apply kc3 | refine kc4 ?_ GE547.out | refine kc4 ?_ GE557.out) | exact HB.out)⟩
              ·rw [if_neg c27] at H
               have c27b0 : (t552 == 0) = false := beq_eq_false_iff_ne.mpr c27
               have c27b1 : (t552 != 0) = true := bne_iff_ne.mpr c27
               by_cases c35 : t552 = t549
               ·rw [if_pos c35] at H
                have c35b0 : (t552 == t549) = true := beq_iff_eq.mpr c35
                have c35b1 : (t552 != t549) = false := bne_eq_false_iff_eq.mpr c35
                clear c35
                by_cases c36 : a2 = true
                ·subst c36
                 have H1 : (if t552 ≥ 5000 then (if a1 < 0 then (some (!(decide (a1 < a0_3)))) else (some true)) else (none)) = some r := by rw [if_pos rfl] at H; exact H
                 clear H
                 have H := H1
                 clear H1
                 by_cases c37 : t552 ≥ 5000
                 ·rw [if_pos c37] at H
                  have c37b0 : decide (5000 ≤ t552) = true := decide_eq_true c37
                  clear c37
                  by_cases c38 : a1 < 0
                  ·rw [if_pos c38] at H
                   have c38b0 : decide (a1 < 0) = true := decide_eq_true c38
                   clear c38
                   obtain rfl := Option.some.inj H
                   have hnb39 := NB557_547.out
                   have hnc39 := NB547_557.out
                   have hcz40 := blkAll5 BK557.out
                   have hcz41 := blkAll6 BK547.out
                   go_wp2
                   go_ret
                   exact ⟨by first | rfl | (simp [errW_none, errW_some] <;> rfl) | (simp [*, errW_none, errW_some] <;> rfl), by repeat (first | (with_reducible first | exact HB.out | apply kc1 | apply kc2 | apply kc3 | refine kc4 ?_ GE547.out | refine kc4 ?_ GE557.out) | exact HB.out)⟩
                  ·rw [if_neg c38] at H
                   have c38b0 : decide (a1 < 0) = false := decide_eq_false c38
                   clear c38
                   obtain rfl := Option.some.inj H
                   have hnb42 := NB557_547.out
                   have hnc42 := NB547_557.out
                   have hcz43 := blkAll5 BK557.out
                   have hcz44 := blkAll6 BK547.out
                   go_wp2
                   go_ret
                   exact ⟨by first | rfl | (simp [errW_none, errW_some] <;> rfl) | (simp [*, errW_none, errW_some] <;> rfl), by repeat (first | (with_reducible first | exact HB.out | apply kc1 | apply kc2 | apply kc3 | refine kc4 ?_ GE547.out | refine kc4 ?_ GE557.out) | exact HB.out)⟩
                 ·rw [if_neg c37] at H
                  exact absurd H (by simp)
                ·replace c36 := Bool.eq_false_iff.mpr c36
                 subst c36
                 have H1 : (none) = some r := by rw [if_neg (show ¬ (false = true) by decide)] at H; exact H
                 clear H
                 have H := H1
                 clear H1
                 exact absurd H (by simp)
               ·rw [if_neg c35] at H
                exact absurd H (by simp)
            ·replace c25 := Bool.eq_false_iff.mpr c25
             subst c25
             have H1 : (none) = some r := by rw [if_neg (show ¬ (false = true) by decide)] at H; exact H
             clear H
             have H := H1
             clear H1
             exact absurd H (by simp)
          ·rw [if_neg c23] at H
           have c23b0 : decide (0 < t549) = false := decide_eq_false c23
           clear c23
           by_cases c45 : t548 = true
           ·subst c45
            have H1 : (if t552 = 0 then (if a1 < 0 then (some ((decide (t551 > 0)) == (decide (a1 < a0_3)))) else (some (!(decide (t551 > 0))))) else (if t552 = t549 then (if a2 = true then (if t552 ≥ 5000 then (if a1 < 0 then (some ((decide (t551 > 0)) == (decide (a1 < a0_3)))) else (some (!(decide (t551 > 0))))) else (none)) else (none)) else (none))) = some r := by rw [if_pos rfl] at H; exact H
            clear H
            have H := H1
            clear H1
            by_cases c46 : t552 = 0
            ·rw [if_pos c46] at H
             have c46b0 : (t552 == 0) = true := beq_iff_eq.mpr c46
             have c46b1 : (t552 != 0) = false := bne_eq_false_iff_eq.mpr c46
             clear c46
             by_cases c47 : a1 < 0
             ·rw [if_pos c47] at H
              have c47b0 : decide (a1 < 0) = true := decide_eq_true c47
              clear c47
              obtain rfl := Option.some.inj H
              have hnb48 := NB557_547.out
              have hnc48 := NB547_557.out
              have hcz49 := blkAll5 BK557.out
              have hcz50 := blkAll6 BK547.out
              go_wp2
              go_ret
              exact ⟨by first | rfl | (simp [errW_none, errW_some] <;> rfl) | (simp [*, errW_none, errW_some] <;> rfl), by repeat (first | (with_reducible first | exact HB.out | apply kc1 | apply kc2 | apply kc3 | refine kc4 ?_ GE547.out | refine kc4 ?_ GE557.out) | exact HB.out)⟩
             ·rw [if_neg c47] at H
              have c47b0 : decide (a1 < 0) = false := decide_eq_false c47
              clear c47
              obtain rfl := Option.some.inj H
              have hnb51 := NB557_547.out
              have hnc51 := NB547_557.out
              have hcz52 := blkAll5 BK557.out
              have hcz53 := blkAll6 BK547.out
              go_wp2
              go_ret
              exact ⟨by first | rfl | (simp [errW_none, errW_some] <;> rfl) | (simp [*, errW_none, errW_some] <;> rfl), by repeat (first | (with_reducible first | exact HB.out | apply kc1 | apply kc2 | apply kc3 | refine kc4 ?_ GE547.out | refine kc4 ?_ GE557.out) | exact HB.out)⟩
            ·rw [if_neg c46] at H
             have c46b0 : (t552 == 0) = false := beq_eq_false_iff_ne.mpr c46
             have c46b1 : (t552 != 0) = true := bne_iff_ne.mpr c46
             by_cases c54 : t552 = t549
             ·rw [if_pos c54] at H
              have c54b0 : (t552 == t549) = true := beq_iff_eq.mpr c54
              have c54b1 : (t552 != t549) = false := bne_eq_false_iff_eq.mpr c54
              clear c54
              by_cases c55 : a2 = true
              ·subst c55
               have H1 : (if t552 ≥ 5000 then (if a1 < 0 then (some ((decide (t551 > 0)) == (decide (a1 < a0_3)))) else (some (!(decide (t551 > 0))))) else (none)) = some r := by rw [if_pos rfl] at H; exact H
               clear H
               have H := H1
               clear H1
               by_cases c56 : t552 ≥ 5000
               ·rw [if_pos c56] at H
                have c56b0 : decide (5000 ≤ t552) = true := decide_eq_true c56
                clear c56
                by_cases c57 : a1 < 0
                ·rw [if_pos c57] at H
                 have c57b0 : decide (a1 < 0) = true := decide_eq_true c57
                 clear c57
                 obtain rfl := Option.some.inj H
                 have hnb58 := NB557_547.out
                 have hnc58 := NB547_557.out
                 have hcz59 := blkAll5 BK557.out
                 have hcz60 := blkAll6 BK547.out
                 go_wp2
                 go_ret
                 exact ⟨by first | rfl | (simp [errW_none, errW_some] <;> rfl) | (simp [*, errW_none, errW_some] <;> rfl), by repeat (first | (with_reducible first | exact HB.out | apply kc1 | apply kc2 | apply kc3 | refine kc4 ?_ GE547.out | refine kc4 ?_ GE557.out) | exact HB.out)⟩
                ·rw [if_neg c57] at H
                 have c57b0 : decide (a1 < 0) = false := decide_eq_false c57
                 clear c57
                 obtain rfl := Option.some.inj H
                 have hnb61 := NB557_547.out
                 have hnc61 := NB547_557.out
                 have hcz62 := blkAll5 BK557.out
                 have hcz63 := blkAll6 BK547.out
                 go_wp2
                 go_ret
                 exact ⟨by first | rfl | (simp [errW_none, errW_some] <;> rfl) | (simp [*, errW_none, errW_some] <;> rfl), by repeat (first | (with_reducible first | exact HB.out | apply kc1 | apply kc2 | apply kc3 | refine kc4 ?_ GE547.out | refine kc4 ?_ GE557.out) | exact HB.out)⟩
               ·rw [if_neg c56] at H
                exact absurd H (by simp)
              ·replace c55 := Bool.eq_false_iff.mpr c55
               subst c55
               have H1 : (none) = some r := by rw [if_neg (show ¬ (false = true) by decide)] at H; exact H
               clear H
               have H := H1
               clear H1
               exact absurd H (by simp)
             ·rw [if_neg c54] at H
              exact absurd H (by simp)
           ·replace c45 := Bool.eq_false_iff.mpr c45
            subst c45
            have H1 : (none) = some r := by rw [if_neg (show ¬ (false = true) by decide)] at H; exact H
            clear H
            have H := H1
            clear H1
            exact absurd H (by simp)
      ·rw [if_neg c19] at H
       exact absurd H (by simp)
     ·rw [if_neg c18] at H
      exact absurd H (by simp)
 ·have H1 : (some t548) = some r := by rw [if_neg (show ¬ (some q558).isNone = true by simp)] at H; exact H
  clear H
  have H := H1
  clear H1
  try simp only [errW_none, errW_some]
  obtain rfl := Option.some.inj H
  go_enter Try.func4, Try.ntmps4
  go_wp2_with (first | ((with_reducible refine gate_dst (N := 3) rfl ?_); refine kx (N := 3) (cs := #[.int .i64 a0_0, .int .i64 a0_1, .int .i64 a0_2, .int .i64 a0_3, .int .i64 a0_4, .slice A0_5 l0_5.length c0_5]) (t := 24) ?_; intro gb547 hg w64 hbox hb; have n0_ := ka (below_step (kw HB.out) hb); have n1_ := ka (hbox); have n2_ := ka ((by rw [hg]; exact (below_size (kw HB.out)) : w.heap.size ≤ gb547)); have n3_ := n2_; clear HB; have HB := n0_; have BK547 := n1_; have GW547 := n2_; have GE547 := n3_; clear n0_ n1_ n2_ n3_; clear hb hbox hg) | ((with_reducible refine gate_callee (f := 8) rfl ?_); refine kg (some 13) rfl rfl Try.func8 (by kernel_rfl) rfl #[] rfl ?_; (with_reducible refine (trivetlaw16_up.calls k  t548 _ A4.out).mono ?_); rintro e w65 ⟨rfl, hb⟩; refine ⟨_, rfl, ?_⟩; replace BK547 := kbb BK547 hb; replace HB := ka (below_step (kw HB.out) hb); (try clear hb); (try clear hb2); (try clear hk); (try clear hi); have hcz66 := blkAll6 BK547.out) | ((with_reducible refine gate_callee (f := 9) rfl ?_); refine kg (some 18) rfl rfl Try.func9 (by kernel_rfl) rfl #[.agg #[.int .i64 a0_0, .int .i64 a0_1, .int .i64 a0_2, .int .i64 a0_3, .int .i64 a0_4, .slice A0_5 l0_5.length c0_5], .int .i64 a1, .bool a2] rfl ?_; (with_reducible refine (spread_Of.calls k a0_0 a0_1 a0_2 a0_3 a0_4 _ _ l0_5 a1 a2 t549 t550 t551 t552 t553 (some q558) _ ?side1 ?side2 A5.out).mono ?_); (case side1 => repeat (first | exact (Kd.C_below HR0_5.out HB.out) | (with_reducible refine Kd.C_alloc ?_ _) | (with_reducible refine Kd.C_drewN ?_ _) | (with_reducible refine Kd.C_drew ?_))); (case side2 => exact HC0_5.out); rintro e w67 ⟨v554, rfl, ho0, hb⟩; refine ⟨_, rfl, ?_⟩; have HO555 := ka (Kd.R_lower ho0 (below_size (kw HB.out))); replace BK547 := kbb BK547 hb; replace HB := ka (below_step (kw HB.out) hb); (try clear hb); (try clear hb2); (try clear hk); (try clear hi); (try clear ho0); (try simp only [errW_none, errW_some])) | ((with_reducible refine gate_dst (N := 8) rfl ?_); refine kx (N := 8) (cs := #[.int .i64 0, .int .i64 0, .int .i64 0, .int .i64 0, .slice none 0 0]) (t := 27) ?_; intro gb557 hg w68 hbox hb; have n0_ := ka (Kd.R_below (kr HO555.out) hb); have n1_ := ka (blk_below (g := gb547) (kz BK547.out) hb); have n2_ := ka (below_step (kw HB.out) hb); have n3_ := ka (hbox); have n4_ := ka ((by rw [hg]; exact (below_size (kw HB.out)) : w.heap.size ≤ gb557)); have n5_ := n4_; have n6_ := ka ((by rw [hg]; exact Nat.ne_of_lt (blk_lt (g := gb547) (kz BK547.out)) : gb547 ≠ gb557)); have n7_ := ka n6_.out.symm; clear HO555; clear BK547; clear HB; have HO555 := n0_; have BK547 := n1_; have HB := n2_; have BK557 := n3_; have GW557 := n4_; have GE557 := n5_; have NB547_557 := n6_; have NB557_547 := n7_; clear n0_ n1_ n2_ n3_ n4_ n5_ n6_ n7_; clear hb hbox hg; have hnb69 := NB557_547.out; have hnc69 := NB547_557.out; have hcz70 := blkAll5 BK557.out; obtain ⟨Ao71, co71, eo71⟩ := Kd.R_slice HO555.out; subst eo71))
  go_ret
  exact ⟨by first | rfl | (simp [errW_none, errW_some] <;> rfl) | (simp [*, errW_none, errW_some] <;> rfl), by repeat (first | (with_reducible first | exact HB.out | apply kc1 | apply kc2 | apply kc3 | refine kc4 ?_ GE547.out | refine kc4 ?_ GE557.out) | exact HB.out)⟩

/-- THE ONE PURE STATEMENT of trivetlaw16_SpreadWhole: yours. -/
def trivetlaw16_SpreadWhole.Pure : Prop := ∀ (a0_0 : Int) (a0_1 : Int) (a0_2 : Int) (a0_3 : Int) (a0_4 : Int) (l0_5 : List Int) (a1 : Int) (a2 : Bool), (Lit.int .i64 a0_0).wf = true → (Lit.int .i64 a0_1).wf = true → (Lit.int .i64 a0_2).wf = true → (Lit.int .i64 a0_3).wf = true → (Lit.int .i64 a0_4).wf = true → l0_5.length ≤ maxLen → l0_5.length * 8 ≤ 140737488351232 → (∀ x ∈ l0_5, (Lit.int .i64 x).wf = true) → (Lit.int .i64 a1).wf = true → ∃ k, trivetlaw16_SpreadWhole.f k a0_0 a0_1 a0_2 a0_3 a0_4 l0_5 a1 a2 = some true
theorem trivetlaw16_SpreadWhole.walk (P : trivetlaw16_SpreadWhole.Pure) (a0_0 : Int) (a0_1 : Int) (a0_2 : Int) (a0_3 : Int) (a0_4 : Int) (a0_5 : Option Addr) (len0_5 cap0_5 : Nat) (z0_5 : List Int) (a1 : Int) (a2 : Bool) (w : World) (w0_0 : (Lit.int .i64 a0_0).wf = true) (w0_1 : (Lit.int .i64 a0_1).wf = true) (w0_2 : (Lit.int .i64 a0_2).wf = true) (w0_3 : (Lit.int .i64 a0_3).wf = true) (w0_4 : (Lit.int .i64 a0_4).wf = true) (w0_5 : (a0_5 = none ∧ len0_5 = 0 ∧ cap0_5 = 0 ∧ z0_5 = []) ∨ ∃ x, a0_5 = some x ∧ len0_5 ≤ cap0_5 ∧ cap0_5 ≤ maxLen ∧ z0_5.length = cap0_5 ∧ (∀ i, i < z0_5.length → w.cell? (x.add i) = some (.int .i64 (z0_5.getD i 0))) ∧ ∀ n ∈ z0_5, (Lit.int .i64 n).wf = true) (y0_5 : len0_5 * 8 ≤ 140737488351232) (w1 : (Lit.int .i64 a1).wf = true) :
  Calls Try.prog 4 #[.agg #[.int .i64 a0_0, .int .i64 a0_1, .int .i64 a0_2, .int .i64 a0_3, .int .i64 a0_4, .slice a0_5 len0_5 cap0_5], .int .i64 a1, .bool a2] w fun e w' => e = .returned (.bool true) ∧ Below w.heap.size w w' := by
 obtain ⟨l0_5, rfl, hr0_5, hm0_5, hw0_5, hc0_5⟩ := ReadsInt.ofRowC w0_5
 obtain ⟨k, h⟩ := P a0_0 a0_1 a0_2 a0_3 a0_4 l0_5 a1 a2 w0_0 w0_1 w0_2 w0_3 w0_4 hm0_5 y0_5 hw0_5 w1
 refine (trivetlaw16_SpreadWhole.calls k a0_0 a0_1 a0_2 a0_3 a0_4 _ _ l0_5 a1 a2 true w (Kd.C_of_reads (d := (0 : Int)) (h1 := fun _ => rfl) hr0_5) hc0_5 h).mono ?_
 rintro e w' ⟨rfl, hd⟩
 exact ⟨rfl, hd⟩

end Go.Proofs.Ytjeghhheenenbaa.P
