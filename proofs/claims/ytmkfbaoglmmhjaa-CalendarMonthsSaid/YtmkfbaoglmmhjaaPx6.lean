-- Written by a program of this session out of the translation of the seat: Lean functions and the proofs that the Go functions come to them.
import Derived.Test.YtmkfbaoglmmhjaaPx0
import Derived.Test.YtmkfbaoglmmhjaaPx1
import Derived.Test.YtmkfbaoglmmhjaaPx3
import Derived.Test.YtmkfbaoglmmhjaaPx4
namespace Go.Proofs.Ytmkfbaoglmmhjaa.P
open Go.RowKit Go.Proofs.YtmkfbaoglmmhjaaW.PrintWords Go.Proofs.YtmkfbaoglmmhjaaW.PrintLast Go.Proofs.YtmkfbaoglmmhjaaW.PrintMore
attribute [local go_sem] max2_int min2_int max_two min_two max_three min_three max_four min_four   -- for this text's walks alone
set_option linter.unusedVariables false
set_option linter.unusedSimpArgs false

/-! ### trivetlaw14_Same: function 14 -/
def trivetlaw14_Same.l0 : Nat → List Int → List Int → Int → Option (Bool)
 | 0, _, _, _ => none
 | k + 1, x0, x1, x5 => if x5 < (x0.length : Int) then (if 0 ≤ x5 then (if x5 < (x1.length : Int) then (if (rd x0 x5) = (rd x1 x5) then (trivetlaw14_Same.l0 k x0 x1 (wrap64 (x5 + 1))) else (some false)) else (none)) else (none)) else (some true)
def trivetlaw14_Same.f (k : Nat) (l0 : List Int) (l1 : List Int) : Option (Bool) := if (l0.length : Int) = (l1.length : Int) then (trivetlaw14_Same.l0 k l0 l1 0) else (some false)
theorem trivetlaw14_Same.mono_l : ∀ k, (∀ y0 y1 y2, LeO (trivetlaw14_Same.l0 k y0 y1 y2) (trivetlaw14_Same.l0 (k + 1) y0 y1 y2))
 | 0 => fun _ _ _ r h => by simp [trivetlaw14_Same.l0] at h
 | k + 1 => by
  have ih0 := trivetlaw14_Same.mono_l k
  ·intro y0 y1 y2
   unfold trivetlaw14_Same.l0
   repeat' first
   | (with_reducible exact ih0 _ _ _)
   | (with_reducible exact LeO.refl _)
   | (with_reducible exact LeO.none _)
   | (with_reducible refine LeO.ite ?_ ?_)
   | (with_reducible refine LeO.bind ?_ (fun _ => ?_))
   | exact ih0 _ _ _
   | exact LeO.none _
   | refine LeO.ite ?_ ?_
   | refine LeO.bind ?_ (fun _ => ?_)
theorem trivetlaw14_Same.mono : ∀ a0 a1 k, LeO (trivetlaw14_Same.f k a0 a1) (trivetlaw14_Same.f (k + 1) a0 a1) := by
 intro a0 a1 k
 have ih0 := trivetlaw14_Same.mono_l k
 unfold trivetlaw14_Same.f
 repeat' first
   | (with_reducible exact ih0 _ _ _)
   | (with_reducible exact LeO.refl _)
   | (with_reducible exact LeO.none _)
   | (with_reducible refine LeO.ite ?_ ?_)
   | (with_reducible refine LeO.bind ?_ (fun _ => ?_))
   | exact ih0 _ _ _
   | exact LeO.none _
   | refine LeO.ite ?_ ?_
   | refine LeO.bind ?_ (fun _ => ?_)
set_option maxHeartbeats 8000000 in
set_option maxRecDepth 100000 in
theorem trivetlaw14_Same.calls (k : Nat) (A0 : Option Addr) (c0 : Nat) (l0 : List Int) (A1 : Option Addr) (c1 : Nat) (l1 : List Int) (r : Bool) (w : World) (hr0 : Kd.C (Kd.int .i64) w A0 l0.length l0) (hc0 : l0.length ≤ c0) (hr1 : Kd.C (Kd.int .i64) w A1 l1.length l1) (hc1 : l1.length ≤ c1) (h : trivetlaw14_Same.f k l0 l1 = some r) :
  Calls Try.prog 14 #[.slice A0 l0.length c0, .slice A1 l1.length c1] w fun e w' => e = .returned (.bool r) ∧ Drawn0 w w' := by
 have HR0 := ka hr0
 have HC0 := ka hc0
 clear hr0 hc0
 have HR1 := ka hr1
 have HC1 := ka hc1
 clear hr1 hc1
 have H : (if (l0.length : Int) = (l1.length : Int) then (trivetlaw14_Same.l0 k l0 l1 0) else (some false)) = some r := h
 clear h
 by_cases c3 : (l0.length : Int) = (l1.length : Int)
 ·rw [if_pos c3] at H
  have c3b0 : ((l0.length : Int) == (l1.length : Int)) = true := beq_iff_eq.mpr c3
  have c3b1 : ((l0.length : Int) != (l1.length : Int)) = false := bne_eq_false_iff_eq.mpr c3
  have c3b2 : (l0.length == l1.length) = true := by first | simpa using c3 | (simp at c3 ⊢; omega)
  clear c3
  have H' := ka H
  clear H
  go_enter Try.func14, Try.ntmps14
  go_wp2
  repeat (go_quiet (fail); try go_wp2)
  (try simp only [Act.put, List.setIfInBounds_toArray, List.set_cons_zero, List.set_cons_succ])
  go_loopg [5] k (fun kq v5 w' => ∃ (x5_1 : Int), v5 = .int .i64 x5_1 ∧ Aside0 (trivetlaw14_Same.l0 kq l0 l1 x5_1 = some r) ∧ Aside0 (kq ≤ k) ∧ Drawn0 w w')
  case atStart => exact ⟨(0), (by first | rfl | (simp; done) | (simp [*]; done)), H', ⟨Nat.le_refl _⟩, by repeat (first | exact Drawn0.refl _ | apply Drawn0.step)⟩
  case round =>
   clear H'
   try clear c1
   try clear p2
   try clear c3
   try clear c3b0
   try clear c3b1
   try clear c3b2
   obtain ⟨x5_1, rfl, HA, HK1, ⟨m1, rfl⟩⟩ := hrel
   cases gk with
   | zero => exact absurd HA.out (by simp [trivetlaw14_Same.l0])
   | succ k1 =>
    have H := HA.out
    clear HA
    simp only [trivetlaw14_Same.l0] at H
    by_cases c4 : x5_1 < (l0.length : Int)
    ·rw [if_pos c4] at H
     have c4b0 : decide (x5_1 < (l0.length : Int)) = true := decide_eq_true c4
     clear c4
     by_cases c5 : 0 ≤ x5_1
     ·rw [if_pos c5] at H
      have c5b0 : decide (0 ≤ x5_1) = true := decide_eq_true c5
      clear c5
      by_cases c6 : x5_1 < (l1.length : Int)
      ·rw [if_pos c6] at H
       have c6b0 : decide (x5_1 < (l1.length : Int)) = true := decide_eq_true c6
       clear c6
       by_cases c7 : (rd l0 x5_1) = (rd l1 x5_1)
       ·rw [if_pos c7] at H
        have c7b0 : ((rd l0 x5_1) == (rd l1 x5_1)) = true := beq_iff_eq.mpr c7
        have c7b1 : ((rd l0 x5_1) != (rd l1 x5_1)) = false := bne_eq_false_iff_eq.mpr c7
        clear c7
        have H' := ka H
        clear H
        have p461 : 0 ≤ (x5_1 : Int) := of_decide_eq_true (by first | (with_reducible assumption) | assumption)
        have q461 : x5_1 < (l0.length : Int) := of_decide_eq_true (by first | (with_reducible assumption) | assumption)
        obtain ⟨ad461, e461, hx461_0⟩ := Kd.at_int HR0.out x5_1 p461 q461
        cases e461
        replace p461 := eq_true p461
        replace q461 := eq_true q461
        have p462 : 0 ≤ (x5_1 : Int) := of_decide_eq_true (by first | (with_reducible assumption) | assumption)
        have q462 : x5_1 < (l1.length : Int) := of_decide_eq_true (by first | (with_reducible assumption) | assumption)
        obtain ⟨ad462, e462, hx462_0⟩ := Kd.at_int HR1.out x5_1 p462 q462
        cases e462
        replace p462 := eq_true p462
        replace q462 := eq_true q462
        go_wp2
        repeat (go_quiet (fail); try go_wp2)
        go_roundg k1
        case measure => have := HK1.out; omega
        case rel => exact ⟨(wrap64 (x5_1 + 1)), (by first | rfl | (simp; done) | (simp [*]; done)), H', ⟨by have := HK1.out; omega⟩, by repeat (first | exact Drawn0.refl _ | apply Drawn0.step)⟩
       ·rw [if_neg c7] at H
        have c7b0 : ((rd l0 x5_1) == (rd l1 x5_1)) = false := beq_eq_false_iff_ne.mpr c7
        have c7b1 : ((rd l0 x5_1) != (rd l1 x5_1)) = true := bne_iff_ne.mpr c7
        obtain rfl := Option.some.inj H
        have p461 : 0 ≤ (x5_1 : Int) := of_decide_eq_true (by first | (with_reducible assumption) | assumption)
        have q461 : x5_1 < (l0.length : Int) := of_decide_eq_true (by first | (with_reducible assumption) | assumption)
        obtain ⟨ad461, e461, hx461_0⟩ := Kd.at_int HR0.out x5_1 p461 q461
        cases e461
        replace p461 := eq_true p461
        replace q461 := eq_true q461
        have p462 : 0 ≤ (x5_1 : Int) := of_decide_eq_true (by first | (with_reducible assumption) | assumption)
        have q462 : x5_1 < (l1.length : Int) := of_decide_eq_true (by first | (with_reducible assumption) | assumption)
        obtain ⟨ad462, e462, hx462_0⟩ := Kd.at_int HR1.out x5_1 p462 q462
        cases e462
        replace p462 := eq_true p462
        replace q462 := eq_true q462
        go_wp2
        repeat (go_quiet (fail); try go_wp2)
        go_ret
        exact ⟨by first | rfl | (simp; done) | (simp [*]; done), by repeat (first | exact Drawn0.refl _ | apply Drawn0.step)⟩
      ·rw [if_neg c6] at H
       exact absurd H (by simp)
     ·rw [if_neg c5] at H
      exact absurd H (by simp)
    ·rw [if_neg c4] at H
     have c4b0 : decide (x5_1 < (l0.length : Int)) = false := decide_eq_false c4
     clear c4
     obtain rfl := Option.some.inj H
     go_wp2
     repeat (go_quiet (fail); try go_wp2)
     go_ret
     exact ⟨by first | rfl | (simp; done) | (simp [*]; done), by repeat (first | exact Drawn0.refl _ | apply Drawn0.step)⟩
 ·rw [if_neg c3] at H
  have c3b0 : ((l0.length : Int) == (l1.length : Int)) = false := beq_eq_false_iff_ne.mpr c3
  have c3b1 : ((l0.length : Int) != (l1.length : Int)) = true := bne_iff_ne.mpr c3
  have c3b2 : (l0.length == l1.length) = false := by first | simpa using c3 | (simp at c3 ⊢; omega)
  obtain rfl := Option.some.inj H
  go_enter Try.func14, Try.ntmps14
  go_wp2
  repeat (go_quiet (fail); try go_wp2)
  go_ret
  exact ⟨by first | rfl | (simp; done) | (simp [*]; done), by repeat (first | exact Drawn0.refl _ | apply Drawn0.step)⟩

/-! ### trivetlaw14_Same: function 14, its laws -/
theorem trivetlaw14_Same.loop (n : Nat) : ∀ (k i : Nat) (a : List Int), a.length = i + n → a.length ≤ 1000000000000000 → n < k → trivetlaw14_Same.l0 k a a i = some true := by
 induction n with
 | zero =>
  intro k i a hl hm hk
  obtain ⟨j, rfl⟩ : ∃ j, k = j + 1 := ⟨k - 1, by omega⟩
  simp only [trivetlaw14_Same.l0]
  rw [if_neg (by omega)]
 | succ n ih =>
  intro k i a hl hm hk
  obtain ⟨j, rfl⟩ : ∃ j, k = j + 1 := ⟨k - 1, by omega⟩
  simp only [trivetlaw14_Same.l0]
  rw [if_pos (by omega), if_pos (by omega), if_pos (by omega), if_pos trivial, M.w64_id (n := (i : Int) + 1) (by omega) (by omega)]
  exact ih j (i + 1) a (by omega) hm (by omega)
theorem trivetlaw14_Same.num (k : Nat) (a : List Int) (hm : a.length ≤ 1000) (hk : 1001 ≤ k) : trivetlaw14_Same.f k a a = some true := by
 unfold trivetlaw14_Same.f
 rw [if_pos rfl]
 exact trivetlaw14_Same.loop a.length k 0 a (by omega) (by omega) (by omega)
theorem trivetlaw14_Same.any (k : Nat) (a : List Int) (hm : a.length ≤ 1000000000000000) (hk : a.length < k) : trivetlaw14_Same.f k a a = some true := by
 unfold trivetlaw14_Same.f
 rw [if_pos rfl]
 exact trivetlaw14_Same.loop a.length k 0 a (by omega) hm (by omega)

/-! ### trivetref14_Months: function 15 -/
mutual
def trivetref14_Months.l0 : Nat → List (S48) → List Int → Int → Int → Int → Int → Option (List Int)
 | 0, _, _, _, _, _, _ => none
 | k + 1, x0, x7, x8, x468000, x468001, x468002 => if x8 < 12 then (if (wrap64 (x468001 + x8)) > 12 then (trivetref14_Months.j1 k x0 x7 x8 (wrap64 ((wrap64 (x468001 + x8)) - 12)) x468000 x468001 x468002) else (trivetref14_Months.j1 k x0 x7 x8 (wrap64 (x468001 + x8)) x468000 x468001 x468002)) else (some x7)
def trivetref14_Months.j1 : Nat → List (S48) → List Int → Int → Int → Int → Int → Int → Option (List Int)
 | 0, _, _, _, _, _, _, _ => none
 | k + 1, x0, x7, x8, x9, x468000, x468001, x468002 => trivetref14_Months.l1 k x0 x7 x8 x9 0 0 x468000 x468001 x468002
def trivetref14_Months.l1 : Nat → List (S48) → List Int → Int → Int → Int → Int → Int → Int → Int → Option (List Int)
 | 0, _, _, _, _, _, _, _, _, _ => none
 | k + 1, x0, x7, x8, x9, x10, x11, x468000, x468001, x468002 => if x11 < (x0.length : Int) then (if 0 ≤ x11 then (if ((rd_T48 x0 x11).f0) = x9 then (trivetref14_Months.l1 k x0 x7 x8 x9 (wrap64 (x10 + ((rd_T48 x0 x11).f2))) (wrap64 (x11 + 1)) x468000 x468001 x468002) else (trivetref14_Months.l1 k x0 x7 x8 x9 x10 (wrap64 (x11 + 1)) x468000 x468001 x468002)) else (none)) else (if x7.length < 17592186044416 then (trivetref14_Months.l0 k x0 (x7 ++ [x10]) (wrap64 (x8 + 1)) x468000 x468001 x468002) else (none))
end
def trivetref14_Months.f (k : Nat) (l0 : List (S48)) (a1 : Int) : Option (List Int) := (trivetref04_Of_s.f a1).bind fun bt463 => (trivetref14_Months.l0 k l0 ([] : List Int) 0 bt463.1 bt463.2.1 bt463.2.2.1)
theorem trivetref14_Months.mono_l : ∀ k, (∀ y0 y1 y2 y3 y4 y5, LeO (trivetref14_Months.l0 k y0 y1 y2 y3 y4 y5) (trivetref14_Months.l0 (k + 1) y0 y1 y2 y3 y4 y5)) ∧ (∀ y0 y1 y2 y3 y4 y5 y6, LeO (trivetref14_Months.j1 k y0 y1 y2 y3 y4 y5 y6) (trivetref14_Months.j1 (k + 1) y0 y1 y2 y3 y4 y5 y6)) ∧ (∀ y0 y1 y2 y3 y4 y5 y6 y7 y8, LeO (trivetref14_Months.l1 k y0 y1 y2 y3 y4 y5 y6 y7 y8) (trivetref14_Months.l1 (k + 1) y0 y1 y2 y3 y4 y5 y6 y7 y8))
 | 0 => ⟨fun _ _ _ _ _ _ r h => by simp [trivetref14_Months.l0] at h, fun _ _ _ _ _ _ _ r h => by simp [trivetref14_Months.j1] at h, fun _ _ _ _ _ _ _ _ _ r h => by simp [trivetref14_Months.l1] at h⟩
 | k + 1 => by
  obtain ⟨ih0, ih1, ih2⟩ := trivetref14_Months.mono_l k
  refine ⟨?_, ?_, ?_⟩
  ·intro y0 y1 y2 y3 y4 y5
   unfold trivetref14_Months.l0
   repeat' first
   | (with_reducible exact ih0 _ _ _ _ _ _)
   | (with_reducible exact ih1 _ _ _ _ _ _ _)
   | (with_reducible exact ih2 _ _ _ _ _ _ _ _ _)
   | (with_reducible exact LeO.refl _)
   | (with_reducible exact LeO.none _)
   | (with_reducible refine LeO.ite ?_ ?_)
   | (with_reducible refine LeO.bind ?_ (fun _ => ?_))
   | exact ih0 _ _ _ _ _ _
   | exact ih1 _ _ _ _ _ _ _
   | exact ih2 _ _ _ _ _ _ _ _ _
   | exact LeO.none _
   | refine LeO.ite ?_ ?_
   | refine LeO.bind ?_ (fun _ => ?_)
  ·intro y0 y1 y2 y3 y4 y5 y6
   unfold trivetref14_Months.j1
   repeat' first
   | (with_reducible exact ih0 _ _ _ _ _ _)
   | (with_reducible exact ih1 _ _ _ _ _ _ _)
   | (with_reducible exact ih2 _ _ _ _ _ _ _ _ _)
   | (with_reducible exact LeO.refl _)
   | (with_reducible exact LeO.none _)
   | (with_reducible refine LeO.ite ?_ ?_)
   | (with_reducible refine LeO.bind ?_ (fun _ => ?_))
   | exact ih0 _ _ _ _ _ _
   | exact ih1 _ _ _ _ _ _ _
   | exact ih2 _ _ _ _ _ _ _ _ _
   | exact LeO.none _
   | refine LeO.ite ?_ ?_
   | refine LeO.bind ?_ (fun _ => ?_)
  ·intro y0 y1 y2 y3 y4 y5 y6 y7 y8
   unfold trivetref14_Months.l1
   repeat' first
   | (with_reducible exact ih0 _ _ _ _ _ _)
   | (with_reducible exact ih1 _ _ _ _ _ _ _)
   | (with_reducible exact ih2 _ _ _ _ _ _ _ _ _)
   | (with_reducible exact LeO.refl _)
   | (with_reducible exact LeO.none _)
   | (with_reducible refine LeO.ite ?_ ?_)
   | (with_reducible refine LeO.bind ?_ (fun _ => ?_))
   | exact ih0 _ _ _ _ _ _
   | exact ih1 _ _ _ _ _ _ _
   | exact ih2 _ _ _ _ _ _ _ _ _
   | exact LeO.none _
   | refine LeO.ite ?_ ?_
   | refine LeO.bind ?_ (fun _ => ?_)
theorem trivetref14_Months.mono : ∀ a0 a1 k, LeO (trivetref14_Months.f k a0 a1) (trivetref14_Months.f (k + 1) a0 a1) := by
 intro a0 a1 k
 obtain ⟨ih0, ih1, ih2⟩ := trivetref14_Months.mono_l k
 unfold trivetref14_Months.f
 repeat' first
   | (with_reducible exact ih0 _ _ _ _ _ _)
   | (with_reducible exact ih1 _ _ _ _ _ _ _)
   | (with_reducible exact ih2 _ _ _ _ _ _ _ _ _)
   | (with_reducible exact LeO.refl _)
   | (with_reducible exact LeO.none _)
   | (with_reducible refine LeO.ite ?_ ?_)
   | (with_reducible refine LeO.bind ?_ (fun _ => ?_))
   | exact ih0 _ _ _ _ _ _
   | exact ih1 _ _ _ _ _ _ _
   | exact ih2 _ _ _ _ _ _ _ _ _
   | exact LeO.none _
   | refine LeO.ite ?_ ?_
   | refine LeO.bind ?_ (fun _ => ?_)
set_option maxHeartbeats 8000000 in
set_option maxRecDepth 100000 in
theorem trivetref14_Months.calls (k : Nat) (A0 : Option Addr) (c0 : Nat) (l0 : List (S48)) (a1 : Int) (r : List Int) (w : World) (hr0 : Kd.C k48 w A0 l0.length l0) (hc0 : l0.length ≤ c0) (h : trivetref14_Months.f k l0 a1 = some r) :
  Calls Try.prog 15 #[.slice A0 l0.length c0, .int .i64 a1] w fun e w' => ∃ v0_ : Value, e = .returned (v0_) ∧ Kd.R (Kd.int .i64) 2 w' w.heap.size (fun _ => True) v0_ r ∧ Below w.heap.size w w' := by
 have hu30 := Try.underlying30
 have HR0 := ka hr0
 have HC0 := ka hc0
 clear hr0 hc0
 have HB := ka (Below.refl w.heap.size w)
 have H : ((trivetref04_Of_s.f a1).bind fun bt463 => (trivetref14_Months.l0 k l0 ([] : List Int) 0 bt463.1 bt463.2.1 bt463.2.2.1)) = some r := h
 clear h
 replace H := Option.bind_eq_some_iff.mp H
 obtain ⟨⟨t463, t464, t465, t466⟩, A30, H⟩ := H
 replace H : (trivetref14_Months.l0 k l0 ([] : List Int) 0 t463 t464 t465) = some r := H
 have A3 := ka A30
 clear A30
 have H' := ka H
 clear H
 go_enter Try.func15, Try.ntmps15
 go_wp2_with (first | ((with_reducible refine gate_callee (f := 11) rfl ?_); refine kg (some 14) rfl rfl Try.func11 (by kernel_rfl) rfl #[.int .i64 a1] rfl ?_; (with_reducible refine (trivetref04_Of_s.calls a1 t463 t464 t465 t466 _ A3.out).mono ?_); rintro e w4 ⟨rfl, hb⟩; refine ⟨_, rfl, ?_⟩; replace HB := ka (below_step (kw HB.out) hb); (try clear hb); (try clear hb2); (try clear hk); (try clear hi)) | ((with_reducible refine gate_dst (N := 5) rfl ?_); refine kx (N := 5) (cs := #[.int .i64 0, .int .i64 0, .int .i64 0]) (t := 30) ?_; intro gb467 hg w5 hbox hb; have n0_ := ka (below_step (kw HB.out) hb); have n1_ := ka (hbox); have n2_ := ka ((by rw [hg]; exact (below_size (kw HB.out)) : w.heap.size ≤ gb467)); have n3_ := n2_; clear HB; have HB := n0_; have BK467 := n1_; have GW467 := n2_; have GE467 := n3_; clear n0_ n1_ n2_ n3_; clear hb hbox hg; have hcz6 := blkAll3 BK467.out))
 (try simp only [Act.put, List.setIfInBounds_toArray, List.set_cons_zero, List.set_cons_succ])
 go_loopg [7, 8] k (fun kq v7 v8 w' => ∃ (x7_1 : List Int) (x8_1 : Int), v8 = .int .i64 x8_1 ∧ Aside0 (trivetref14_Months.l0 kq l0 x7_1 x8_1 t463 t464 t465 = some r) ∧ Aside0 (kq ≤ k) ∧ Aside0 (Kd.R (Kd.int .i64) 2 w' w.heap.size (fun _ => True) v7 x7_1) ∧ Aside0 (w'.heap[gb467]? = some (.cells #[.int .i64 t463, .int .i64 t464, .int .i64 t465] 30 (0, 0))) ∧ Aside0 (Below w.heap.size w w'))
 case atStart => exact ⟨(([] : List Int)), (0), (by first | rfl | (simp; done) | (simp [*]; done)), H', ⟨Nat.le_refl _⟩, ⟨by first | exact Kd.R_nil _ _ _ _ _ | exact Kd.N_nil _ _ _ _ _ | exact Kd.V_nil _ _ _ _ _ | exact Kd.Q_nil _ _ _ _ _ | exact Kd.S_nil _ _ _ _ _⟩, ⟨by (with_reducible repeat (first | apply kb1 | apply kb2 | apply kb3 | apply blkPut3_2 | apply blkPut3_1 | apply blkPut3_0)); exact BK467.out⟩, ⟨by repeat (first | (with_reducible first | exact HB.out | apply kc1 | apply kc2 | apply kc3 | refine kc4 ?_ GE467.out) | exact HB.out)⟩⟩
 case round =>
  clear H'
  try clear c1
  try clear p2
  try clear hcz6
  obtain ⟨x7_1, x8_1, rfl, HA, HK1, HO_7, BK467, HB⟩ := hrel
  cases gk with
  | zero => exact absurd HA.out (by simp [trivetref14_Months.l0])
  | succ k1 =>
   have H := HA.out
   clear HA
   simp only [trivetref14_Months.l0] at H
   by_cases c7 : x8_1 < 12
   ·rw [if_pos c7] at H
    have c7b0 : decide (x8_1 < 12) = true := decide_eq_true c7
    clear c7
    have HC8 := ka H
    clear H
    have hcz9 := blkAll3 BK467.out
    go_upto_if 26 with (fail)
    go_cut [9] (fun v9 wc => ∃ (kq : Nat) (x9_7 : Int), v9 = .int .i64 x9_7 ∧ Aside0 (trivetref14_Months.j1 kq l0 x7_1 x8_1 x9_7 t463 t464 t465 = some r) ∧ Aside0 (kq ≤ k1) ∧ Aside0 (Kd.R (Kd.int .i64) 2 wc w.heap.size (fun _ => True) u7 x7_1) ∧ Aside0 (wc.heap[gb467]? = some (.cells #[.int .i64 t463, .int .i64 t464, .int .i64 t465] 30 (0, 0))) ∧ Aside0 (Below w.heap.size w wc))
    case first =>
     have H := HC8.out
     clear HC8
     by_cases c10 : (wrap64 (t464 + x8_1)) > 12
     ·rw [if_pos c10] at H
      have c10b0 : decide (12 < (wrap64 (t464 + x8_1))) = true := decide_eq_true c10
      clear c10
      (first | rw [c10b0] | (simp only [i64_w, i32_w]; rw [c10b0]) | skip)
      have H' := ka H
      clear H
      go_wp2
      go_meet
      case rel => exact ⟨_, (wrap64 ((wrap64 (t464 + x8_1)) - 12)), (by first | rfl | (simp; done) | (simp [*]; done)), H', ⟨by have := HK1.out; first | omega | exact Nat.le_refl _⟩, ⟨kr HO_7.out⟩, ⟨by (with_reducible repeat (first | apply kb1 | apply kb2 | apply kb3)); exact BK467.out⟩, ⟨by repeat (first | (with_reducible first | exact HB.out | apply kc1 | apply kc2 | apply kc3 | refine kc4 ?_ GE467.out) | exact HB.out)⟩⟩
     ·rw [if_neg c10] at H
      have c10b0 : decide (12 < (wrap64 (t464 + x8_1))) = false := decide_eq_false c10
      clear c10
      (first | rw [c10b0] | (simp only [i64_w, i32_w]; rw [c10b0]) | skip)
      have H' := ka H
      clear H
      go_wp2
      go_meet
      case rel => exact ⟨_, (wrap64 (t464 + x8_1)), (by first | rfl | (simp; done) | (simp [*]; done)), H', ⟨by have := HK1.out; first | omega | exact Nat.le_refl _⟩, ⟨kr HO_7.out⟩, ⟨by (with_reducible repeat (first | apply kb1 | apply kb2 | apply kb3)); exact BK467.out⟩, ⟨by repeat (first | (with_reducible first | exact HB.out | apply kc1 | apply kc2 | apply kc3 | refine kc4 ?_ GE467.out) | exact HB.out)⟩⟩
    case rest =>
     clear HC8
     try clear c1
     try clear p2
     try clear p6
     try clear c7
     try clear c7b0
     try clear c10
     try clear c10b0
     try clear hcz6
     try clear hcz9
     try clear p2
     obtain ⟨kq, x9_7, rfl, HA, HJ7, HO_7, BK467, HB⟩ := hcut
     cases kq with
     | zero => exact absurd HA.out (by simp [trivetref14_Months.j1])
     | succ kj7 =>
      have H := HA.out
      clear HA
      simp only [trivetref14_Months.j1] at H
      have H' := ka H
      clear H
      go_wp2
      (try simp only [Act.put, List.setIfInBounds_toArray, List.set_cons_zero, List.set_cons_succ])
      go_loopg [10, 11] kj7 (fun kq v10 v11 w' => ∃ (x10_3 : Int) (x11_3 : Int), v10 = .int .i64 x10_3 ∧ v11 = .int .i64 x11_3 ∧ Aside0 (trivetref14_Months.l1 kq l0 x7_1 x8_1 x9_7 x10_3 x11_3 t463 t464 t465 = some r) ∧ Aside0 (kq ≤ kj7) ∧ Aside0 (Kd.R (Kd.int .i64) 2 w' w.heap.size (fun _ => True) u7 x7_1) ∧ Aside0 (w'.heap[gb467]? = some (.cells #[.int .i64 t463, .int .i64 t464, .int .i64 t465] 30 (0, 0))) ∧ Aside0 (Below w.heap.size w w'))
      case atStart => exact ⟨(0), (0), (by first | rfl | (simp; done) | (simp [*]; done)), (by first | rfl | (simp; done) | (simp [*]; done)), H', ⟨Nat.le_refl _⟩, ⟨kr HO_7.out⟩, ⟨by (with_reducible repeat (first | apply kb1 | apply kb2 | apply kb3)); exact BK467.out⟩, ⟨by repeat (first | (with_reducible first | exact HB.out | apply kc1 | apply kc2 | apply kc3 | refine kc4 ?_ GE467.out) | exact HB.out)⟩⟩
      case round =>
       clear H'
       try clear c1
       try clear p2
       try clear p6
       try clear c7
       try clear c7b0
       try clear c10
       try clear c10b0
       try clear hcz6
       try clear hcz9
       try clear p2
       try clear p6
       obtain ⟨x10_3, x11_3, rfl, rfl, HA, HK3, HO_7, BK467, HB⟩ := hrel
       cases gk with
       | zero => exact absurd HA.out (by simp [trivetref14_Months.l1])
       | succ k3 =>
        have H := HA.out
        clear HA
        simp only [trivetref14_Months.l1] at H
        by_cases c11 : x11_3 < (l0.length : Int)
        ·rw [if_pos c11] at H
         have c11b0 : decide (x11_3 < (l0.length : Int)) = true := decide_eq_true c11
         clear c11
         by_cases c12 : 0 ≤ x11_3
         ·rw [if_pos c12] at H
          have c12b0 : decide (0 ≤ x11_3) = true := decide_eq_true c12
          clear c12
          by_cases c13 : ((rd_T48 l0 x11_3).f0) = x9_7
          ·rw [if_pos c13] at H
           have c13b0 : (((rd_T48 l0 x11_3).f0) == x9_7) = true := beq_iff_eq.mpr c13
           have c13b1 : (((rd_T48 l0 x11_3).f0) != x9_7) = false := bne_eq_false_iff_eq.mpr c13
           clear c13
           have H' := ka H
           clear H
           have p468 : 0 ≤ (x11_3 : Int) := of_decide_eq_true (by first | (with_reducible assumption) | assumption)
           have q468 : x11_3 < (l0.length : Int) := of_decide_eq_true (by first | (with_reducible assumption) | assumption)
           obtain ⟨ad468, e468, hx468_0, hx468_1, hx468_2⟩ := at_T48 HR0.out x11_3 p468 q468
           cases e468
           replace hx468_0 := (HB.out.cell (World.block_lt_of_cell? w _ hx468_0)).trans hx468_0
           replace hx468_1 := (HB.out.cell (World.block_lt_of_cell? w _ hx468_1)).trans hx468_1
           replace hx468_2 := (HB.out.cell (World.block_lt_of_cell? w _ hx468_2)).trans hx468_2
           replace p468 := eq_true p468
           replace q468 := eq_true q468
           have p469 : 0 ≤ (x11_3 : Int) := of_decide_eq_true (by first | (with_reducible assumption) | assumption)
           have q469 : x11_3 < (l0.length : Int) := of_decide_eq_true (by first | (with_reducible assumption) | assumption)
           obtain ⟨ad469, e469, hx469_0, hx469_1, hx469_2⟩ := at_T48 HR0.out x11_3 p469 q469
           obtain rfl : ad468 = ad469 := (by injection e469)
           replace hx469_0 := (HB.out.cell (World.block_lt_of_cell? w _ hx469_0)).trans hx469_0
           replace hx469_1 := (HB.out.cell (World.block_lt_of_cell? w _ hx469_1)).trans hx469_1
           replace hx469_2 := (HB.out.cell (World.block_lt_of_cell? w _ hx469_2)).trans hx469_2
           replace p469 := eq_true p469
           replace q469 := eq_true q469
           go_wp2
           go_roundg k3
           case measure => have := HK1.out; have := HJ7.out; have := HK3.out; omega
           case rel => exact ⟨(wrap64 (x10_3 + ((rd_T48 l0 x11_3).f2))), (wrap64 (x11_3 + 1)), (by first | rfl | (simp; done) | (simp [*]; done)), (by first | rfl | (simp; done) | (simp [*]; done)), H', ⟨by have := HK1.out; have := HJ7.out; have := HK3.out; omega⟩, ⟨kr HO_7.out⟩, ⟨by (with_reducible repeat (first | apply kb1 | apply kb2 | apply kb3)); exact BK467.out⟩, ⟨by repeat (first | (with_reducible first | exact HB.out | apply kc1 | apply kc2 | apply kc3 | refine kc4 ?_ GE467.out) | exact HB.out)⟩⟩
          ·rw [if_neg c13] at H
           have c13b0 : (((rd_T48 l0 x11_3).f0) == x9_7) = false := beq_eq_false_iff_ne.mpr c13
           have c13b1 : (((rd_T48 l0 x11_3).f0) != x9_7) = true := bne_iff_ne.mpr c13
           have H' := ka H
           clear H
           have p468 : 0 ≤ (x11_3 : Int) := of_decide_eq_true (by first | (with_reducible assumption) | assumption)
           have q468 : x11_3 < (l0.length : Int) := of_decide_eq_true (by first | (with_reducible assumption) | assumption)
           obtain ⟨ad468, e468, hx468_0, hx468_1, hx468_2⟩ := at_T48 HR0.out x11_3 p468 q468
           cases e468
           replace hx468_0 := (HB.out.cell (World.block_lt_of_cell? w _ hx468_0)).trans hx468_0
           replace hx468_1 := (HB.out.cell (World.block_lt_of_cell? w _ hx468_1)).trans hx468_1
           replace hx468_2 := (HB.out.cell (World.block_lt_of_cell? w _ hx468_2)).trans hx468_2
           replace p468 := eq_true p468
           replace q468 := eq_true q468
           go_wp2
           go_roundg k3
           case measure => have := HK1.out; have := HJ7.out; have := HK3.out; omega
           case rel => exact ⟨(x10_3), (wrap64 (x11_3 + 1)), (by first | rfl | (simp; done) | (simp [*]; done)), (by first | rfl | (simp; done) | (simp [*]; done)), H', ⟨by have := HK1.out; have := HJ7.out; have := HK3.out; omega⟩, ⟨kr HO_7.out⟩, ⟨by (with_reducible repeat (first | apply kb1 | apply kb2 | apply kb3)); exact BK467.out⟩, ⟨by repeat (first | (with_reducible first | exact HB.out | apply kc1 | apply kc2 | apply kc3 | refine kc4 ?_ GE467.out) | exact HB.out)⟩⟩
         ·rw [if_neg c12] at H
          exact absurd H (by simp)
        ·rw [if_neg c11] at H
         have c11b0 : decide (x11_3 < (l0.length : Int)) = false := decide_eq_false c11
         clear c11
         by_cases c14 : x7_1.length < 17592186044416
         ·rw [if_pos c14] at H
          have LMc14 := ka c14
          clear c14
          obtain ⟨y470, hy470⟩ : ∃ y_ : List Int, y_ = (x7_1 ++ [x10_3]) := ⟨_, rfl⟩
          replace H : (trivetref14_Months.l0 k3 l0 y470 (wrap64 (x8_1 + 1)) t463 t464 t465) = some r := by first | (rw [hy470]; with_reducible exact H) | (have H2_ := (Option.bind_some _ _).symm.trans H; rw [hy470]; with_reducible exact H2_) | (have H2_ := (Option.bind_some _ _).symm.trans H; with_reducible exact H2_) | with_reducible exact H | (rw [hy470]; exact H) | exact H
          have Ny470 := ka hy470
          clear hy470
          have H' := ka H
          clear H
          go_wp2_with (first | ((with_reducible refine gate_builtin (b := .append) (xs := #[.tmp 49, .tmp 51]) rfl ?_); at_builtin; refine Kd.R_append (Kd.int .i64) (w0 := w) w.heap.size rfl (.tmp 49) (.tmp 51) 24 2 (.int .i64 0) 8 rfl Try.underlying24 info2 rfl (by decide) (by omega) u7 x7_1 x10_3 [.int .i64 x10_3] (fun _ => True) (fun _ => False) rfl rfl ?aP (fun _ hk => hk.elim) ?aF ?aO ?aB ?aS ?aL ?_; (case aP => exact rfl); (case aB => exact (kw HB.out)); (case aF => exact (fun _ _ => trivial)); (case aO => exact (kr HO_7.out)); (case aS => exact (below_size (kw HB.out))); (case aL => have := LMc14.out; omega); intro v471 w15 ho hb hg hat; rw [← Ny470.out] at ho; replace BK467 := ka (blk_grown (g := gb467) (kz BK467.out) hg (Kd.R_ne HO_7.out BK467.out (by decide))); replace HB := ka (hb); have HO472 := ka (ho); clear HO_7; clear ho hb hg hat))
          go_roundg k3
          case measure => have := HK1.out; have := HJ7.out; have := HK3.out; omega
          case rel => exact ⟨(y470), (wrap64 (x8_1 + 1)), (by first | rfl | (simp; done) | (simp [*]; done)), H', ⟨by have := HK1.out; have := HJ7.out; have := HK3.out; omega⟩, ⟨kr HO472.out⟩, ⟨by (with_reducible repeat (first | apply kb1 | apply kb2 | apply kb3)); exact BK467.out⟩, ⟨by repeat (first | (with_reducible first | exact HB.out | apply kc1 | apply kc2 | apply kc3 | refine kc4 ?_ GE467.out) | exact HB.out)⟩⟩
         ·rw [if_neg c14] at H
          exact absurd H (by simp)
   ·rw [if_neg c7] at H
    have c7b0 : decide (x8_1 < 12) = false := decide_eq_false c7
    clear c7
    obtain rfl := Option.some.inj H
    go_wp2
    go_ret
    exact ⟨_, by first | rfl | (simp [errW_none, errW_some] <;> rfl) | (simp [*, errW_none, errW_some] <;> rfl), by (with_reducible repeat (first | apply Kd.R_alloc | apply Kd.R_drewN | apply Kd.R_drew)); exact HO_7.out, by repeat (first | (with_reducible first | exact HB.out | apply kc1 | apply kc2 | apply kc3 | refine kc4 ?_ GE467.out) | exact HB.out)⟩

/-! ### trivetref14_Months: function 15, its laws -/
theorem trivetref14_Months.inner (n : Nat) : ∀ (k i : Nat) (l : List S48) (out : List Int) (t m s y mo d : Int), l.length = i + n → l.length ≤ 32 → (∀ x ∈ l, calendar_Check.okI x) → 0 ≤ s ∧ s ≤ 10000000000000 * (i : Int) → (0 ≤ t ∧ t < 12) → out.length ≤ 12 →
  trivetref14_Months.l1 (k + n + 1) l out t m s (i : Int) y mo d = trivetref14_Months.l0 k l (out ++ [s + Cal.amt (l.drop i) m]) (t + 1) y mo d := by
 induction n with
 | zero =>
  intro k i l out t m s y mo d hl hm hok hs ht ho
  simp only [trivetref14_Months.l1, Nat.add_zero]
  rw [if_neg (by omega), if_pos (by omega), List.drop_eq_nil_of_le (by omega), M.w64_id (n := t + 1) (by omega) (by omega)]
  simp [Cal.amt]
 | succ n ih =>
  intro k i l out t m s y mo d hl hm hok hs ht ho
  have hx := hok _ (Cal.rd_mem l i (by omega))
  have hd := Cal.drop_rd l i (by omega)
  have ih' := fun s => ih k (i + 1) l out t m s y mo d (by omega) hm hok
  rw [show k + (n + 1) + 1 = (k + n + 1) + 1 by omega, trivetref14_Months.l1, if_pos (by omega), if_pos (by omega), M.w64_id (n := (i : Int) + 1) (by omega) (by omega), show (i : Int) + 1 = ((i + 1 : Nat) : Int) by omega, hd, Cal.amt_cons]
  generalize rd_T48 l (i : Int) = x at hx ⊢
  unfold calendar_Check.okI at hx
  by_cases c : x.f0 = m
  ·rw [if_pos c, if_pos c, M.w64_id (n := s + x.f2) (by omega) (by omega), ih' _ (by omega) ht ho, Int.add_assoc]
  ·rw [if_neg c, if_neg c, ih' _ (by omega) ht ho, Int.zero_add]
theorem trivetref14_Months.outer (n : Nat) : ∀ (k t : Nat) (l : List S48) (y mo d : Int), t + n = 12 → l.length ≤ 32 → (∀ x ∈ l, calendar_Check.okI x) → (1 ≤ mo ∧ mo ≤ 12) → n * (l.length + 3) + 1 ≤ k →
  trivetref14_Months.l0 k l ((List.range t).map (fun j => Cal.amt l (Cal.far mo j))) (t : Int) y mo d = some (Cal.mon l mo) := by
 induction n with
 | zero =>
  intro k t l y mo d ht hm hok hmo hk
  obtain ⟨j, rfl⟩ : ∃ j, k = j + 1 := ⟨k - 1, by omega⟩
  obtain rfl : t = 12 := by omega
  simp only [trivetref14_Months.l0]
  rw [if_neg (by omega)]
  rfl
 | succ n ih =>
  intro k t l y mo d ht hm hok hmo hk
  have hk2 : n * (l.length + 3) + (l.length + 3) + 1 ≤ k := by rw [Nat.succ_mul] at hk; exact hk
  obtain ⟨j, rfl⟩ : ∃ j, k = ((j + l.length + 1) + 1) + 1 := ⟨k - l.length - 3, by omega⟩
  have ih' := ih j (t + 1) l y mo d (by omega) hm hok hmo (by omega)
  have hin := trivetref14_Months.inner l.length j 0 l ((List.range t).map (fun j => Cal.amt l (Cal.far mo j))) (t : Int) (Cal.far mo t) 0 y mo d (by omega) hm hok (by simp) (by omega) (by simp; omega)
  rw [List.drop_zero, Int.zero_add, show (t : Int) + 1 = ((t + 1 : Nat) : Int) by omega] at hin
  have e0 : ((0 : Nat) : Int) = 0 := rfl
  rw [e0] at hin
  have hr : (List.range (t + 1)).map (fun j => Cal.amt l (Cal.far mo j)) = (List.range t).map (fun j => Cal.amt l (Cal.far mo j)) ++ [Cal.amt l (Cal.far mo t)] := by rw [List.range_succ, List.map_append]; rfl
  rw [← hr, ih'] at hin
  simp only [trivetref14_Months.l0]
  rw [if_pos (show (t : Int) < 12 by omega), M.w64_id (n := mo + t) (by omega) (by omega)]
  unfold Cal.far at hin
  by_cases c : mo + (t : Int) > 12
  ·rw [if_pos c] at hin ⊢
   rw [M.w64_id (n := mo + t - 12) (by omega) (by omega)]
   simp only [trivetref14_Months.j1]
   exact hin
  ·rw [if_neg c] at hin ⊢
   simp only [trivetref14_Months.j1]
   exact hin
theorem trivetref14_Months.num (k : Nat) (l : List S48) (a : Int) (ha : -25567 ≤ a ∧ a ≤ 84005) (hl : calendar_Check.may l) (hk : 500 ≤ k) : trivetref14_Months.f k l a = some (Cal.mon l (M.mo a)) := by
 have hdate := (M.dateOf ha.1 ha.2).1
 have hin := M.date_in hdate
 have h32 := hl.1
 unfold trivetref14_Months.f trivetref04_Of_s.f
 rw [if_pos (show M.In a by unfold M.In; omega), if_pos ha, Option.bind_some]
 exact trivetref14_Months.outer 12 k 0 l (M.yr a) (M.mo a) (M.dy a) rfl h32 hl.2 ⟨hin.2.2.1, hin.2.2.2.1⟩ (by omega)

end Go.Proofs.Ytmkfbaoglmmhjaa.P
