-- Written by a program of this session out of the translation of the seat: Lean functions and the proofs that the Go functions come to them.
import Derived.Test.YtdddiahgkpfikaaPx0
import Derived.Test.YtdddiahgkpfikaaPx3
import Derived.Test.YtdddiahgkpfikaaPx4
import Derived.Test.YtdddiahgkpfikaaPx5
namespace Go.Proofs.Ytdddiahgkpfikaa.P
open Go.RowKit Go.Proofs.YtdddiahgkpfikaaW.PrintWords Go.Proofs.YtdddiahgkpfikaaW.PrintLast Go.Proofs.YtdddiahgkpfikaaW.PrintMore
attribute [local go_sem] max2_int min2_int max_two min_two max_three min_three max_four min_four   -- for this text's walks alone
set_option linter.unusedVariables false
set_option linter.unusedSimpArgs false

/-! ### cents_Sum: function 23 -/
def cents_Sum.l0 : Nat → Int → Int → List Int → Int → Int → Option (Int × Option Int)
 | 0, _, _, _, _, _ => none
 | k + 1, x4, x5, x10, x11, x12 => if x12 < x11 then (if 0 ≤ x12 then (if x12 < (x10.length : Int) then (if x5 < 18446744073709551616 then (cents_Sum.l0 k ((Add64.f x4 (IntKind.u64.wrap ((rd x10 x12) / 9223372036854775808)) ((Add64.f x5 (IntKind.u64.wrap (rd x10 x12)) 0).2)).1) ((Add64.f x5 (IntKind.u64.wrap (rd x10 x12)) 0).1) x10 x11 (wrap64 (x12 + 1))) else (none)) else (none)) else (none)) else (if x4 = (IntKind.u64.wrap ((wrap64 (x5)) / 9223372036854775808)) then (some (wrap64 (x5), none)) else (some (0, some 3)))
def cents_Sum.f (k : Nat) (l0 : List Int) : Option (Int × Option Int) := cents_Sum.l0 k 0 0 l0 (l0.length : Int) 0
theorem cents_Sum.mono_l : ∀ k, (∀ y0 y1 y2 y3 y4, LeO (cents_Sum.l0 k y0 y1 y2 y3 y4) (cents_Sum.l0 (k + 1) y0 y1 y2 y3 y4))
 | 0 => fun _ _ _ _ _ r h => by simp [cents_Sum.l0] at h
 | k + 1 => by
  have ih0 := cents_Sum.mono_l k
  ·intro y0 y1 y2 y3 y4
   unfold cents_Sum.l0
   repeat' first
   | (with_reducible exact ih0 _ _ _ _ _)
   | (with_reducible exact LeO.refl _)
   | (with_reducible exact LeO.none _)
   | (with_reducible refine LeO.ite ?_ ?_)
   | (with_reducible refine LeO.bind ?_ (fun _ => ?_))
   | exact ih0 _ _ _ _ _
   | exact LeO.none _
   | refine LeO.ite ?_ ?_
   | refine LeO.bind ?_ (fun _ => ?_)
theorem cents_Sum.mono : ∀ a0 k, LeO (cents_Sum.f k a0) (cents_Sum.f (k + 1) a0) := by
 intro a0 k
 have ih0 := cents_Sum.mono_l k
 unfold cents_Sum.f
 repeat' first
   | (with_reducible exact ih0 _ _ _ _ _)
   | (with_reducible exact LeO.refl _)
   | (with_reducible exact LeO.none _)
   | (with_reducible refine LeO.ite ?_ ?_)
   | (with_reducible refine LeO.bind ?_ (fun _ => ?_))
   | exact ih0 _ _ _ _ _
   | exact LeO.none _
   | refine LeO.ite ?_ ?_
   | refine LeO.bind ?_ (fun _ => ?_)
set_option maxHeartbeats 8000000 in
set_option maxRecDepth 100000 in
theorem cents_Sum.calls (k : Nat) (A0 : Option Addr) (c0 : Nat) (l0 : List Int) (r1 : Int) (r2 : Option Int) (w : World) (hr0 : Kd.C (Kd.int .i64) w A0 l0.length l0) (hc0 : l0.length ≤ c0) (h : cents_Sum.f k l0 = some (r1, r2)) :
  Calls Try.prog 23 #[.slice A0 l0.length c0] w fun e w' => e = .returned (.tuple #[.int .i64 r1, errW r2]) ∧ Drawn0 w w' := by
 have hu24 := Try.underlying24
 have hu27 := Try.underlying27
 have HR0 := ka hr0
 have HC0 := ka hc0
 clear hr0 hc0
 have H : (cents_Sum.l0 k 0 0 l0 (l0.length : Int) 0) = some (r1, r2) := h
 clear h
 have H' := ka H
 clear H
 go_enter Try.func23, Try.ntmps23
 go_wp2
 (try simp only [Act.put, List.setIfInBounds_toArray, List.set_cons_zero, List.set_cons_succ])
 go_loopg [4, 5, 12] k (fun kq v4 v5 v12 w' => ∃ (x4_1 : Int) (x5_1 : Int) (x12_1 : Int), v4 = .int .u64 x4_1 ∧ v5 = .int .u64 x5_1 ∧ v12 = .int .i64 x12_1 ∧ Aside0 (cents_Sum.l0 kq x4_1 x5_1 l0 (l0.length : Int) x12_1 = some (r1, r2)) ∧ Aside0 (kq ≤ k) ∧ Drawn0 w w')
 case atStart => exact ⟨(0), (0), (0), (by first | rfl | (simp; done) | (simp [*]; done)), (by first | rfl | (simp; done) | (simp [*]; done)), (by first | rfl | (simp; done) | (simp [*]; done)), H', ⟨Nat.le_refl _⟩, by repeat (first | exact Drawn0.refl _ | apply Drawn0.step)⟩
 case round =>
  clear H'
  obtain ⟨x4_1, x5_1, x12_1, rfl, rfl, rfl, HA, HK1, ⟨m1, rfl⟩⟩ := hrel
  cases gk with
  | zero => exact absurd HA.out (by simp [cents_Sum.l0])
  | succ k1 =>
   have H := HA.out
   clear HA
   simp only [cents_Sum.l0] at H
   by_cases c2 : x12_1 < (l0.length : Int)
   ·rw [if_pos c2] at H
    have c2b0 : decide (x12_1 < (l0.length : Int)) = true := decide_eq_true c2
    clear c2
    by_cases c3 : 0 ≤ x12_1
    ·rw [if_pos c3] at H
     have c3b0 : decide (0 ≤ x12_1) = true := decide_eq_true c3
     clear c3
     by_cases c4 : x12_1 < (l0.length : Int)
     ·rw [if_pos c4] at H
      have c4b0 : decide (x12_1 < (l0.length : Int)) = true := decide_eq_true c4
      clear c4
      by_cases c5 : x5_1 < 18446744073709551616
      ·rw [if_pos c5] at H
       have c5b0 := eq_true c5
       have c5b1 : decide (x5_1 < 18446744073709551616) = true := decide_eq_true c5
       clear c5
       have H' := ka H
       clear H
       have p193 : 0 ≤ (x12_1 : Int) := of_decide_eq_true (by first | (with_reducible assumption) | assumption)
       have q193 : x12_1 < (l0.length : Int) := of_decide_eq_true (by first | (with_reducible assumption) | assumption)
       obtain ⟨ad193, e193, hx193_0⟩ := Kd.at_int HR0.out x12_1 p193 q193
       cases e193
       replace p193 := eq_true p193
       replace q193 := eq_true q193
       go_wp2
       go_roundg k1
       case measure => have := HK1.out; omega
       case rel => exact ⟨((Add64.f x4_1 (IntKind.u64.wrap ((rd l0 x12_1) / 9223372036854775808)) ((Add64.f x5_1 (IntKind.u64.wrap (rd l0 x12_1)) 0).2)).1), ((Add64.f x5_1 (IntKind.u64.wrap (rd l0 x12_1)) 0).1), (wrap64 (x12_1 + 1)), (by first | rfl | (simp; done) | (simp [*]; done)), (by first | rfl | (simp; done) | (simp [*]; done)), (by first | rfl | (simp; done) | (simp [*]; done)), H', ⟨by have := HK1.out; omega⟩, by repeat (first | exact Drawn0.refl _ | apply Drawn0.step)⟩
      ·rw [if_neg c5] at H
       exact absurd H (by simp)
     ·rw [if_neg c4] at H
      exact absurd H (by simp)
    ·rw [if_neg c3] at H
     exact absurd H (by simp)
   ·rw [if_neg c2] at H
    have c2b0 : decide (x12_1 < (l0.length : Int)) = false := decide_eq_false c2
    clear c2
    by_cases c6 : x4_1 = (IntKind.u64.wrap ((wrap64 (x5_1)) / 9223372036854775808))
    ·rw [if_pos c6] at H
     have c6b0 : (x4_1 == (IntKind.u64.wrap ((wrap64 (x5_1)) / 9223372036854775808))) = true := beq_iff_eq.mpr c6
     have c6b1 : (x4_1 != (IntKind.u64.wrap ((wrap64 (x5_1)) / 9223372036854775808))) = false := bne_eq_false_iff_eq.mpr c6
     clear c6
     simp only [Option.some.injEq, Prod.mk.injEq] at H
     obtain ⟨rfl, rfl⟩ := H
     go_wp2
     go_ret2
     exact ⟨by first | rfl | (simp; done) | (simp [*]; done), by repeat (first | exact Drawn0.refl _ | apply Drawn0.step)⟩
    ·rw [if_neg c6] at H
     have c6b0 : (x4_1 == (IntKind.u64.wrap ((wrap64 (x5_1)) / 9223372036854775808))) = false := beq_eq_false_iff_ne.mpr c6
     have c6b1 : (x4_1 != (IntKind.u64.wrap ((wrap64 (x5_1)) / 9223372036854775808))) = true := bne_iff_ne.mpr c6
     simp only [Option.some.injEq, Prod.mk.injEq] at H
     obtain ⟨rfl, rfl⟩ := H
     go_wp2
     go_ret2
     exact ⟨by first | rfl | (simp; done) | (simp [*]; done), by repeat (first | exact Drawn0.refl _ | apply Drawn0.step)⟩

/-! ### cents_Sum: function 23, its laws -/
theorem cents_Sum.loop (n : Nat) : ∀ (k : Nat) (l : List Int) (i : Nat) (hi lo : Int), (∀ x ∈ l, M.In x) → l.length = i + n → l.length ≤ 100000 → 0 ≤ lo ∧ lo < 18446744073709551616 → 0 ≤ hi ∧ hi < 18446744073709551616 → lo + 18446744073709551616 * hi = (l.take i).sum % 340282366920938463463374607431768211456 → n < k →
  cents_Sum.l0 k hi lo l (l.length : Int) i = some (M.told l.sum) := by
 induction n with
 | zero =>
  intro k l i hi lo hl hn hm h1 h2 h3 hk
  obtain ⟨j, rfl⟩ : ∃ j, k = j + 1 := ⟨k - 1, by omega⟩
  rw [List.take_of_length_le (by omega)] at h3
  have hs := U.sum_le l hl
  generalize l.sum = s at *
  simp only [cents_Sum.l0]
  rw [if_neg (by omega)]
  have hw : wrap64 lo = if lo < 9223372036854775808 then lo else lo - 18446744073709551616 := by unfold wrap64; split <;> omega
  have hu : IntKind.u64.wrap (wrap64 lo / 9223372036854775808) = if lo < 9223372036854775808 then 0 else 18446744073709551615 := by
   rw [hw, M.wrapu]; split <;> omega
  rw [hu, hw]
  by_cases c : lo < 9223372036854775808
  ·rw [if_pos c, if_pos c]
   by_cases d : hi = 0
   ·rw [if_pos d]
    have : s = lo := by omega
    rw [M.told_in (by unfold M.In; omega), this]
   ·rw [if_neg d, M.told_out (by unfold M.In; omega)]
  ·rw [if_neg c, if_neg c]
   by_cases d : hi = 18446744073709551615
   ·rw [if_pos d]
    have : s = lo - 18446744073709551616 := by omega
    rw [M.told_in (by unfold M.In; omega), this]
   ·rw [if_neg d, M.told_out (by unfold M.In; omega)]
 | succ n ih =>
  intro k l i hi lo hl hn hm h1 h2 h3 hk
  obtain ⟨j, rfl⟩ : ∃ j, k = j + 1 := ⟨k - 1, by omega⟩
  have hx : M.In (l.getD i 0) := by
   rw [List.getD_eq_getElem?_getD, List.getElem?_eq_getElem (by omega)]
   exact hl _ (List.getElem_mem _)
  have ht : (l.take (i + 1)).sum = (l.take i).sum + l.getD i 0 := by
   rw [List.take_add_one, List.getD_eq_getElem?_getD, List.getElem?_eq_getElem (by omega), U.sum_add]
   simp
  have hr : rd l (i : Int) = l.getD i 0 := rfl
  have ih' := fun a b => ih j l (i + 1) a b hl (by omega) hm
  simp only [cents_Sum.l0]
  rw [if_pos (by omega), if_pos (by omega), if_pos (by omega), if_pos (by omega), hr, M.w64_id (n := (i : Int) + 1) (by omega) (by omega)]
  unfold M.In at hx
  rw [ht] at ih'
  generalize l.getD i 0 = x at *
  generalize (l.take i).sum = s at *
  have e1 : 0 ≤ IntKind.u64.wrap x := by rw [M.wrapu]; omega
  have e2 : 0 ≤ IntKind.u64.wrap (x / 9223372036854775808) := by rw [M.wrapu]; omega
  have e3 : IntKind.u64.wrap x + 18446744073709551616 * IntKind.u64.wrap (x / 9223372036854775808) = x % 340282366920938463463374607431768211456 := by rw [M.wrapu, M.wrapu]; omega
  have e4 : IntKind.u64.wrap x < 18446744073709551616 := by rw [M.wrapu]; omega
  have e5 : IntKind.u64.wrap (x / 9223372036854775808) < 18446744073709551616 := by rw [M.wrapu]; omega
  generalize IntKind.u64.wrap (x / 9223372036854775808) = v at *
  generalize IntKind.u64.wrap x = u at *
  refine ih' _ _ ?_ ?_ ?_ (by omega)
  ·simp only [Add64.f]; omega
  ·simp only [Add64.f]; omega
  ·simp only [Add64.f]; omega
theorem cents_Sum.num (k : Nat) (l : List Int) (hl : ∀ x ∈ l, M.In x) (hm : l.length ≤ 100000) (hk : l.length < k) : cents_Sum.f k l = some (M.told l.sum) :=
 cents_Sum.loop l.length k l 0 0 0 hl (by omega) hm (by decide) (by decide) (by simp) hk

/-! ### trivetlaw01_CentsSums: function 9 -/
def trivetlaw01_CentsSums.l0 : Nat → List Int → Bool → Int → List Int → Bool → Option (Bool)
 | 0, _, _, _, _, _ => none
 | k + 1, x0, x3, x5, x196000, x196001 => if x5 < (x0.length : Int) then (if 0 ≤ x5 then ((trivetref01_Of.f k (rd x0 x5)).bind fun bt197 => ((trivetref01_Add.f k x196000 x196001 bt197.1 bt197.2).bind fun bt201 => (trivetlaw01_CentsSums.l0 k x0 x3 (wrap64 (x5 + 1)) bt201.1 bt201.2))) else (none)) else ((cents_Sum.f k x0).bind fun bt205 => (if x3 = true then ((trivetlaw01_told.f k bt205.1 bt205.2 x196000 x196001).bind fun t207 => (some t207)) else (none)))
def trivetlaw01_CentsSums.f (k : Nat) (l0 : List Int) : Option (Bool) := (trivetlaw01_up_s.f).bind fun t194 => (if (l0.length : Int) > 1000 then (some t194) else (trivetlaw01_CentsSums.l0 k l0 t194 0 ([] : List Int) false))
theorem trivetlaw01_CentsSums.mono_l : ∀ k, (∀ y0 y1 y2 y3 y4, LeO (trivetlaw01_CentsSums.l0 k y0 y1 y2 y3 y4) (trivetlaw01_CentsSums.l0 (k + 1) y0 y1 y2 y3 y4))
 | 0 => fun _ _ _ _ _ r h => by simp [trivetlaw01_CentsSums.l0] at h
 | k + 1 => by
  have ih0 := trivetlaw01_CentsSums.mono_l k
  ·intro y0 y1 y2 y3 y4
   unfold trivetlaw01_CentsSums.l0
   repeat' first
   | (with_reducible exact ih0 _ _ _ _ _)
   | (with_reducible exact cents_Sum.mono _ _)
   | (with_reducible exact trivetlaw01_told.mono _ _ _ _ _)
   | (with_reducible exact trivetref01_Add.mono _ _ _ _ _)
   | (with_reducible exact trivetref01_Of.mono _ _)
   | (with_reducible exact LeO.refl _)
   | (with_reducible exact LeO.none _)
   | (with_reducible refine LeO.ite ?_ ?_)
   | (with_reducible refine LeO.bind ?_ (fun _ => ?_))
   | exact ih0 _ _ _ _ _
   | exact cents_Sum.mono _ _
   | exact trivetlaw01_told.mono _ _ _ _ _
   | exact trivetref01_Add.mono _ _ _ _ _
   | exact trivetref01_Of.mono _ _
   | exact LeO.none _
   | refine LeO.ite ?_ ?_
   | refine LeO.bind ?_ (fun _ => ?_)
theorem trivetlaw01_CentsSums.mono : ∀ a0 k, LeO (trivetlaw01_CentsSums.f k a0) (trivetlaw01_CentsSums.f (k + 1) a0) := by
 intro a0 k
 have ih0 := trivetlaw01_CentsSums.mono_l k
 unfold trivetlaw01_CentsSums.f
 repeat' first
   | (with_reducible exact ih0 _ _ _ _ _)
   | (with_reducible exact cents_Sum.mono _ _)
   | (with_reducible exact trivetlaw01_told.mono _ _ _ _ _)
   | (with_reducible exact trivetref01_Add.mono _ _ _ _ _)
   | (with_reducible exact trivetref01_Of.mono _ _)
   | (with_reducible exact LeO.refl _)
   | (with_reducible exact LeO.none _)
   | (with_reducible refine LeO.ite ?_ ?_)
   | (with_reducible refine LeO.bind ?_ (fun _ => ?_))
   | exact ih0 _ _ _ _ _
   | exact cents_Sum.mono _ _
   | exact trivetlaw01_told.mono _ _ _ _ _
   | exact trivetref01_Add.mono _ _ _ _ _
   | exact trivetref01_Of.mono _ _
   | exact LeO.none _
   | refine LeO.ite ?_ ?_
   | refine LeO.bind ?_ (fun _ => ?_)
def trivetlaw01_CentsSums.T8 : Bool × List (List Nat × List Nat) := (true, [([], []), ([], []), ([], []), ([1, 2], [1, 2]), ([3], [3]), ([4], [4]), ([0, 5, 5], [0, 5]), ([6, 6, 0, 1, 2, 3, 4, 5, 6], [6])])
def trivetlaw01_CentsSums.B8 : List Nat := [0, 0, 0, 6, 14, 30, 63, 127]
theorem trivetlaw01_CentsSums.tab8 : rtab .any (opsOf Try.f9 8) = trivetlaw01_CentsSums.T8 := by kernel_rfl
theorem trivetlaw01_CentsSums.bits8 : waitsOk trivetlaw01_CentsSums.T8.2 trivetlaw01_CentsSums.B8 = true := by kernel_rfl
set_option maxHeartbeats 8000000 in
set_option maxRecDepth 100000 in
theorem trivetlaw01_CentsSums.calls (k : Nat) (A0 : Option Addr) (c0 : Nat) (l0 : List Int) (r : Bool) (w : World) (hr0 : Kd.C (Kd.int .i64) w A0 l0.length l0) (hc0 : l0.length ≤ c0) (h : trivetlaw01_CentsSums.f k l0 = some r) :
  Calls Try.prog 9 #[.slice A0 l0.length c0] w fun e w' => e = .returned (.bool r) ∧ Below w.heap.size w w' := by
 have hu37 := Try.underlying37
 have HR0 := ka hr0
 have HC0 := ka hc0
 clear hr0 hc0
 have HB := ka (Below.refl w.heap.size w)
 have H : ((trivetlaw01_up_s.f).bind fun t194 => (if (l0.length : Int) > 1000 then (some t194) else (trivetlaw01_CentsSums.l0 k l0 t194 0 ([] : List Int) false))) = some r := h
 clear h
 replace H := Option.bind_eq_some_iff.mp H
 obtain ⟨t194, A20, H⟩ := H
 replace H : (if (l0.length : Int) > 1000 then (some t194) else (trivetlaw01_CentsSums.l0 k l0 t194 0 ([] : List Int) false)) = some r := H
 have A2 := ka A20
 clear A20
 by_cases c3 : (l0.length : Int) > 1000
 ·rw [if_pos c3] at H
  have c3b0 : decide (1000 < (l0.length : Int)) = true := decide_eq_true c3
  have c3b1 : decide (1000 < l0.length) = true := decide_eq_true (by omega)
  clear c3
  obtain rfl := Option.some.inj H
  go_enter Try.func9, Try.ntmps9
  go_wp2_with (first | ((with_reducible refine gate_callee (f := 12) rfl ?_); refine kg (some 8) rfl rfl Try.func12 (by kernel_rfl) rfl #[] rfl ?_; (with_reducible refine (trivetlaw01_up_s.calls  t194 _ A2.out).mono ?_); rintro e w' ⟨rfl, ⟨nd, rfl⟩⟩; refine ⟨_, rfl, ?_⟩))
  go_ret
  exact ⟨by first | rfl | (simp [errW_none, errW_some] <;> rfl) | (simp [*, errW_none, errW_some] <;> rfl), by repeat (first | (with_reducible first | exact HB.out | apply kc1 | apply kc2 | apply kc3) | exact HB.out)⟩
 ·rw [if_neg c3] at H
  have c3b0 : decide (1000 < (l0.length : Int)) = false := decide_eq_false c3
  have c3b1 : decide (1000 < l0.length) = false := decide_eq_false (by omega)
  clear c3
  have H' := ka H
  clear H
  go_enter Try.func9, Try.ntmps9
  go_wp2_with (first | ((with_reducible refine gate_callee (f := 12) rfl ?_); refine kg (some 8) rfl rfl Try.func12 (by kernel_rfl) rfl #[] rfl ?_; (with_reducible refine (trivetlaw01_up_s.calls  t194 _ A2.out).mono ?_); rintro e w' ⟨rfl, ⟨nd, rfl⟩⟩; refine ⟨_, rfl, ?_⟩) | ((with_reducible refine gate_dst (N := 4) rfl ?_); refine kx (N := 4) (cs := #[.slice none 0 0, .bool false]) (t := 37) ?_; intro gb195 hg w4 hbox hb; have n0_ := ka (below_step (kw HB.out) hb); have n1_ := ka (hbox); have n2_ := ka ((by rw [hg]; exact (below_size (kw HB.out)) : w.heap.size ≤ gb195)); have n3_ := n2_; clear HB; have HB := n0_; have BK195 := n1_; have GW195 := n2_; have GE195 := n3_; clear n0_ n1_ n2_ n3_; clear hb hbox hg; have hcz5 := blkAll2 BK195.out))
  (try simp only [Act.put, List.setIfInBounds_toArray, List.set_cons_zero, List.set_cons_succ])
  go_loopg [5] k (fun kq v5 w' => ∃ (x5_1 : Int) (x196000_1 : List Int) (x196001_1 : Bool) (u196000 : Value), v5 = .int .i64 x5_1 ∧ Aside0 (trivetlaw01_CentsSums.l0 kq l0 t194 x5_1 x196000_1 x196001_1 = some r) ∧ Aside0 (kq ≤ k) ∧ Aside0 (Kd.V (Kd.int .u64) 46 w' w.heap.size (fun k_ => k_ ≠ gb195) u196000 x196000_1) ∧ Aside0 (w'.heap[gb195]? = some (.cells #[u196000, .bool x196001_1] 37 (0, 0))) ∧ Aside0 (Below w.heap.size w w'))
  case atStart => exact ⟨(0), (([] : List Int)), (false), (.slice none 0 0), (by first | rfl | (simp; done) | (simp [*]; done)), H', ⟨Nat.le_refl _⟩, ⟨by first | exact Kd.V_nil _ _ _ _ _ | exact Kd.R_V (by first | exact Kd.R_nil _ _ _ _ _ | exact Kd.N_nil _ _ _ _ _ | exact Kd.V_nil _ _ _ _ _ | exact Kd.Q_nil _ _ _ _ _ | exact Kd.S_nil _ _ _ _ _)⟩, ⟨by (with_reducible repeat (first | apply kb1 | apply kb2 | apply kb3 | apply blkPut2_1 | apply blkPut2_0)); exact BK195.out⟩, ⟨by repeat (first | (with_reducible first | exact HB.out | apply kc1 | apply kc2 | apply kc3 | refine kc4 ?_ GE195.out) | exact HB.out)⟩⟩
  case round =>
   clear H'
   try clear c1
   try clear p2
   try clear c3
   try clear c3b0
   try clear c3b1
   try clear hcz5
   obtain ⟨x5_1, x196000_1, x196001_1, u196000, rfl, HA, HK1, HO_196000, BK195, HB⟩ := hrel
   cases gk with
   | zero => exact absurd HA.out (by simp [trivetlaw01_CentsSums.l0])
   | succ k1 =>
    have H := HA.out
    clear HA
    simp only [trivetlaw01_CentsSums.l0] at H
    by_cases c6 : x5_1 < (l0.length : Int)
    ·rw [if_pos c6] at H
     have c6b0 : decide (x5_1 < (l0.length : Int)) = true := decide_eq_true c6
     clear c6
     by_cases c7 : 0 ≤ x5_1
     ·rw [if_pos c7] at H
      have c7b0 : decide (0 ≤ x5_1) = true := decide_eq_true c7
      clear c7
      replace H := Option.bind_eq_some_iff.mp H
      obtain ⟨⟨t197, t200⟩, A80, H⟩ := H
      replace H : ((trivetref01_Add.f k1 x196000_1 x196001_1 t197 t200).bind fun bt201 => (trivetlaw01_CentsSums.l0 k1 l0 t194 (wrap64 (x5_1 + 1)) bt201.1 bt201.2)) = some r := H
      have A8 := ka A80
      clear A80
      replace H := Option.bind_eq_some_iff.mp H
      obtain ⟨⟨t201, t204⟩, A90, H⟩ := H
      replace H : (trivetlaw01_CentsSums.l0 k1 l0 t194 (wrap64 (x5_1 + 1)) t201 t204) = some r := H
      have A9 := ka A90
      clear A90
      have H' := ka H
      clear H
      try go_wp2
      replace HO_196000 := ka (Kd.V_drew HO_196000.out)
      replace BK195 := ka (blk_drew BK195.out)
      replace HB := ka (below_drew1 HB.out)
      have p196 : 0 ≤ (x5_1 : Int) := of_decide_eq_true (by first | (with_reducible assumption) | assumption)
      have q196 : x5_1 < (l0.length : Int) := of_decide_eq_true (by first | (with_reducible assumption) | assumption)
      obtain ⟨ad196, e196, hx196_0⟩ := Kd.at_int HR0.out x5_1 p196 q196
      have hw196_0 := hx196_0
      cases e196
      replace hx196_0 := (HB.out.cell (World.block_lt_of_cell? w _ hx196_0)).trans hx196_0
      replace p196 := eq_true p196
      replace q196 := eq_true q196
      refine start_ (n := 8) (S := fun w' => w'.cell? ⟨gb195, 0, none⟩ = some (u196000) ∧ w'.cell? ⟨gb195, 1, none⟩ = some (.bool x196001_1) ∧ w'.cell? (ad196.add (x5_1).toNat) = some (.int .i64 (rd l0 x5_1))) (ds := [7]) #[false, false, false, false, false, false, false, false] (by kernel_rfl) rfl rfl ⟨(blk_cell BK195.out 0).trans rfl, (blk_cell BK195.out 1).trans rfl, ((HB.out.cell (World.block_lt_of_cell? w _ hw196_0)).trans hw196_0)⟩ (fun hHeld => ?_); refine with_tabW trivetlaw01_CentsSums.tab8 trivetlaw01_CentsSums.bits8 (fun HT_ HW_ => ?_)
      generalize wr.drew = w10 at HO_196000 BK195 HB hx196_0 hHeld ⊢
      refine pure_ (i := 1) (N := some 21) (v := ?_) (a' := ?_) #[false, true, false, false, false, false, false, false] rfl rfl (any_of HT_.out (by kernel_rfl)) (fun _ _ _ h => h) (Or.inl ⟨by rfl, ?_⟩) ?_ ?_
      rotate_left
      ·intro w'
       go_simp
       with_reducible rfl
      rotate_left
      ·simp only [Act.put, List.setIfInBounds_toArray, List.set_cons_zero, List.set_cons_succ, i64_w, i32_w]
       rfl
      refine pure_ (i := 2) (N := some 22) (v := ?_) (a' := ?_) #[false, true, true, false, false, false, false, false] rfl rfl (any_of HT_.out (by kernel_rfl)) (fun _ _ _ h => h) (Or.inl ⟨by rfl, ?_⟩) ?_ ?_
      rotate_left
      ·intro w'
       go_simp
       with_reducible rfl
      rotate_left
      ·simp only [Act.put, List.setIfInBounds_toArray, List.set_cons_zero, List.set_cons_succ, i64_w, i32_w]
       rfl
      refine pure_ (i := 3) (N := some 23) (v := ?_) (a' := ?_) #[false, true, true, true, false, false, false, false] rfl rfl (any_of HT_.out (by kernel_rfl)) (fun _ _ _ h => h) (Or.inl ⟨by rfl, ?_⟩) ?_ ?_
      rotate_left
      ·intro w'
       go_simp
       with_reducible rfl
      rotate_left
      ·simp only [Act.put, List.setIfInBounds_toArray, List.set_cons_zero, List.set_cons_succ, i64_w, i32_w]
       rfl
      refine take_ (i := 0) (N := some 20) (v := ?_) (a' := ?_) #[true, true, true, true, false, false, false, false] rfl rfl (take_ofW HT_.out HW_.out (by kernel_rfl)) (fun _ _ _ h => h) (Or.inl ⟨by rfl, ?_⟩) hHeld ?_ ?_
      rotate_left
      ·rintro w' ⟨s0, s1, s2⟩
       go_simp
       with_reducible rfl
      rotate_left
      ·simp only [Act.put, List.setIfInBounds_toArray, List.set_cons_zero, List.set_cons_succ, i64_w, i32_w]
       rfl
      refine take_ (i := 4) (N := some 24) (v := ?_) (a' := ?_) #[true, true, true, true, true, false, false, false] rfl rfl (take_ofW HT_.out HW_.out (by kernel_rfl)) (fun _ _ _ h => h) (Or.inl ⟨by rfl, ?_⟩) hHeld ?_ ?_
      rotate_left
      ·rintro w' ⟨s0, s1, s2⟩
       go_simp
       with_reducible rfl
      rotate_left
      ·simp only [Act.put, List.setIfInBounds_toArray, List.set_cons_zero, List.set_cons_succ, i64_w, i32_w]
       rfl
      refine one_ (i := 5) (N := some 25) #[true, true, true, true, true, true, false, false] rfl rfl (one_of HT_.out (by kernel_rfl)) (by decide) (fun K hK => ?_)
      refine goes_ Try.func18 (by kernel_rfl) rfl #[.int .i64 (rd l0 x5_1)] (by rfl) rfl rfl (by (try simp only [List.map_toArray, List.map_cons, List.map_nil]); first | done | rfl | (simp only [List.length_drop, List.length_take]; rfl)) ?_
      with_reducible refine (trivetref01_Of.calls k1 (rd l0 x5_1) t197 t200 _ A8.out).mono ?_
      rintro e w11 ⟨v198, rfl, ho0, hb⟩
      refine ⟨_, rfl, ?_⟩
      replace HO_196000 := ka (Kd.V_below (kv HO_196000.out) hb)
      have HO199 := ka (Kd.V_lower (Kd.V_mono (ok' := fun k_ => k_ ≠ gb195) ho0 (fun k_ hk_ => (Kd.freshB (g := gb195) (kz BK195.out) k_ hk_))) (below_size (kw HB.out)))
      replace BK195 := ka (blk_below (g := gb195) (kz BK195.out) hb)
      replace HB := ka (below_step (kw HB.out) hb)
      (try clear hb)
      (try clear hb2)
      (try clear hk)
      (try clear hi)
      (try clear ho0)
      obtain ⟨Ao12, co12, eo12⟩ := Kd.V_slice HO_196000.out
      (first | subst eo12 | (injection eo12 with f1_ f2_ f3_; have f4_ := f1_.symm; have f5_ := f3_.symm; clear f1_ f2_ f3_; subst f4_; subst f5_))
      obtain ⟨Ao13, co13, eo13⟩ := Kd.V_slice HO199.out
      (first | subst eo13 | (injection eo13 with f1_ f2_ f3_; have f4_ := f1_.symm; have f5_ := f3_.symm; clear f1_ f2_ f3_; subst f4_; subst f5_))
      refine hK.out _ _ ⟨(blk_cell BK195.out 0).trans rfl, (blk_cell BK195.out 1).trans rfl, ((HB.out.cell (World.block_lt_of_cell? w _ hw196_0)).trans hw196_0)⟩ (fun hHeld => ?_)
      clear hK K
      refine norm_ (a' := ?_) ?_ ?_
      rotate_left
      ·show Act.put _ (some 25) _ = _
       simp only [Act.put, List.setIfInBounds_toArray, List.set_cons_zero, List.set_cons_succ, i64_w, i32_w]
       rfl
      refine one_ (i := 6) (N := some 26) #[true, true, true, true, true, true, true, false] rfl rfl (one_of HT_.out (by kernel_rfl)) (by decide) (fun K hK => ?_)
      refine goes_ Try.func20 (by kernel_rfl) rfl #[.agg #[.slice Ao12 x196000_1.length co12, .bool x196001_1], .agg #[.slice Ao13 t197.length co13, .bool t200]] (by rfl) rfl rfl (by (try simp only [List.map_toArray, List.map_cons, List.map_nil]); first | done | rfl | (simp only [List.length_drop, List.length_take]; rfl)) ?_
      with_reducible refine (trivetref01_Add.calls k1 _ _ x196000_1 x196001_1 _ _ t197 t200 t201 t204 _ ?side1 ?side2 ?side3 ?side4 A9.out).mono ?_
      (case side1 => repeat (first | exact (Kd.V_reads' HO_196000.out).2.2 | (with_reducible refine Kd.C_alloc ?_ _) | (with_reducible refine Kd.C_drewN ?_ _) | (with_reducible refine Kd.C_drew ?_)))
      (case side2 => exact (Kd.V_reads' HO_196000.out).2.1)
      (case side3 => repeat (first | exact (Kd.V_reads' HO199.out).2.2 | (with_reducible refine Kd.C_alloc ?_ _) | (with_reducible refine Kd.C_drewN ?_ _) | (with_reducible refine Kd.C_drew ?_)))
      (case side4 => exact (Kd.V_reads' HO199.out).2.1)
      rintro e w14 ⟨v202, rfl, ho0, hb⟩
      refine ⟨_, rfl, ?_⟩
      replace HO_196000 := ka (Kd.V_below (kv HO_196000.out) hb)
      replace HO199 := ka (Kd.V_below (kv HO199.out) hb)
      have HO203 := ka (Kd.V_lower (Kd.V_mono (ok' := fun k_ => k_ ≠ gb195) ho0 (fun k_ hk_ => (Kd.freshB (g := gb195) (kz BK195.out) k_ hk_))) (below_size (kw HB.out)))
      replace BK195 := ka (blk_below (g := gb195) (kz BK195.out) hb)
      replace HB := ka (below_step (kw HB.out) hb)
      (try clear hb)
      (try clear hb2)
      (try clear hk)
      (try clear hi)
      (try clear ho0)
      obtain ⟨Ao15, co15, eo15⟩ := Kd.V_slice HO203.out
      (first | subst eo15 | (injection eo15 with f1_ f2_ f3_; have f4_ := f1_.symm; have f5_ := f3_.symm; clear f1_ f2_ f3_; subst f4_; subst f5_))
      refine hK.out _ _ ⟨(blk_cell BK195.out 0).trans rfl, (blk_cell BK195.out 1).trans rfl, ((HB.out.cell (World.block_lt_of_cell? w _ hw196_0)).trans hw196_0)⟩ (fun hHeld => ?_)
      clear hK K
      refine norm_ (a' := ?_) ?_ ?_
      rotate_left
      ·show Act.put _ (some 26) _ = _
       simp only [Act.put, List.setIfInBounds_toArray, List.set_cons_zero, List.set_cons_succ, i64_w, i32_w]
       rfl
      refine last_ (i := 7) (N := none) #[true, true, true, true, true, true, true, true] rfl rfl (one_of HT_.out (by kernel_rfl)) (by decide) (fun K hK => ?_)
      have hs16 : w14.cell? ⟨gb195, 0, none⟩ = some (.slice Ao12 x196000_1.length co12) := (blk_cell BK195.out 0).trans rfl
      have hfs16 := blk_frozen BK195.out 0
      have hs17 : w14.cell? ⟨gb195, 1, none⟩ = some (.bool x196001_1) := (blk_cell BK195.out 1).trans rfl
      have hfs17 := blk_frozen BK195.out 1
      refine skip_ (w1 := ?_) (by rfl) rfl ?_ ?_
      rotate_left
      ·go_simp
       rfl
      refine hK.out _ _ ?_
      clear hK K
      refine done_ (done_of HT_.out (by kernel_rfl)) ?_
      try go_wp2
      go_roundg k1
      case measure => have := HK1.out; omega
      case rel => exact ⟨(wrap64 (x5_1 + 1)), (t201), (t204), (.slice Ao15 t201.length co15), (by first | rfl | (simp; done) | (simp [*]; done)), H', ⟨by have := HK1.out; omega⟩, ⟨kv (Kd.V_mono (Kd.V_far (p := ⟨gb195, 1, none⟩) (Kd.V_far (p := ⟨gb195, 0, none⟩) (Kd.V_mono HO203.out (fun k_ hk => (⟨hk, hk⟩ : _ ∧ k_ ≠ gb195))) (fun _ hk => hk.2) (.slice Ao15 t201.length co15)) (fun _ hk => hk.2) (.bool t204)) (fun _ hk => hk.1))⟩, ⟨by (with_reducible repeat (first | apply kb1 | apply kb2 | apply kb3 | apply blkPut2_1 | apply blkPut2_0)); exact BK195.out⟩, ⟨by repeat (first | (with_reducible first | exact HB.out | apply kc1 | apply kc2 | apply kc3 | refine kc4 ?_ GE195.out) | exact HB.out)⟩⟩
     ·rw [if_neg c7] at H
      exact absurd H (by simp)
    ·rw [if_neg c6] at H
     have c6b0 : decide (x5_1 < (l0.length : Int)) = false := decide_eq_false c6
     clear c6
     replace H := Option.bind_eq_some_iff.mp H
     obtain ⟨⟨t205, t206⟩, A180, H⟩ := H
     replace H : (if t194 = true then ((trivetlaw01_told.f k1 t205 t206 x196000_1 x196001_1).bind fun t207 => (some t207)) else (none)) = some r := H
     have A18 := ka A180
     clear A180
     by_cases c19 : t194 = true
     ·subst c19
      have H1 : ((trivetlaw01_told.f k1 t205 t206 x196000_1 x196001_1).bind fun t207 => (some t207)) = some r := by rw [if_pos rfl] at H; exact H
      clear H
      have H := H1
      clear H1
      replace H := Option.bind_eq_some_iff.mp H
      obtain ⟨t207, A200, H⟩ := H
      replace H : (some t207) = some r := H
      have A20 := ka A200
      clear A200
      obtain rfl := Option.some.inj H
      go_wp2_with (first | ((with_reducible refine gate_callee (f := 23) rfl ?_); refine kg (some 29) rfl rfl Try.func23 (by kernel_rfl) rfl #[.slice A0 l0.length c0] rfl ?_; (with_reducible refine (cents_Sum.calls k1 _ _ l0 t205 t206 _ ?side1 ?side2 A18.out).mono ?_); (case side1 => repeat (first | exact (Kd.C_below HR0.out HB.out) | (with_reducible refine Kd.C_alloc ?_ _) | (with_reducible refine Kd.C_drewN ?_ _) | (with_reducible refine Kd.C_drew ?_))); (case side2 => exact HC0.out); rintro e w' ⟨rfl, ⟨nd, rfl⟩⟩; refine ⟨_, rfl, ?_⟩; (try simp only [errW_none, errW_some]); have hcz21 := blkAll2 BK195.out; obtain ⟨Ao22, co22, eo22⟩ := Kd.V_slice HO_196000.out; subst eo22) | (go_at_call 19; (with_reducible refine (trivetlaw01_told.calls k1 t205 t206 _ _ x196000_1 x196001_1 t207 _ ?side1 ?side2 A20.out).mono ?_); (case side1 => repeat (first | exact (Kd.V_reads' HO_196000.out).2.2 | (with_reducible refine Kd.C_alloc ?_ _) | (with_reducible refine Kd.C_drewN ?_ _) | (with_reducible refine Kd.C_drew ?_))); (case side2 => exact (Kd.V_reads' HO_196000.out).2.1); rintro e w23 ⟨rfl, hb⟩; replace HO_196000 := ka (Kd.V_below (kv HO_196000.out) hb); replace BK195 := ka (blk_below (g := gb195) (kz BK195.out) hb); replace HB := ka (below_step (kw HB.out) hb); (try clear hb); (try clear hb2); (try clear hk); (try clear hi)))
      go_ret
      exact ⟨by first | rfl | (simp [errW_none, errW_some] <;> rfl) | (simp [*, errW_none, errW_some] <;> rfl), by repeat (first | (with_reducible first | exact HB.out | apply kc1 | apply kc2 | apply kc3 | refine kc4 ?_ GE195.out) | exact HB.out)⟩
     ·replace c19 := Bool.eq_false_iff.mpr c19
      subst c19
      have H1 : (none) = some r := by rw [if_neg (show ¬ (false = true) by decide)] at H; exact H
      clear H
      have H := H1
      clear H1
      exact absurd H (by simp)

/-- THE ONE PURE STATEMENT of trivetlaw01_CentsSums: yours. -/
def trivetlaw01_CentsSums.Pure : Prop := ∀ (l0 : List Int), l0.length ≤ maxLen → l0.length * 8 ≤ 140737488351232 → (∀ x ∈ l0, (Lit.int .i64 x).wf = true) → ∃ k, trivetlaw01_CentsSums.f k l0 = some true
theorem trivetlaw01_CentsSums.walk (P : trivetlaw01_CentsSums.Pure) (a0 : Option Addr) (len0 cap0 : Nat) (z0 : List Int) (w : World) (w0 : (a0 = none ∧ len0 = 0 ∧ cap0 = 0 ∧ z0 = []) ∨ ∃ x, a0 = some x ∧ len0 ≤ cap0 ∧ cap0 ≤ maxLen ∧ z0.length = cap0 ∧ (∀ i, i < z0.length → w.cell? (x.add i) = some (.int .i64 (z0.getD i 0))) ∧ ∀ n ∈ z0, (Lit.int .i64 n).wf = true) (y0 : len0 * 8 ≤ 140737488351232) :
  Calls Try.prog 9 #[.slice a0 len0 cap0] w fun e w' => e = .returned (.bool true) ∧ Below w.heap.size w w' := by
 obtain ⟨l0, rfl, hr0, hm0, hw0, hc0⟩ := ReadsInt.ofRowC w0
 obtain ⟨k, h⟩ := P l0 hm0 y0 hw0
 refine (trivetlaw01_CentsSums.calls k _ _ l0 true w (Kd.C_of_reads (d := (0 : Int)) (h1 := fun _ => rfl) hr0) hc0 h).mono ?_
 rintro e w' ⟨rfl, hd⟩
 exact ⟨rfl, hd⟩

/-! ### trivetlaw01_CentsStays: function 10 -/
def trivetlaw01_CentsStays.l0 : Nat → List Int → Bool → List Int → Int → Option (Bool)
 | 0, _, _, _, _ => none
 | k + 1, x0, x3, x4, x5 => if x5 < (x0.length : Int) then (if 0 ≤ x5 then (if x5 < (x4.length : Int) then (if (rd x4 x5) = (rd x0 x5) then (trivetlaw01_CentsStays.l0 k x0 x3 x4 (wrap64 (x5 + 1))) else (none)) else (none)) else (none)) else (some x3)
def trivetlaw01_CentsStays.f (k : Nat) (l0 : List Int) : Option (Bool) := (trivetlaw01_up_s.f).bind fun t208 => (if (l0.length : Int) > 1000 then (some t208) else ((some (([] : List Int) : List Int)).bind fun y209 => (if y209.length + l0.length < 17592186044416 then ((some (y209 ++ l0 : List Int)).bind fun y212 => ((cents_Sum.f k y212).bind fun bt215 => (trivetlaw01_CentsStays.l0 k l0 t208 y212 0))) else (none))))
theorem trivetlaw01_CentsStays.mono_l : ∀ k, (∀ y0 y1 y2 y3, LeO (trivetlaw01_CentsStays.l0 k y0 y1 y2 y3) (trivetlaw01_CentsStays.l0 (k + 1) y0 y1 y2 y3))
 | 0 => fun _ _ _ _ r h => by simp [trivetlaw01_CentsStays.l0] at h
 | k + 1 => by
  have ih0 := trivetlaw01_CentsStays.mono_l k
  ·intro y0 y1 y2 y3
   unfold trivetlaw01_CentsStays.l0
   repeat' first
   | (with_reducible exact ih0 _ _ _ _)
   | (with_reducible exact cents_Sum.mono _ _)
   | (with_reducible exact LeO.refl _)
   | (with_reducible exact LeO.none _)
   | (with_reducible refine LeO.ite ?_ ?_)
   | (with_reducible refine LeO.bind ?_ (fun _ => ?_))
   | exact ih0 _ _ _ _
   | exact cents_Sum.mono _ _
   | exact LeO.none _
   | refine LeO.ite ?_ ?_
   | refine LeO.bind ?_ (fun _ => ?_)
theorem trivetlaw01_CentsStays.mono : ∀ a0 k, LeO (trivetlaw01_CentsStays.f k a0) (trivetlaw01_CentsStays.f (k + 1) a0) := by
 intro a0 k
 have ih0 := trivetlaw01_CentsStays.mono_l k
 unfold trivetlaw01_CentsStays.f
 repeat' first
   | (with_reducible exact ih0 _ _ _ _)
   | (with_reducible exact cents_Sum.mono _ _)
   | (with_reducible exact LeO.refl _)
   | (with_reducible exact LeO.none _)
   | (with_reducible refine LeO.ite ?_ ?_)
   | (with_reducible refine LeO.bind ?_ (fun _ => ?_))
   | exact ih0 _ _ _ _
   | exact cents_Sum.mono _ _
   | exact LeO.none _
   | refine LeO.ite ?_ ?_
   | refine LeO.bind ?_ (fun _ => ?_)
set_option maxHeartbeats 8000000 in
set_option maxRecDepth 100000 in
theorem trivetlaw01_CentsStays.calls (k : Nat) (A0 : Option Addr) (c0 : Nat) (l0 : List Int) (r : Bool) (w : World) (hr0 : Kd.C (Kd.int .i64) w A0 l0.length l0) (hc0 : l0.length ≤ c0) (h : trivetlaw01_CentsStays.f k l0 = some r) :
  Calls Try.prog 10 #[.slice A0 l0.length c0] w fun e w' => e = .returned (.bool r) ∧ Below w.heap.size w w' := by
 have HR0 := ka hr0
 have HC0 := ka hc0
 clear hr0 hc0
 have HB := ka (Below.refl w.heap.size w)
 have H : ((trivetlaw01_up_s.f).bind fun t208 => (if (l0.length : Int) > 1000 then (some t208) else ((some (([] : List Int) : List Int)).bind fun y209 => (if y209.length + l0.length < 17592186044416 then ((some (y209 ++ l0 : List Int)).bind fun y212 => ((cents_Sum.f k y212).bind fun bt215 => (trivetlaw01_CentsStays.l0 k l0 t208 y212 0))) else (none))))) = some r := h
 clear h
 replace H := Option.bind_eq_some_iff.mp H
 obtain ⟨t208, A20, H⟩ := H
 replace H : (if (l0.length : Int) > 1000 then (some t208) else ((some (([] : List Int) : List Int)).bind fun y209 => (if y209.length + l0.length < 17592186044416 then ((some (y209 ++ l0 : List Int)).bind fun y212 => ((cents_Sum.f k y212).bind fun bt215 => (trivetlaw01_CentsStays.l0 k l0 t208 y212 0))) else (none)))) = some r := H
 have A2 := ka A20
 clear A20
 by_cases c3 : (l0.length : Int) > 1000
 ·rw [if_pos c3] at H
  have c3b0 : decide (1000 < (l0.length : Int)) = true := decide_eq_true c3
  have c3b1 : decide (1000 < l0.length) = true := decide_eq_true (by omega)
  clear c3
  obtain rfl := Option.some.inj H
  go_enter Try.func10, Try.ntmps10
  go_wp2_with (first | (go_at_call 12; (with_reducible refine (trivetlaw01_up_s.calls  t208 _ A2.out).mono ?_); rintro e w' ⟨rfl, ⟨nd, rfl⟩⟩; (try first | exact ⟨rfl, _, World.drewN_drewN _ _ _⟩ | exact ⟨rfl, _, Eq.trans (World.drewN_drewN _ _ _) (congrArg (World.drewN _) (Nat.add_assoc _ _ _))⟩)))
  repeat (go_quiet (first | (go_at_call 12; (with_reducible refine (trivetlaw01_up_s.calls  t208 _ A2.out).mono ?_); rintro e w' ⟨rfl, ⟨nd, rfl⟩⟩; (try first | exact ⟨rfl, _, World.drewN_drewN _ _ _⟩ | exact ⟨rfl, _, Eq.trans (World.drewN_drewN _ _ _) (congrArg (World.drewN _) (Nat.add_assoc _ _ _))⟩))); try go_wp2_with (first | (go_at_call 12; (with_reducible refine (trivetlaw01_up_s.calls  t208 _ A2.out).mono ?_); rintro e w' ⟨rfl, ⟨nd, rfl⟩⟩; (try first | exact ⟨rfl, _, World.drewN_drewN _ _ _⟩ | exact ⟨rfl, _, Eq.trans (World.drewN_drewN _ _ _) (congrArg (World.drewN _) (Nat.add_assoc _ _ _))⟩))))
  go_ret
  exact ⟨by first | rfl | (simp [errW_none, errW_some] <;> rfl) | (simp [*, errW_none, errW_some] <;> rfl), by repeat (first | (with_reducible first | exact HB.out | apply kc1 | apply kc2 | apply kc3) | exact HB.out)⟩
 ·rw [if_neg c3] at H
  have c3b0 : decide (1000 < (l0.length : Int)) = false := decide_eq_false c3
  have c3b1 : decide (1000 < l0.length) = false := decide_eq_false (by omega)
  clear c3
  obtain ⟨y209, hy209⟩ : ∃ y_ : List Int, y_ = (([] : List Int)) := ⟨_, rfl⟩
  replace H : (if y209.length + l0.length < 17592186044416 then ((some (y209 ++ l0 : List Int)).bind fun y212 => ((cents_Sum.f k y212).bind fun bt215 => (trivetlaw01_CentsStays.l0 k l0 t208 y212 0))) else (none)) = some r := by first | (rw [hy209]; with_reducible exact H) | (have H2_ := (Option.bind_some _ _).symm.trans H; rw [hy209]; with_reducible exact H2_) | (have H2_ := (Option.bind_some _ _).symm.trans H; with_reducible exact H2_) | with_reducible exact H | (rw [hy209]; exact H) | exact H
  have Ny209 := ka hy209
  clear hy209
  by_cases c4 : y209.length + l0.length < 17592186044416
  ·rw [if_pos c4] at H
   have LMc4 := ka c4
   clear c4
   obtain ⟨y212, hy212⟩ : ∃ y_ : List Int, y_ = (y209 ++ l0) := ⟨_, rfl⟩
   replace H : ((cents_Sum.f k y212).bind fun bt215 => (trivetlaw01_CentsStays.l0 k l0 t208 y212 0)) = some r := by first | (rw [hy212]; with_reducible exact H) | (have H2_ := (Option.bind_some _ _).symm.trans H; rw [hy212]; with_reducible exact H2_) | (have H2_ := (Option.bind_some _ _).symm.trans H; with_reducible exact H2_) | with_reducible exact H | (rw [hy212]; exact H) | exact H
   have Ny212 := ka hy212
   clear hy212
   replace H := Option.bind_eq_some_iff.mp H
   obtain ⟨⟨t215, t216⟩, A50, H⟩ := H
   replace H : (trivetlaw01_CentsStays.l0 k l0 t208 y212 0) = some r := H
   have A5 := ka A50
   clear A50
   have H' := ka H
   clear H
   go_enter Try.func10, Try.ntmps10
   go_wp2_with (first | (go_at_call 12; (with_reducible refine (trivetlaw01_up_s.calls  t208 _ A2.out).mono ?_); rintro e w' ⟨rfl, ⟨nd, rfl⟩⟩; (try first | exact ⟨rfl, _, World.drewN_drewN _ _ _⟩ | exact ⟨rfl, _, Eq.trans (World.drewN_drewN _ _ _) (congrArg (World.drewN _) (Nat.add_assoc _ _ _))⟩)) | ((with_reducible refine gate_dst (N := 11) rfl ?_); refine Kd.R_lit (Kd.int .i64) _ 2 ?hg (N := 11) ?hd (xs := ([] : List Int)) (inner := []) (ok := fun _ => True) (okp := fun _ => True) ?hr ?hp (fun _ hk => hk) trivial (Below.refl _ _) (Nat.le_refl _) (by simp) ?_; (case hd => rfl); (case hg => rfl); (case hr => first | (go_simp; done) | (go_simp; rfl)); (case hp => exact (Reps.none _ _)); intro v210 w6 ho7 hb hg_ hnew_; clear hg_ hnew_; (first | rw [← Ny209.out] at ho7 | (simp only [Int.reduceToNat] at ho7; rw [← Ny209.out] at ho7)); have HO211 := ka (Kd.R_lower ho7 (below_size (kw HB.out))); replace HB := ka (below_step (kw HB.out) hb); clear hb ho7) | ((with_reducible refine gate_builtin (b := .append) (xs := #[.tmp 11, .tmp 12]) rfl ?_); at_builtin; refine Kd.R_append_rows (Kd.int .i64) (w0 := w) w.heap.size rfl (.tmp 11) (.tmp 12) 42 2 (.int .i64 0) 8 rfl Try.underlying42 info2 rfl (by decide) (by omega) v210 y209 l0 _ _ _ (fun _ => True) (fun _ => False) rfl rfl ?aO ?aR (fun _ _ h => h) (fun _ h => h.elim) ?aF ?aB ?aS ?aL ?_; (case aR => repeat (first | exact (Kd.C_below HR0.out HB.out) | (with_reducible refine Kd.C_alloc ?_ _) | (with_reducible refine Kd.C_drewN ?_ _) | (with_reducible refine Kd.C_drew ?_))); (case aB => exact (kw HB.out)); (case aF => exact (fun _ _ => trivial)); (case aO => exact (kr HO211.out)); (case aS => exact (below_size (kw HB.out))); (case aL => have := LMc4.out; omega); intro v213 w8 ho hb hg hat; rw [← Ny212.out] at ho; replace HB := ka (hb); have HO214 := ka (ho); clear HO211; clear ho hb hg hat; obtain ⟨Ao9, co9, eo9⟩ := Kd.R_slice HO214.out; subst eo9) | (go_at_call 23; (with_reducible refine (cents_Sum.calls k _ _ y212 t215 t216 _ ?side1 ?side2 A5.out).mono ?_); (case side1 => repeat (first | exact (Kd.R_reads' HO214.out).2.2 | (with_reducible refine Kd.C_alloc ?_ _) | (with_reducible refine Kd.C_drewN ?_ _) | (with_reducible refine Kd.C_drew ?_))); (case side2 => exact (Kd.R_reads' HO214.out).2.1); rintro e w' ⟨rfl, ⟨nd, rfl⟩⟩; (try simp only [errW_none, errW_some]); (try first | exact ⟨rfl, _, World.drewN_drewN _ _ _⟩ | exact ⟨rfl, _, Eq.trans (World.drewN_drewN _ _ _) (congrArg (World.drewN _) (Nat.add_assoc _ _ _))⟩)))
   repeat (go_quiet (first | (go_at_call 12; (with_reducible refine (trivetlaw01_up_s.calls  t208 _ A2.out).mono ?_); rintro e w' ⟨rfl, ⟨nd, rfl⟩⟩; (try first | exact ⟨rfl, _, World.drewN_drewN _ _ _⟩ | exact ⟨rfl, _, Eq.trans (World.drewN_drewN _ _ _) (congrArg (World.drewN _) (Nat.add_assoc _ _ _))⟩)) | ((with_reducible refine gate_dst (N := 11) rfl ?_); refine Kd.R_lit (Kd.int .i64) _ 2 ?hg (N := 11) ?hd (xs := ([] : List Int)) (inner := []) (ok := fun _ => True) (okp := fun _ => True) ?hr ?hp (fun _ hk => hk) trivial (Below.refl _ _) (Nat.le_refl _) (by simp) ?_; (case hd => rfl); (case hg => rfl); (case hr => first | (go_simp; done) | (go_simp; rfl)); (case hp => exact (Reps.none _ _)); intro v210 w6 ho7 hb hg_ hnew_; clear hg_ hnew_; (first | rw [← Ny209.out] at ho7 | (simp only [Int.reduceToNat] at ho7; rw [← Ny209.out] at ho7)); have HO211 := ka (Kd.R_lower ho7 (below_size (kw HB.out))); replace HB := ka (below_step (kw HB.out) hb); clear hb ho7) | ((with_reducible refine gate_builtin (b := .append) (xs := #[.tmp 11, .tmp 12]) rfl ?_); at_builtin; refine Kd.R_append_rows (Kd.int .i64) (w0 := w) w.heap.size rfl (.tmp 11) (.tmp 12) 42 2 (.int .i64 0) 8 rfl Try.underlying42 info2 rfl (by decide) (by omega) v210 y209 l0 _ _ _ (fun _ => True) (fun _ => False) rfl rfl ?aO ?aR (fun _ _ h => h) (fun _ h => h.elim) ?aF ?aB ?aS ?aL ?_; (case aR => repeat (first | exact (Kd.C_below HR0.out HB.out) | (with_reducible refine Kd.C_alloc ?_ _) | (with_reducible refine Kd.C_drewN ?_ _) | (with_reducible refine Kd.C_drew ?_))); (case aB => exact (kw HB.out)); (case aF => exact (fun _ _ => trivial)); (case aO => exact (kr HO211.out)); (case aS => exact (below_size (kw HB.out))); (case aL => have := LMc4.out; omega); intro v213 w8 ho hb hg hat; rw [← Ny212.out] at ho; replace HB := ka (hb); have HO214 := ka (ho); clear HO211; clear ho hb hg hat; obtain ⟨Ao9, co9, eo9⟩ := Kd.R_slice HO214.out; subst eo9) | (go_at_call 23; (with_reducible refine (cents_Sum.calls k _ _ y212 t215 t216 _ ?side1 ?side2 A5.out).mono ?_); (case side1 => repeat (first | exact (Kd.R_reads' HO214.out).2.2 | (with_reducible refine Kd.C_alloc ?_ _) | (with_reducible refine Kd.C_drewN ?_ _) | (with_reducible refine Kd.C_drew ?_))); (case side2 => exact (Kd.R_reads' HO214.out).2.1); rintro e w' ⟨rfl, ⟨nd, rfl⟩⟩; (try simp only [errW_none, errW_some]); (try first | exact ⟨rfl, _, World.drewN_drewN _ _ _⟩ | exact ⟨rfl, _, Eq.trans (World.drewN_drewN _ _ _) (congrArg (World.drewN _) (Nat.add_assoc _ _ _))⟩))); try go_wp2_with (first | (go_at_call 12; (with_reducible refine (trivetlaw01_up_s.calls  t208 _ A2.out).mono ?_); rintro e w' ⟨rfl, ⟨nd, rfl⟩⟩; (try first | exact ⟨rfl, _, World.drewN_drewN _ _ _⟩ | exact ⟨rfl, _, Eq.trans (World.drewN_drewN _ _ _) (congrArg (World.drewN _) (Nat.add_assoc _ _ _))⟩)) | ((with_reducible refine gate_dst (N := 11) rfl ?_); refine Kd.R_lit (Kd.int .i64) _ 2 ?hg (N := 11) ?hd (xs := ([] : List Int)) (inner := []) (ok := fun _ => True) (okp := fun _ => True) ?hr ?hp (fun _ hk => hk) trivial (Below.refl _ _) (Nat.le_refl _) (by simp) ?_; (case hd => rfl); (case hg => rfl); (case hr => first | (go_simp; done) | (go_simp; rfl)); (case hp => exact (Reps.none _ _)); intro v210 w6 ho7 hb hg_ hnew_; clear hg_ hnew_; (first | rw [← Ny209.out] at ho7 | (simp only [Int.reduceToNat] at ho7; rw [← Ny209.out] at ho7)); have HO211 := ka (Kd.R_lower ho7 (below_size (kw HB.out))); replace HB := ka (below_step (kw HB.out) hb); clear hb ho7) | ((with_reducible refine gate_builtin (b := .append) (xs := #[.tmp 11, .tmp 12]) rfl ?_); at_builtin; refine Kd.R_append_rows (Kd.int .i64) (w0 := w) w.heap.size rfl (.tmp 11) (.tmp 12) 42 2 (.int .i64 0) 8 rfl Try.underlying42 info2 rfl (by decide) (by omega) v210 y209 l0 _ _ _ (fun _ => True) (fun _ => False) rfl rfl ?aO ?aR (fun _ _ h => h) (fun _ h => h.elim) ?aF ?aB ?aS ?aL ?_; (case aR => repeat (first | exact (Kd.C_below HR0.out HB.out) | (with_reducible refine Kd.C_alloc ?_ _) | (with_reducible refine Kd.C_drewN ?_ _) | (with_reducible refine Kd.C_drew ?_))); (case aB => exact (kw HB.out)); (case aF => exact (fun _ _ => trivial)); (case aO => exact (kr HO211.out)); (case aS => exact (below_size (kw HB.out))); (case aL => have := LMc4.out; omega); intro v213 w8 ho hb hg hat; rw [← Ny212.out] at ho; replace HB := ka (hb); have HO214 := ka (ho); clear HO211; clear ho hb hg hat; obtain ⟨Ao9, co9, eo9⟩ := Kd.R_slice HO214.out; subst eo9) | (go_at_call 23; (with_reducible refine (cents_Sum.calls k _ _ y212 t215 t216 _ ?side1 ?side2 A5.out).mono ?_); (case side1 => repeat (first | exact (Kd.R_reads' HO214.out).2.2 | (with_reducible refine Kd.C_alloc ?_ _) | (with_reducible refine Kd.C_drewN ?_ _) | (with_reducible refine Kd.C_drew ?_))); (case side2 => exact (Kd.R_reads' HO214.out).2.1); rintro e w' ⟨rfl, ⟨nd, rfl⟩⟩; (try simp only [errW_none, errW_some]); (try first | exact ⟨rfl, _, World.drewN_drewN _ _ _⟩ | exact ⟨rfl, _, Eq.trans (World.drewN_drewN _ _ _) (congrArg (World.drewN _) (Nat.add_assoc _ _ _))⟩))))
   (try simp only [Act.put, List.setIfInBounds_toArray, List.set_cons_zero, List.set_cons_succ])
   go_loopg [5] k (fun kq v5 w' => ∃ (x5_1 : Int), v5 = .int .i64 x5_1 ∧ Aside0 (trivetlaw01_CentsStays.l0 kq l0 t208 y212 x5_1 = some r) ∧ Aside0 (kq ≤ k) ∧ Aside0 (Kd.R (Kd.int .i64) 2 w' w.heap.size (fun _ => True) (.slice Ao9 y212.length co9) y212) ∧ Aside0 (Below w.heap.size w w'))
   case atStart => exact ⟨(0), (by first | rfl | (simp; done) | (simp [*]; done)), H', ⟨Nat.le_refl _⟩, ⟨kr HO214.out⟩, ⟨by repeat (first | (with_reducible first | exact HB.out | apply kc1 | apply kc2 | apply kc3) | exact HB.out)⟩⟩
   case round =>
    clear H'
    try clear c1
    try clear p2
    try clear c3
    try clear c3b0
    try clear c3b1
    try clear c4
    obtain ⟨x5_1, rfl, HA, HK1, HO_4, HB⟩ := hrel
    cases gk with
    | zero => exact absurd HA.out (by simp [trivetlaw01_CentsStays.l0])
    | succ k1 =>
     have H := HA.out
     clear HA
     simp only [trivetlaw01_CentsStays.l0] at H
     by_cases c10 : x5_1 < (l0.length : Int)
     ·rw [if_pos c10] at H
      have c10b0 : decide (x5_1 < (l0.length : Int)) = true := decide_eq_true c10
      clear c10
      by_cases c11 : 0 ≤ x5_1
      ·rw [if_pos c11] at H
       have c11b0 : decide (0 ≤ x5_1) = true := decide_eq_true c11
       clear c11
       by_cases c12 : x5_1 < (y212.length : Int)
       ·rw [if_pos c12] at H
        have c12b0 : decide (x5_1 < (y212.length : Int)) = true := decide_eq_true c12
        clear c12
        by_cases c13 : (rd y212 x5_1) = (rd l0 x5_1)
        ·rw [if_pos c13] at H
         have c13b0 : ((rd y212 x5_1) == (rd l0 x5_1)) = true := beq_iff_eq.mpr c13
         have c13b1 : ((rd y212 x5_1) != (rd l0 x5_1)) = false := bne_eq_false_iff_eq.mpr c13
         clear c13
         have H' := ka H
         clear H
         have p217 : 0 ≤ (x5_1 : Int) := of_decide_eq_true (by first | (with_reducible assumption) | assumption)
         have q217 : x5_1 < (y212.length : Int) := of_decide_eq_true (by first | (with_reducible assumption) | assumption)
         obtain ⟨ad217, e217, hx217_0⟩ := Kd.at_int (Kd.R_reads' HO_4.out).2.2 x5_1 p217 q217
         cases e217
         replace p217 := eq_true p217
         replace q217 := eq_true q217
         have p218 : 0 ≤ (x5_1 : Int) := of_decide_eq_true (by first | (with_reducible assumption) | assumption)
         have q218 : x5_1 < (l0.length : Int) := of_decide_eq_true (by first | (with_reducible assumption) | assumption)
         obtain ⟨ad218, e218, hx218_0⟩ := Kd.at_int HR0.out x5_1 p218 q218
         cases e218
         replace hx218_0 := (HB.out.cell (World.block_lt_of_cell? w _ hx218_0)).trans hx218_0
         replace p218 := eq_true p218
         replace q218 := eq_true q218
         go_wp2
         repeat (go_quiet (fail); try go_wp2)
         go_roundg k1
         case measure => have := HK1.out; omega
         case rel => exact ⟨(wrap64 (x5_1 + 1)), (by first | rfl | (simp; done) | (simp [*]; done)), H', ⟨by have := HK1.out; omega⟩, ⟨kr HO_4.out⟩, ⟨by repeat (first | (with_reducible first | exact HB.out | apply kc1 | apply kc2 | apply kc3) | exact HB.out)⟩⟩
        ·rw [if_neg c13] at H
         exact absurd H (by simp)
       ·rw [if_neg c12] at H
        exact absurd H (by simp)
      ·rw [if_neg c11] at H
       exact absurd H (by simp)
     ·rw [if_neg c10] at H
      have c10b0 : decide (x5_1 < (l0.length : Int)) = false := decide_eq_false c10
      clear c10
      obtain rfl := Option.some.inj H
      go_wp2
      repeat (go_quiet (fail); try go_wp2)
      go_ret
      exact ⟨by first | rfl | (simp [errW_none, errW_some] <;> rfl) | (simp [*, errW_none, errW_some] <;> rfl), by repeat (first | (with_reducible first | exact HB.out | apply kc1 | apply kc2 | apply kc3) | exact HB.out)⟩
  ·rw [if_neg c4] at H
   exact absurd H (by simp)

/-- THE ONE PURE STATEMENT of trivetlaw01_CentsStays: yours. -/
def trivetlaw01_CentsStays.Pure : Prop := ∀ (l0 : List Int), l0.length ≤ maxLen → l0.length * 8 ≤ 140737488351232 → (∀ x ∈ l0, (Lit.int .i64 x).wf = true) → ∃ k, trivetlaw01_CentsStays.f k l0 = some true
theorem trivetlaw01_CentsStays.walk (P : trivetlaw01_CentsStays.Pure) (a0 : Option Addr) (len0 cap0 : Nat) (z0 : List Int) (w : World) (w0 : (a0 = none ∧ len0 = 0 ∧ cap0 = 0 ∧ z0 = []) ∨ ∃ x, a0 = some x ∧ len0 ≤ cap0 ∧ cap0 ≤ maxLen ∧ z0.length = cap0 ∧ (∀ i, i < z0.length → w.cell? (x.add i) = some (.int .i64 (z0.getD i 0))) ∧ ∀ n ∈ z0, (Lit.int .i64 n).wf = true) (y0 : len0 * 8 ≤ 140737488351232) :
  Calls Try.prog 10 #[.slice a0 len0 cap0] w fun e w' => e = .returned (.bool true) ∧ Below w.heap.size w w' := by
 obtain ⟨l0, rfl, hr0, hm0, hw0, hc0⟩ := ReadsInt.ofRowC w0
 obtain ⟨k, h⟩ := P l0 hm0 y0 hw0
 refine (trivetlaw01_CentsStays.calls k _ _ l0 true w (Kd.C_of_reads (d := (0 : Int)) (h1 := fun _ => rfl) hr0) hc0 h).mono ?_
 rintro e w' ⟨rfl, hd⟩
 exact ⟨rfl, hd⟩

/-! ### cents_Add: function 16 -/
def cents_Add.f (a0 : Int) (a1 : Int) : Option (Int × Option Int) := if ((decide ((wrap64 (a0 + a1)) > a0)) == (decide (a1 > 0))) = true then (some (wrap64 (a0 + a1), none)) else (if a1 = 0 then (some (wrap64 (a0 + a1), none)) else (some (0, some 3)))
set_option maxHeartbeats 8000000 in
set_option maxRecDepth 100000 in
theorem cents_Add.calls (a0 : Int) (a1 : Int) (r1 : Int) (r2 : Option Int) (w : World) (h : cents_Add.f a0 a1 = some (r1, r2)) :
  Calls Try.prog 16 #[.int .i64 a0, .int .i64 a1] w fun e w' => e = .returned (.tuple #[.int .i64 r1, errW r2]) ∧ Drawn0 w w' := by
 have hu24 := Try.underlying24
 have hu27 := Try.underlying27
 have H : (if ((decide ((wrap64 (a0 + a1)) > a0)) == (decide (a1 > 0))) = true then (some (wrap64 (a0 + a1), none)) else (if a1 = 0 then (some (wrap64 (a0 + a1), none)) else (some (0, some 3)))) = some (r1, r2) := h
 clear h
 by_cases c3 : ((decide ((wrap64 (a0 + a1)) > a0)) == (decide (a1 > 0))) = true
 ·rw [if_pos c3] at H
  have c3b0 : ((decide ((wrap64 (a0 + a1)) > a0)) == (decide (a1 > 0))) = true := c3
  (try (have c3b1 : decide ((decide ((wrap64 (a0 + a1)) > a0)) = (decide (a1 > 0))) = true := by simpa using c3))
  (try (have c3b2 : ((decide ((wrap64 (a0 + a1)) > a0)) == (decide (a1 > 0))) = true := by simpa using c3))
  clear c3
  simp only [Option.some.injEq, Prod.mk.injEq] at H
  obtain ⟨rfl, rfl⟩ := H
  go_enter Try.func16, Try.ntmps16
  go_wp2
  go_ret2
  exact ⟨by first | rfl | (simp; done) | (simp [*]; done), by repeat (first | exact Drawn0.refl _ | apply Drawn0.step)⟩
 ·rw [if_neg c3] at H
  have c3b0 : ((decide ((wrap64 (a0 + a1)) > a0)) == (decide (a1 > 0))) = false := by simpa using c3
  (try (have c3b1 : decide ((decide ((wrap64 (a0 + a1)) > a0)) = (decide (a1 > 0))) = false := by simpa using c3))
  (try (have c3b2 : ((decide ((wrap64 (a0 + a1)) > a0)) == (decide (a1 > 0))) = false := by simpa using c3))
  (try (have c3b3 : ¬ ((decide ((wrap64 (a0 + a1)) > a0)) = (decide (a1 > 0))) := by simpa using c3))
  clear c3
  by_cases c4 : a1 = 0
  ·rw [if_pos c4] at H
   have c4b0 : (a1 == 0) = true := beq_iff_eq.mpr c4
   have c4b1 : (a1 != 0) = false := bne_eq_false_iff_eq.mpr c4
   clear c4
   simp only [Option.some.injEq, Prod.mk.injEq] at H
   obtain ⟨rfl, rfl⟩ := H
   go_enter Try.func16, Try.ntmps16
   go_wp2
   go_ret2
   exact ⟨by first | rfl | (simp; done) | (simp [*]; done), by repeat (first | exact Drawn0.refl _ | apply Drawn0.step)⟩
  ·rw [if_neg c4] at H
   have c4b0 : (a1 == 0) = false := beq_eq_false_iff_ne.mpr c4
   have c4b1 : (a1 != 0) = true := bne_iff_ne.mpr c4
   simp only [Option.some.injEq, Prod.mk.injEq] at H
   obtain ⟨rfl, rfl⟩ := H
   go_enter Try.func16, Try.ntmps16
   go_wp2
   go_ret2
   exact ⟨by first | rfl | (simp; done) | (simp [*]; done), by repeat (first | exact Drawn0.refl _ | apply Drawn0.step)⟩

/-! ### cents_Add_s: function 16, told plainly -/
theorem cents_Add.tells (a b : Int) (ha : M.In a) (hb : M.In b) : cents_Add.f a b = some (M.told (a + b)) := by
 unfold cents_Add.f
 have hw : wrap64 (a + b) = a + b ∨ ¬ M.In (a + b) := by
  by_cases h : M.In (a + b)
  ·exact .inl (M.w64_id h.1 h.2)
  ·exact .inr h
 rcases hw with hw | hw
 ·rw [hw, M.told_in (by rw [← hw]; unfold M.In wrap64; omega)]
  by_cases h0 : b = 0
  ·subst h0; simp
  ·by_cases h1 : b > 0 <;> simp [h0, h1] <;> omega
 ·rw [M.told_out hw]
  have h0 : b ≠ 0 := by rintro rfl; exact hw (by simpa using ha)
  unfold M.In at *
  have h2 : (wrap64 (a + b) > a) ↔ ¬ (b > 0) := by unfold wrap64; omega
  by_cases h1 : b > 0
  ·have h3 : ¬ (wrap64 (a + b) > a) := fun h => h2.mp h h1
   simp only [decide_eq_true h1, decide_eq_false h3]
   simp [h0]
  ·have h3 := h2.mpr h1
   simp only [decide_eq_false h1, decide_eq_true h3]
   simp [h0]
def cents_Add_s.f (a b : Int) : Option (Int × Option Int) := if M.In a ∧ M.In b then some (M.told (a + b)) else none
theorem cents_Add_s.calls (a0 : Int) (a1 : Int) (r1 : Int) (r2 : Option Int) (w : World) (h : cents_Add_s.f a0 a1 = some (r1, r2)) :
  Calls Try.prog 16 #[.int .i64 a0, .int .i64 a1] w fun e w' => e = .returned (.tuple #[.int .i64 r1, errW r2]) ∧ Drawn0 w w' := by
 unfold cents_Add_s.f at h
 split at h
 ·rename_i hr
  exact cents_Add.calls a0 a1 r1 r2 w ((cents_Add.tells a0 a1 hr.1 hr.2).trans h)
 ·cases h
theorem cents_Add_s.at_ {a b : Int} (ha : M.In a) (hb : M.In b) : cents_Add_s.f a b = some (M.told (a + b)) := by unfold cents_Add_s.f; rw [if_pos ⟨ha, hb⟩]

end Go.Proofs.Ytdddiahgkpfikaa.P
