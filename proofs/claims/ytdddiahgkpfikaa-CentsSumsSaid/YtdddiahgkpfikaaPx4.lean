-- Written by a program of this session out of the translation of the seat: Lean functions and the proofs that the Go functions come to them.
import Derived.Test.YtdddiahgkpfikaaPx0
namespace Go.Proofs.Ytdddiahgkpfikaa.P
open Go.RowKit Go.Proofs.YtdddiahgkpfikaaW.PrintWords Go.Proofs.YtdddiahgkpfikaaW.PrintLast Go.Proofs.YtdddiahgkpfikaaW.PrintMore
attribute [local go_sem] max2_int min2_int max_two min_two max_three min_three max_four min_four   -- for this text's walks alone
set_option linter.unusedVariables false
set_option linter.unusedSimpArgs false

/-! ### trivetref01_To: function 29 -/
def trivetref01_To.l0 : Nat → Int → Int → List Int → Bool → Option (Int × Bool)
 | 0, _, _, _, _ => none
 | k + 1, x4, x5, x143000, x143001 => if x5 ≥ 0 then (if 0 ≤ x5 then (if x5 < (x143000.length : Int) then (trivetref01_To.l0 k (IntKind.u64.wrap ((IntKind.u64.wrap (x4 * 65536)) + (rd x143000 x5))) (wrap64 (x5 - 1)) x143000 x143001) else (none)) else (none)) else (if x143001 = true then (some (wrap64 (IntKind.u64.wrap ((Go.bits .xor .u64 18446744073709551615 x4) + 1)), decide (x4 ≤ 9223372036854775808))) else (some (wrap64 (x4), decide (x4 < 9223372036854775808))))
def trivetref01_To.f (k : Nat) (l0_0 : List Int) (a0_1 : Bool) : Option (Int × Bool) := if (l0_0.length : Int) > 4 then (some (0, false)) else (trivetref01_To.l0 k 0 (wrap64 ((l0_0.length : Int) - 1)) l0_0 a0_1)
theorem trivetref01_To.mono_l : ∀ k, (∀ y0 y1 y2 y3, LeO (trivetref01_To.l0 k y0 y1 y2 y3) (trivetref01_To.l0 (k + 1) y0 y1 y2 y3))
 | 0 => fun _ _ _ _ r h => by simp [trivetref01_To.l0] at h
 | k + 1 => by
  have ih0 := trivetref01_To.mono_l k
  ·intro y0 y1 y2 y3
   unfold trivetref01_To.l0
   repeat' first
   | (with_reducible exact ih0 _ _ _ _)
   | (with_reducible exact LeO.refl _)
   | (with_reducible exact LeO.none _)
   | (with_reducible refine LeO.ite ?_ ?_)
   | (with_reducible refine LeO.bind ?_ (fun _ => ?_))
   | exact ih0 _ _ _ _
   | exact LeO.none _
   | refine LeO.ite ?_ ?_
   | refine LeO.bind ?_ (fun _ => ?_)
theorem trivetref01_To.mono : ∀ a0 a1 k, LeO (trivetref01_To.f k a0 a1) (trivetref01_To.f (k + 1) a0 a1) := by
 intro a0 a1 k
 have ih0 := trivetref01_To.mono_l k
 unfold trivetref01_To.f
 repeat' first
   | (with_reducible exact ih0 _ _ _ _)
   | (with_reducible exact LeO.refl _)
   | (with_reducible exact LeO.none _)
   | (with_reducible refine LeO.ite ?_ ?_)
   | (with_reducible refine LeO.bind ?_ (fun _ => ?_))
   | exact ih0 _ _ _ _
   | exact LeO.none _
   | refine LeO.ite ?_ ?_
   | refine LeO.bind ?_ (fun _ => ?_)
set_option maxHeartbeats 8000000 in
set_option maxRecDepth 100000 in
theorem trivetref01_To.calls (k : Nat) (A0_0 : Option Addr) (c0_0 : Nat) (l0_0 : List Int) (a0_1 : Bool) (r1 : Int) (r2 : Bool) (w : World) (hr0_0 : Kd.C (Kd.int .u64) w A0_0 l0_0.length l0_0) (hc0_0 : l0_0.length ≤ c0_0) (h : trivetref01_To.f k l0_0 a0_1 = some (r1, r2)) :
  Calls Try.prog 29 #[.agg #[.slice A0_0 l0_0.length c0_0, .bool a0_1]] w fun e w' => e = .returned (.tuple #[.int .i64 r1, .bool r2]) ∧ Below w.heap.size w w' := by
 have hu37 := Try.underlying37
 have HR0_0 := ka hr0_0
 have HC0_0 := ka hc0_0
 clear hr0_0 hc0_0
 have HB := ka (Below.refl w.heap.size w)
 have H : (if (l0_0.length : Int) > 4 then (some (0, false)) else (trivetref01_To.l0 k 0 (wrap64 ((l0_0.length : Int) - 1)) l0_0 a0_1)) = some (r1, r2) := h
 clear h
 by_cases c2 : (l0_0.length : Int) > 4
 ·rw [if_pos c2] at H
  have c2b0 : decide (4 < (l0_0.length : Int)) = true := decide_eq_true c2
  have c2b1 : decide (4 < l0_0.length) = true := decide_eq_true (by omega)
  clear c2
  simp only [Option.some.injEq, Prod.mk.injEq] at H
  obtain ⟨rfl, rfl⟩ := H
  go_enter Try.func29, Try.ntmps29
  go_wp2_with (first | ((with_reducible refine gate_dst (N := 1) rfl ?_); refine kx (N := 1) (cs := #[.slice A0_0 l0_0.length c0_0, .bool a0_1]) (t := 37) ?_; intro gb142 hg w3 hbox hb; have n0_ := ka (below_step (kw HB.out) hb); have n1_ := ka (hbox); have n2_ := ka ((by rw [hg]; exact (below_size (kw HB.out)) : w.heap.size ≤ gb142)); have n3_ := n2_; clear HB; have HB := n0_; have BK142 := n1_; have GW142 := n2_; have GE142 := n3_; clear n0_ n1_ n2_ n3_; clear hb hbox hg; have hcz4 := blkAll2 BK142.out))
  go_ret2
  exact ⟨by first | rfl | (simp [errW_none, errW_some] <;> rfl) | (simp [*, errW_none, errW_some] <;> rfl), by repeat (first | (with_reducible first | exact HB.out | apply kc1 | apply kc2 | apply kc3 | refine kc4 ?_ GE142.out) | exact HB.out)⟩
 ·rw [if_neg c2] at H
  have c2b0 : decide (4 < (l0_0.length : Int)) = false := decide_eq_false c2
  have c2b1 : decide (4 < l0_0.length) = false := decide_eq_false (by omega)
  clear c2
  have H' := ka H
  clear H
  go_enter Try.func29, Try.ntmps29
  go_wp2_with (first | ((with_reducible refine gate_dst (N := 1) rfl ?_); refine kx (N := 1) (cs := #[.slice A0_0 l0_0.length c0_0, .bool a0_1]) (t := 37) ?_; intro gb142 hg w5 hbox hb; have n0_ := ka (below_step (kw HB.out) hb); have n1_ := ka (hbox); have n2_ := ka ((by rw [hg]; exact (below_size (kw HB.out)) : w.heap.size ≤ gb142)); have n3_ := n2_; clear HB; have HB := n0_; have BK142 := n1_; have GW142 := n2_; have GE142 := n3_; clear n0_ n1_ n2_ n3_; clear hb hbox hg; have hcz6 := blkAll2 BK142.out))
  (try simp only [Act.put, List.setIfInBounds_toArray, List.set_cons_zero, List.set_cons_succ])
  go_loopg [4, 5] k (fun kq v4 v5 w' => ∃ (x4_1 : Int) (x5_1 : Int), v4 = .int .u64 x4_1 ∧ v5 = .int .i64 x5_1 ∧ Aside0 (trivetref01_To.l0 kq x4_1 x5_1 l0_0 a0_1 = some (r1, r2)) ∧ Aside0 (kq ≤ k) ∧ Aside0 (w'.heap[gb142]? = some (.cells #[(.slice A0_0 l0_0.length c0_0), .bool a0_1] 37 (0, 0))) ∧ Aside0 (Below w.heap.size w w'))
  case atStart => exact ⟨(0), (wrap64 ((l0_0.length : Int) - 1)), (by first | rfl | (simp; done) | (simp [*]; done)), (by first | rfl | (simp; done) | (simp [*]; done)), H', ⟨Nat.le_refl _⟩, ⟨by (with_reducible repeat (first | apply kb1 | apply kb2 | apply kb3)); exact BK142.out⟩, ⟨by repeat (first | (with_reducible first | exact HB.out | apply kc1 | apply kc2 | apply kc3 | refine kc4 ?_ GE142.out) | exact HB.out)⟩⟩
  case round =>
   clear H'
   try clear c2
   try clear c2b0
   try clear c2b1
   try clear p2
   try clear p6
   try clear hcz4
   try clear hcz6
   obtain ⟨x4_1, x5_1, rfl, rfl, HA, HK1, BK142, HB⟩ := hrel
   cases gk with
   | zero => exact absurd HA.out (by simp [trivetref01_To.l0])
   | succ k1 =>
    have H := HA.out
    clear HA
    simp only [trivetref01_To.l0] at H
    by_cases c7 : x5_1 ≥ 0
    ·rw [if_pos c7] at H
     have c7b0 : decide (0 ≤ x5_1) = true := decide_eq_true c7
     clear c7
     by_cases c8 : 0 ≤ x5_1
     ·rw [if_pos c8] at H
      have c8b0 : decide (0 ≤ x5_1) = true := decide_eq_true c8
      clear c8
      by_cases c9 : x5_1 < (l0_0.length : Int)
      ·rw [if_pos c9] at H
       have c9b0 : decide (x5_1 < (l0_0.length : Int)) = true := decide_eq_true c9
       clear c9
       have H' := ka H
       clear H
       have hcz10 := blkAll2 BK142.out
       have p143 : 0 ≤ (x5_1 : Int) := of_decide_eq_true (by first | (with_reducible assumption) | assumption)
       have q143 : x5_1 < (l0_0.length : Int) := of_decide_eq_true (by first | (with_reducible assumption) | assumption)
       obtain ⟨ad143, e143, hx143_0⟩ := Kd.at_int HR0_0.out x5_1 p143 q143
       cases e143
       replace hx143_0 := (HB.out.cell (World.block_lt_of_cell? w _ hx143_0)).trans hx143_0
       replace p143 := eq_true p143
       replace q143 := eq_true q143
       go_wp2
       go_roundg k1
       case measure => have := HK1.out; omega
       case rel => exact ⟨(IntKind.u64.wrap ((IntKind.u64.wrap (x4_1 * 65536)) + (rd l0_0 x5_1))), (wrap64 (x5_1 - 1)), (by first | rfl | (simp; done) | (simp [*]; done)), (by first | rfl | (simp; done) | (simp [*]; done)), H', ⟨by have := HK1.out; omega⟩, ⟨by (with_reducible repeat (first | apply kb1 | apply kb2 | apply kb3)); exact BK142.out⟩, ⟨by repeat (first | (with_reducible first | exact HB.out | apply kc1 | apply kc2 | apply kc3 | refine kc4 ?_ GE142.out) | exact HB.out)⟩⟩
      ·rw [if_neg c9] at H
       exact absurd H (by simp)
     ·rw [if_neg c8] at H
      exact absurd H (by simp)
    ·rw [if_neg c7] at H
     have c7b0 : decide (0 ≤ x5_1) = false := decide_eq_false c7
     clear c7
     by_cases c11 : a0_1 = true
     ·subst c11
      have H1 : (some (wrap64 (IntKind.u64.wrap ((Go.bits .xor .u64 18446744073709551615 x4_1) + 1)), decide (x4_1 ≤ 9223372036854775808))) = some (r1, r2) := by rw [if_pos rfl] at H; exact H
      clear H
      have H := H1
      clear H1
      simp only [Option.some.injEq, Prod.mk.injEq] at H
      obtain ⟨rfl, rfl⟩ := H
      have hcz12 := blkAll2 BK142.out
      go_wp2
      go_ret2
      exact ⟨by first | rfl | (simp [errW_none, errW_some] <;> rfl) | (simp [*, errW_none, errW_some] <;> rfl), by repeat (first | (with_reducible first | exact HB.out | apply kc1 | apply kc2 | apply kc3 | refine kc4 ?_ GE142.out) | exact HB.out)⟩
     ·replace c11 := Bool.eq_false_iff.mpr c11
      subst c11
      have H1 : (some (wrap64 (x4_1), decide (x4_1 < 9223372036854775808))) = some (r1, r2) := by rw [if_neg (show ¬ (false = true) by decide)] at H; exact H
      clear H
      have H := H1
      clear H1
      simp only [Option.some.injEq, Prod.mk.injEq] at H
      obtain ⟨rfl, rfl⟩ := H
      have hcz13 := blkAll2 BK142.out
      go_wp2
      go_ret2
      exact ⟨by first | rfl | (simp [errW_none, errW_some] <;> rfl) | (simp [*, errW_none, errW_some] <;> rfl), by repeat (first | (with_reducible first | exact HB.out | apply kc1 | apply kc2 | apply kc3 | refine kc4 ?_ GE142.out) | exact HB.out)⟩

/-! ### trivetref01_To: function 29, its laws -/
theorem trivetref01_To.loop (i : Nat) : ∀ (k : Nat) (d : List Int) (m : Bool), U.Dg d → d.length ≤ 4 → i ≤ d.length → i < k → trivetref01_To.l0 k (U.val (d.drop i)) ((i : Int) - 1) d m = trivetref01_To.l0 (k - i) (U.val d) (-1) d m := by
 induction i with
 | zero => intro k d m hd h4 hi hk; rfl
 | succ i ih =>
  intro k d m hd h4 hi hk
  obtain ⟨j, rfl⟩ : ∃ j, k = j + 1 := ⟨k - 1, by omega⟩
  have hv : U.val (d.drop (i + 1)) < 281474976710656 := by
   have := U.val_lt (d := d.drop (i + 1)) (fun x hx => hd x (List.mem_of_mem_drop hx))
   have hl : (d.drop (i + 1)).length ≤ 3 := by simp; omega
   have : (65536 : Int) ^ (d.drop (i + 1)).length ≤ 65536 ^ 3 := U.pow_le hl
   have e3 : (65536 : Int) ^ 3 = 281474976710656 := by decide
   omega
  have hv0 := U.val_nonneg (d := d.drop (i + 1)) (fun x hx => hd x (List.mem_of_mem_drop hx))
  have hg := hd.get i
  have hs := U.drop_step d i
  have hr : rd d ((i + 1 : Nat) - 1 : Int) = d.getD i 0 := by unfold rd; congr 1; omega
  generalize hV : U.val (d.drop (i + 1)) = v at *
  generalize hG : d.getD i 0 = g at *
  have key : trivetref01_To.l0 (j + 1) v ((i + 1 : Nat) - 1 : Int) d m = trivetref01_To.l0 j (U.val (d.drop i)) ((i : Int) - 1) d m := by
   simp only [trivetref01_To.l0]
   rw [if_pos (show ((i + 1 : Nat) - 1 : Int) ≥ 0 by omega), if_pos (show 0 ≤ ((i + 1 : Nat) - 1 : Int) by omega), if_pos (show ((i + 1 : Nat) - 1 : Int) < (d.length : Int) by omega), hr, M.wrapu_id (n := v * 65536) (by omega) (by omega), M.wrapu_id (n := v * 65536 + g) (by omega) (by omega), M.w64_id (by omega) (by omega), hs]
   congr 1 <;> omega
  rw [key, ih j d m hd h4 (by omega) (by omega)]
  congr 1
  omega
theorem trivetref01_To.num (k : Nat) (z : Int) (hk : 12 ≤ k) (hz : M.abs z < 65536 ^ 64) : ∃ v, trivetref01_To.f k (U.num z).1 (U.num z).2 = some (v, decide (M.In z)) ∧ (M.In z → v = z) := by
 have a0 := U.abs_nonneg z
 have e4 : (65536 : Int) ^ 4 = 18446744073709551616 := by decide
 have hd := U.dig_dg (M.abs z)
 have hv := U.val_dig a0
 unfold U.num trivetref01_To.f
 have a1 : M.abs z = z ∧ 0 ≤ z ∨ M.abs z = -z ∧ z < 0 := by unfold M.abs; split <;> omega
 by_cases h : (((U.dig (M.abs z)).length : Nat) : Int) > 4
 ·rw [if_pos h]
  have : ¬ M.abs z < 65536 ^ 4 := fun g => by have := U.len_dig 4 _ g; omega
  refine ⟨0, ?_, ?_⟩
  ·congr 2
   rw [decide_eq_false]
   unfold M.In; omega
  ·unfold M.In; omega
 ·rw [if_neg h]
  have hl : (U.dig (M.abs z)).length ≤ 4 := by omega
  have hlt := U.val_lt hd
  rw [hv] at hlt
  have : (65536 : Int) ^ (U.dig (M.abs z)).length ≤ 65536 ^ 4 := U.pow_le hl
  have key := trivetref01_To.loop (U.dig (M.abs z)).length k (U.dig (M.abs z)) (decide (z < 0)) hd hl (Nat.le_refl _) (by omega)
  rw [List.drop_length, hv] at key
  have hw : wrap64 (((U.dig (M.abs z)).length : Int) - 1) = ((U.dig (M.abs z)).length : Int) - 1 := M.w64_id (by omega) (by omega)
  rw [hw]
  simp only [U.val] at key
  rw [key]
  obtain ⟨j, hj⟩ : ∃ j, k - (U.dig (M.abs z)).length = j + 1 := ⟨k - (U.dig (M.abs z)).length - 1, by omega⟩
  rw [hj]
  simp only [trivetref01_To.l0]
  rw [if_neg (by decide)]
  by_cases hz0 : z < 0
  ·rw [if_pos (decide_eq_true hz0)]
   refine ⟨_, congrArg some (Prod.ext rfl (decide_eq_decide.mpr (by unfold M.In; omega))), ?_⟩
   intro hin
   unfold M.In at hin
   rw [M.xor_all _ (by omega) (by omega), M.wrapu]
   unfold wrap64
   omega
  ·rw [if_neg (by simpa using hz0)]
   refine ⟨_, congrArg some (Prod.ext rfl (decide_eq_decide.mpr (by unfold M.In; omega))), ?_⟩
   intro hin
   unfold M.In at hin
   rw [M.w64_id (by omega) (by omega)]
   omega

/-! ### trivetlaw01_told: function 19 -/
def trivetlaw01_told.f (k : Nat) (a0 : Int) (a1 : Option Int) (l2_0 : List Int) (a2_1 : Bool) : Option (Bool) := (trivetref01_To.f k l2_0 a2_1).bind fun bt145 => (if bt145.2 = true then (if a1.isNone = true then (some (a0 == bt145.1)) else (some false)) else (if a1.isNone = true then (some false) else (if (a1.getD 0) = 3 then (some (a0 == 0)) else (some false))))
theorem trivetlaw01_told.mono : ∀ a0 a1 a2 a3 k, LeO (trivetlaw01_told.f k a0 a1 a2 a3) (trivetlaw01_told.f (k + 1) a0 a1 a2 a3) := by
 intro a0 a1 a2 a3 k
 unfold trivetlaw01_told.f
 repeat' first
   | (with_reducible exact trivetref01_To.mono _ _ _)
   | (with_reducible exact LeO.refl _)
   | (with_reducible exact LeO.none _)
   | (with_reducible refine LeO.ite ?_ ?_)
   | (with_reducible refine LeO.bind ?_ (fun _ => ?_))
   | exact trivetref01_To.mono _ _ _
   | exact LeO.none _
   | refine LeO.ite ?_ ?_
   | refine LeO.bind ?_ (fun _ => ?_)
set_option maxHeartbeats 8000000 in
set_option maxRecDepth 100000 in
theorem trivetlaw01_told.calls (k : Nat) (a0 : Int) (a1 : Option Int) (A2_0 : Option Addr) (c2_0 : Nat) (l2_0 : List Int) (a2_1 : Bool) (r : Bool) (w : World) (hr2_0 : Kd.C (Kd.int .u64) w A2_0 l2_0.length l2_0) (hc2_0 : l2_0.length ≤ c2_0) (h : trivetlaw01_told.f k a0 a1 l2_0 a2_1 = some r) :
  Calls Try.prog 19 #[.int .i64 a0, errW a1, .agg #[.slice A2_0 l2_0.length c2_0, .bool a2_1]] w fun e w' => e = .returned (.bool r) ∧ Below w.heap.size w w' := by
 have hu37 := Try.underlying37
 have hu24 := Try.underlying24
 have hu27 := Try.underlying27
 have HR2_0 := ka hr2_0
 have HC2_0 := ka hc2_0
 clear hr2_0 hc2_0
 have HB := ka (Below.refl w.heap.size w)
 have H : ((trivetref01_To.f k l2_0 a2_1).bind fun bt145 => (if bt145.2 = true then (if a1.isNone = true then (some (a0 == bt145.1)) else (some false)) else (if a1.isNone = true then (some false) else (if (a1.getD 0) = 3 then (some (a0 == 0)) else (some false))))) = some r := h
 clear h
 replace H := Option.bind_eq_some_iff.mp H
 obtain ⟨⟨t145, t146⟩, A40, H⟩ := H
 replace H : (if t146 = true then (if a1.isNone = true then (some (a0 == t145)) else (some false)) else (if a1.isNone = true then (some false) else (if (a1.getD 0) = 3 then (some (a0 == 0)) else (some false)))) = some r := H
 have A4 := ka A40
 clear A40
 by_cases c5 : t146 = true
 ·subst c5
  have H1 : (if a1.isNone = true then (some (a0 == t145)) else (some false)) = some r := by rw [if_pos rfl] at H; exact H
  clear H
  have H := H1
  clear H1
  rcases a1 with _ | q147
  ·have H1 : (some (a0 == t145)) = some r := by rw [if_pos (show (none : Option Int).isNone = true by rfl)] at H; exact H
   clear H
   have H := H1
   clear H1
   simp only [errW_none, errW_some]
   obtain rfl := Option.some.inj H
   go_enter Try.func19, Try.ntmps19
   go_wp2_with (first | ((with_reducible refine gate_dst (N := 5) rfl ?_); refine kx (N := 5) (cs := #[.slice A2_0 l2_0.length c2_0, .bool a2_1]) (t := 37) ?_; intro gb144 hg w6 hbox hb; have n0_ := ka (below_step (kw HB.out) hb); have n1_ := ka (hbox); have n2_ := ka ((by rw [hg]; exact (below_size (kw HB.out)) : w.heap.size ≤ gb144)); have n3_ := n2_; clear HB; have HB := n0_; have BK144 := n1_; have GW144 := n2_; have GE144 := n3_; clear n0_ n1_ n2_ n3_; clear hb hbox hg; have hcz7 := blkAll2 BK144.out) | ((with_reducible refine gate_callee (f := 29) rfl ?_); refine kg (some 11) rfl rfl Try.func29 (by kernel_rfl) rfl #[.agg #[.slice A2_0 l2_0.length c2_0, .bool a2_1]] rfl ?_; (with_reducible refine (trivetref01_To.calls k _ _ l2_0 a2_1 t145 true _ ?side1 ?side2 A4.out).mono ?_); (case side1 => repeat (first | exact (Kd.C_below HR2_0.out HB.out) | (with_reducible refine Kd.C_alloc ?_ _) | (with_reducible refine Kd.C_drewN ?_ _) | (with_reducible refine Kd.C_drew ?_))); (case side2 => exact HC2_0.out); rintro e w8 ⟨rfl, hb⟩; refine ⟨_, rfl, ?_⟩; replace BK144 := ka (blk_below (g := gb144) (kz BK144.out) hb); replace HB := ka (below_step (kw HB.out) hb); (try clear hb); (try clear hb2); (try clear hk); (try clear hi)))
   go_ret
   exact ⟨by first | rfl | (simp [errW_none, errW_some] <;> rfl) | (simp [*, errW_none, errW_some] <;> rfl), by repeat (first | (with_reducible first | exact HB.out | apply kc1 | apply kc2 | apply kc3 | refine kc4 ?_ GE144.out) | exact HB.out)⟩
  ·have H1 : (some false) = some r := by rw [if_neg (show ¬ (some q147).isNone = true by simp)] at H; exact H
   clear H
   have H := H1
   clear H1
   simp only [errW_none, errW_some]
   obtain rfl := Option.some.inj H
   go_enter Try.func19, Try.ntmps19
   go_wp2_with (first | ((with_reducible refine gate_dst (N := 5) rfl ?_); refine kx (N := 5) (cs := #[.slice A2_0 l2_0.length c2_0, .bool a2_1]) (t := 37) ?_; intro gb144 hg w9 hbox hb; have n0_ := ka (below_step (kw HB.out) hb); have n1_ := ka (hbox); have n2_ := ka ((by rw [hg]; exact (below_size (kw HB.out)) : w.heap.size ≤ gb144)); have n3_ := n2_; clear HB; have HB := n0_; have BK144 := n1_; have GW144 := n2_; have GE144 := n3_; clear n0_ n1_ n2_ n3_; clear hb hbox hg; have hcz10 := blkAll2 BK144.out) | ((with_reducible refine gate_callee (f := 29) rfl ?_); refine kg (some 11) rfl rfl Try.func29 (by kernel_rfl) rfl #[.agg #[.slice A2_0 l2_0.length c2_0, .bool a2_1]] rfl ?_; (with_reducible refine (trivetref01_To.calls k _ _ l2_0 a2_1 t145 true _ ?side1 ?side2 A4.out).mono ?_); (case side1 => repeat (first | exact (Kd.C_below HR2_0.out HB.out) | (with_reducible refine Kd.C_alloc ?_ _) | (with_reducible refine Kd.C_drewN ?_ _) | (with_reducible refine Kd.C_drew ?_))); (case side2 => exact HC2_0.out); rintro e w11 ⟨rfl, hb⟩; refine ⟨_, rfl, ?_⟩; replace BK144 := ka (blk_below (g := gb144) (kz BK144.out) hb); replace HB := ka (below_step (kw HB.out) hb); (try clear hb); (try clear hb2); (try clear hk); (try clear hi)))
   go_ret
   exact ⟨by first | rfl | (simp [errW_none, errW_some] <;> rfl) | (simp [*, errW_none, errW_some] <;> rfl), by repeat (first | (with_reducible first | exact HB.out | apply kc1 | apply kc2 | apply kc3 | refine kc4 ?_ GE144.out) | exact HB.out)⟩
 ·replace c5 := Bool.eq_false_iff.mpr c5
  subst c5
  have H1 : (if a1.isNone = true then (some false) else (if (a1.getD 0) = 3 then (some (a0 == 0)) else (some false))) = some r := by rw [if_neg (show ¬ (false = true) by decide)] at H; exact H
  clear H
  have H := H1
  clear H1
  rcases a1 with _ | q148
  ·have H1 : (some false) = some r := by rw [if_pos (show (none : Option Int).isNone = true by rfl)] at H; exact H
   clear H
   have H := H1
   clear H1
   simp only [errW_none, errW_some]
   obtain rfl := Option.some.inj H
   go_enter Try.func19, Try.ntmps19
   go_wp2_with (first | ((with_reducible refine gate_dst (N := 5) rfl ?_); refine kx (N := 5) (cs := #[.slice A2_0 l2_0.length c2_0, .bool a2_1]) (t := 37) ?_; intro gb144 hg w12 hbox hb; have n0_ := ka (below_step (kw HB.out) hb); have n1_ := ka (hbox); have n2_ := ka ((by rw [hg]; exact (below_size (kw HB.out)) : w.heap.size ≤ gb144)); have n3_ := n2_; clear HB; have HB := n0_; have BK144 := n1_; have GW144 := n2_; have GE144 := n3_; clear n0_ n1_ n2_ n3_; clear hb hbox hg; have hcz13 := blkAll2 BK144.out) | ((with_reducible refine gate_callee (f := 29) rfl ?_); refine kg (some 11) rfl rfl Try.func29 (by kernel_rfl) rfl #[.agg #[.slice A2_0 l2_0.length c2_0, .bool a2_1]] rfl ?_; (with_reducible refine (trivetref01_To.calls k _ _ l2_0 a2_1 t145 false _ ?side1 ?side2 A4.out).mono ?_); (case side1 => repeat (first | exact (Kd.C_below HR2_0.out HB.out) | (with_reducible refine Kd.C_alloc ?_ _) | (with_reducible refine Kd.C_drewN ?_ _) | (with_reducible refine Kd.C_drew ?_))); (case side2 => exact HC2_0.out); rintro e w14 ⟨rfl, hb⟩; refine ⟨_, rfl, ?_⟩; replace BK144 := ka (blk_below (g := gb144) (kz BK144.out) hb); replace HB := ka (below_step (kw HB.out) hb); (try clear hb); (try clear hb2); (try clear hk); (try clear hi)))
   go_ret
   exact ⟨by first | rfl | (simp [errW_none, errW_some] <;> rfl) | (simp [*, errW_none, errW_some] <;> rfl), by repeat (first | (with_reducible first | exact HB.out | apply kc1 | apply kc2 | apply kc3 | refine kc4 ?_ GE144.out) | exact HB.out)⟩
  ·have H1 : (if q148 = 3 then (some (a0 == 0)) else (some false)) = some r := by rw [if_neg (show ¬ (some q148).isNone = true by simp)] at H; exact H
   clear H
   have H := H1
   clear H1
   simp only [errW_none, errW_some]
   by_cases c15 : q148 = 3
   ·rw [if_pos c15] at H
    have c15b0 : (q148 == 3) = true := beq_iff_eq.mpr c15
    have c15b1 : (q148 != 3) = false := bne_eq_false_iff_eq.mpr c15
    clear c15
    obtain rfl := Option.some.inj H
    go_enter Try.func19, Try.ntmps19
    go_wp2_with (first | ((with_reducible refine gate_dst (N := 5) rfl ?_); refine kx (N := 5) (cs := #[.slice A2_0 l2_0.length c2_0, .bool a2_1]) (t := 37) ?_; intro gb144 hg w16 hbox hb; have n0_ := ka (below_step (kw HB.out) hb); have n1_ := ka (hbox); have n2_ := ka ((by rw [hg]; exact (below_size (kw HB.out)) : w.heap.size ≤ gb144)); have n3_ := n2_; clear HB; have HB := n0_; have BK144 := n1_; have GW144 := n2_; have GE144 := n3_; clear n0_ n1_ n2_ n3_; clear hb hbox hg; have hcz17 := blkAll2 BK144.out) | ((with_reducible refine gate_callee (f := 29) rfl ?_); refine kg (some 11) rfl rfl Try.func29 (by kernel_rfl) rfl #[.agg #[.slice A2_0 l2_0.length c2_0, .bool a2_1]] rfl ?_; (with_reducible refine (trivetref01_To.calls k _ _ l2_0 a2_1 t145 false _ ?side1 ?side2 A4.out).mono ?_); (case side1 => repeat (first | exact (Kd.C_below HR2_0.out HB.out) | (with_reducible refine Kd.C_alloc ?_ _) | (with_reducible refine Kd.C_drewN ?_ _) | (with_reducible refine Kd.C_drew ?_))); (case side2 => exact HC2_0.out); rintro e w18 ⟨rfl, hb⟩; refine ⟨_, rfl, ?_⟩; replace BK144 := ka (blk_below (g := gb144) (kz BK144.out) hb); replace HB := ka (below_step (kw HB.out) hb); (try clear hb); (try clear hb2); (try clear hk); (try clear hi)))
    go_ret
    exact ⟨by first | rfl | (simp [errW_none, errW_some] <;> rfl) | (simp [*, errW_none, errW_some] <;> rfl), by repeat (first | (with_reducible first | exact HB.out | apply kc1 | apply kc2 | apply kc3 | refine kc4 ?_ GE144.out) | exact HB.out)⟩
   ·rw [if_neg c15] at H
    have c15b0 : (q148 == 3) = false := beq_eq_false_iff_ne.mpr c15
    have c15b1 : (q148 != 3) = true := bne_iff_ne.mpr c15
    obtain rfl := Option.some.inj H
    go_enter Try.func19, Try.ntmps19
    go_wp2_with (first | ((with_reducible refine gate_dst (N := 5) rfl ?_); refine kx (N := 5) (cs := #[.slice A2_0 l2_0.length c2_0, .bool a2_1]) (t := 37) ?_; intro gb144 hg w19 hbox hb; have n0_ := ka (below_step (kw HB.out) hb); have n1_ := ka (hbox); have n2_ := ka ((by rw [hg]; exact (below_size (kw HB.out)) : w.heap.size ≤ gb144)); have n3_ := n2_; clear HB; have HB := n0_; have BK144 := n1_; have GW144 := n2_; have GE144 := n3_; clear n0_ n1_ n2_ n3_; clear hb hbox hg; have hcz20 := blkAll2 BK144.out) | ((with_reducible refine gate_callee (f := 29) rfl ?_); refine kg (some 11) rfl rfl Try.func29 (by kernel_rfl) rfl #[.agg #[.slice A2_0 l2_0.length c2_0, .bool a2_1]] rfl ?_; (with_reducible refine (trivetref01_To.calls k _ _ l2_0 a2_1 t145 false _ ?side1 ?side2 A4.out).mono ?_); (case side1 => repeat (first | exact (Kd.C_below HR2_0.out HB.out) | (with_reducible refine Kd.C_alloc ?_ _) | (with_reducible refine Kd.C_drewN ?_ _) | (with_reducible refine Kd.C_drew ?_))); (case side2 => exact HC2_0.out); rintro e w21 ⟨rfl, hb⟩; refine ⟨_, rfl, ?_⟩; replace BK144 := ka (blk_below (g := gb144) (kz BK144.out) hb); replace HB := ka (below_step (kw HB.out) hb); (try clear hb); (try clear hb2); (try clear hk); (try clear hi)))
    go_ret
    exact ⟨by first | rfl | (simp [errW_none, errW_some] <;> rfl) | (simp [*, errW_none, errW_some] <;> rfl), by repeat (first | (with_reducible first | exact HB.out | apply kc1 | apply kc2 | apply kc3 | refine kc4 ?_ GE144.out) | exact HB.out)⟩

/-! ### trivetlaw01_told: function 19, its laws -/
theorem trivetlaw01_told.num (k : Nat) (z : Int) (hk : 12 ≤ k) (hz : M.abs z < 65536 ^ 64) : trivetlaw01_told.f k (M.told z).1 (M.told z).2 (U.num z).1 (U.num z).2 = some true := by
 obtain ⟨v, h1, h2⟩ := trivetref01_To.num k z hk hz
 unfold trivetlaw01_told.f
 rw [h1, Option.bind_some]
 by_cases h : M.In z
 ·rw [M.told_in h, h2 h]
  simp [h]
 ·rw [M.told_out h]
  simp [h]

/-! ### trivetref01_at: function 39 -/
def trivetref01_at.f (l0 : List Int) (a1 : Int) : Option (Int) := if a1 < (l0.length : Int) then (if 0 ≤ a1 then (some (rd l0 a1)) else (none)) else (some 0)
set_option maxHeartbeats 8000000 in
set_option maxRecDepth 100000 in
theorem trivetref01_at.calls (A0 : Option Addr) (c0 : Nat) (l0 : List Int) (a1 : Int) (r : Int) (w : World) (hr0 : Kd.C (Kd.int .u64) w A0 l0.length l0) (hc0 : l0.length ≤ c0) (h : trivetref01_at.f l0 a1 = some r) :
  Calls Try.prog 39 #[.slice A0 l0.length c0, .int .i64 a1] w fun e w' => e = .returned (.int .u64 r) ∧ Drawn0 w w' := by
 have HR0 := ka hr0
 have HC0 := ka hc0
 clear hr0 hc0
 have H : (if a1 < (l0.length : Int) then (if 0 ≤ a1 then (some (rd l0 a1)) else (none)) else (some 0)) = some r := h
 clear h
 by_cases c3 : a1 < (l0.length : Int)
 ·rw [if_pos c3] at H
  have c3b0 : decide (a1 < (l0.length : Int)) = true := decide_eq_true c3
  clear c3
  by_cases c4 : 0 ≤ a1
  ·rw [if_pos c4] at H
   have c4b0 : decide (0 ≤ a1) = true := decide_eq_true c4
   clear c4
   obtain rfl := Option.some.inj H
   have p149 : 0 ≤ (a1 : Int) := of_decide_eq_true (by first | (with_reducible assumption) | assumption)
   have q149 : a1 < (l0.length : Int) := of_decide_eq_true (by first | (with_reducible assumption) | assumption)
   obtain ⟨ad149, e149, hx149_0⟩ := Kd.at_int HR0.out a1 p149 q149
   cases e149
   replace p149 := eq_true p149
   replace q149 := eq_true q149
   go_enter Try.func39, Try.ntmps39
   go_wp2
   go_ret
   exact ⟨by first | rfl | (simp; done) | (simp [*]; done), by repeat (first | exact Drawn0.refl _ | apply Drawn0.step)⟩
  ·rw [if_neg c4] at H
   exact absurd H (by simp)
 ·rw [if_neg c3] at H
  have c3b0 : decide (a1 < (l0.length : Int)) = false := decide_eq_false c3
  clear c3
  obtain rfl := Option.some.inj H
  go_enter Try.func39, Try.ntmps39
  go_wp2
  go_ret
  exact ⟨by first | rfl | (simp; done) | (simp [*]; done), by repeat (first | exact Drawn0.refl _ | apply Drawn0.step)⟩

/-! ### trivetref01_at: function 39, its laws -/
theorem trivetref01_at.num (d : List Int) (i : Nat) : trivetref01_at.f d i = some (d.getD i 0) := by
 unfold trivetref01_at.f
 by_cases h : (i : Int) < d.length
 ·rw [if_pos h, if_pos (by omega)]
  simp [rd]
 ·rw [if_neg h, List.getD_eq_getElem?_getD, List.getElem?_eq_none (by omega)]; rfl

/-! ### trivetref01_plus: function 32 -/
mutual
def trivetref01_plus.l0 : Nat → List Int → List Int → List Int → Int → Int → Option (List Int)
 | 0, _, _, _, _, _ => none
 | k + 1, x0, x1, x5, x6, x7 => if x7 < (x0.length : Int) then (trivetref01_plus.j1 k x0 x1 x5 x6 x7 true) else (if x7 < (x1.length : Int) then (trivetref01_plus.j1 k x0 x1 x5 x6 x7 true) else (trivetref01_plus.j1 k x0 x1 x5 x6 x7 (decide (x6 > 0))))
def trivetref01_plus.j1 : Nat → List Int → List Int → List Int → Int → Int → Bool → Option (List Int)
 | 0, _, _, _, _, _, _ => none
 | k + 1, x0, x1, x5, x6, x7, x22 => if x22 = true then ((trivetref01_at.f x0 x7).bind fun t150 => ((trivetref01_at.f x1 x7).bind fun t151 => (if x5.length < 17592186044416 then (trivetref01_plus.l0 k x0 x1 (x5 ++ [Int.tmod (IntKind.u64.wrap ((IntKind.u64.wrap (t150 + t151)) + x6)) 65536]) (IntKind.u64.wrap (Int.tdiv (IntKind.u64.wrap ((IntKind.u64.wrap (t150 + t151)) + x6)) 65536)) (wrap64 (x7 + 1))) else (none)))) else (some x5)
end
def trivetref01_plus.f (k : Nat) (l0 : List Int) (l1 : List Int) : Option (List Int) := trivetref01_plus.l0 k l0 l1 ([] : List Int) 0 0
theorem trivetref01_plus.mono_l : ∀ k, (∀ y0 y1 y2 y3 y4, LeO (trivetref01_plus.l0 k y0 y1 y2 y3 y4) (trivetref01_plus.l0 (k + 1) y0 y1 y2 y3 y4)) ∧ (∀ y0 y1 y2 y3 y4 y5, LeO (trivetref01_plus.j1 k y0 y1 y2 y3 y4 y5) (trivetref01_plus.j1 (k + 1) y0 y1 y2 y3 y4 y5))
 | 0 => ⟨fun _ _ _ _ _ r h => by simp [trivetref01_plus.l0] at h, fun _ _ _ _ _ _ r h => by simp [trivetref01_plus.j1] at h⟩
 | k + 1 => by
  obtain ⟨ih0, ih1⟩ := trivetref01_plus.mono_l k
  refine ⟨?_, ?_⟩
  ·intro y0 y1 y2 y3 y4
   unfold trivetref01_plus.l0
   repeat' first
   | (with_reducible exact ih0 _ _ _ _ _)
   | (with_reducible exact ih1 _ _ _ _ _ _)
   | (with_reducible exact LeO.refl _)
   | (with_reducible exact LeO.none _)
   | (with_reducible refine LeO.ite ?_ ?_)
   | (with_reducible refine LeO.bind ?_ (fun _ => ?_))
   | exact ih0 _ _ _ _ _
   | exact ih1 _ _ _ _ _ _
   | exact LeO.none _
   | refine LeO.ite ?_ ?_
   | refine LeO.bind ?_ (fun _ => ?_)
  ·intro y0 y1 y2 y3 y4 y5
   unfold trivetref01_plus.j1
   repeat' first
   | (with_reducible exact ih0 _ _ _ _ _)
   | (with_reducible exact ih1 _ _ _ _ _ _)
   | (with_reducible exact LeO.refl _)
   | (with_reducible exact LeO.none _)
   | (with_reducible refine LeO.ite ?_ ?_)
   | (with_reducible refine LeO.bind ?_ (fun _ => ?_))
   | exact ih0 _ _ _ _ _
   | exact ih1 _ _ _ _ _ _
   | exact LeO.none _
   | refine LeO.ite ?_ ?_
   | refine LeO.bind ?_ (fun _ => ?_)
theorem trivetref01_plus.mono : ∀ a0 a1 k, LeO (trivetref01_plus.f k a0 a1) (trivetref01_plus.f (k + 1) a0 a1) := by
 intro a0 a1 k
 obtain ⟨ih0, ih1⟩ := trivetref01_plus.mono_l k
 unfold trivetref01_plus.f
 repeat' first
   | (with_reducible exact ih0 _ _ _ _ _)
   | (with_reducible exact ih1 _ _ _ _ _ _)
   | (with_reducible exact LeO.refl _)
   | (with_reducible exact LeO.none _)
   | (with_reducible refine LeO.ite ?_ ?_)
   | (with_reducible refine LeO.bind ?_ (fun _ => ?_))
   | exact ih0 _ _ _ _ _
   | exact ih1 _ _ _ _ _ _
   | exact LeO.none _
   | refine LeO.ite ?_ ?_
   | refine LeO.bind ?_ (fun _ => ?_)
set_option maxHeartbeats 8000000 in
set_option maxRecDepth 100000 in
theorem trivetref01_plus.calls (k : Nat) (A0 : Option Addr) (c0 : Nat) (l0 : List Int) (A1 : Option Addr) (c1 : Nat) (l1 : List Int) (r : List Int) (w : World) (hr0 : Kd.C (Kd.int .u64) w A0 l0.length l0) (hc0 : l0.length ≤ c0) (hr1 : Kd.C (Kd.int .u64) w A1 l1.length l1) (hc1 : l1.length ≤ c1) (h : trivetref01_plus.f k l0 l1 = some r) :
  Calls Try.prog 32 #[.slice A0 l0.length c0, .slice A1 l1.length c1] w fun e w' => ∃ v0_ : Value, e = .returned (v0_) ∧ Kd.R (Kd.int .u64) 46 w' w.heap.size (fun _ => True) v0_ r ∧ Below w.heap.size w w' := by
 have HR0 := ka hr0
 have HC0 := ka hc0
 clear hr0 hc0
 have HR1 := ka hr1
 have HC1 := ka hc1
 clear hr1 hc1
 have HB := ka (Below.refl w.heap.size w)
 have H : (trivetref01_plus.l0 k l0 l1 ([] : List Int) 0 0) = some r := h
 clear h
 have H' := ka H
 clear H
 go_enter Try.func32, Try.ntmps32
 go_wp2
 (try simp only [Act.put, List.setIfInBounds_toArray, List.set_cons_zero, List.set_cons_succ])
 go_loopg [5, 6, 7] k (fun kq v5 v6 v7 w' => ∃ (x5_1 : List Int) (x6_1 : Int) (x7_1 : Int), v6 = .int .u64 x6_1 ∧ v7 = .int .i64 x7_1 ∧ Aside0 (trivetref01_plus.l0 kq l0 l1 x5_1 x6_1 x7_1 = some r) ∧ Aside0 (kq ≤ k) ∧ Aside0 (Kd.R (Kd.int .u64) 46 w' w.heap.size (fun _ => True) v5 x5_1) ∧ Aside0 (Below w.heap.size w w'))
 case atStart => exact ⟨(([] : List Int)), (0), (0), (by first | rfl | (simp; done) | (simp [*]; done)), (by first | rfl | (simp; done) | (simp [*]; done)), H', ⟨Nat.le_refl _⟩, ⟨by first | exact Kd.R_nil _ _ _ _ _ | exact Kd.N_nil _ _ _ _ _ | exact Kd.V_nil _ _ _ _ _ | exact Kd.Q_nil _ _ _ _ _ | exact Kd.S_nil _ _ _ _ _⟩, ⟨by repeat (first | (with_reducible first | exact HB.out | apply kc1 | apply kc2 | apply kc3) | exact HB.out)⟩⟩
 case round =>
  clear H'
  try clear c1
  try clear p2
  obtain ⟨x5_1, x6_1, x7_1, rfl, rfl, HA, HK1, HO_5, HB⟩ := hrel
  cases gk with
  | zero => exact absurd HA.out (by simp [trivetref01_plus.l0])
  | succ k1 =>
   have H := HA.out
   clear HA
   simp only [trivetref01_plus.l0] at H
   have HC3 := ka H
   clear H
   go_upto_region 4 with (fail)
   go_cut [22] (fun v22 wc => ∃ (kq : Nat) (x22_2 : Bool), v22 = .bool x22_2 ∧ Aside0 (trivetref01_plus.j1 kq l0 l1 x5_1 x6_1 x7_1 x22_2 = some r) ∧ Aside0 (kq ≤ k1) ∧ Aside0 (Kd.R (Kd.int .u64) 46 wc w.heap.size (fun _ => True) u5 x5_1) ∧ Aside0 (Below w.heap.size w wc))
   case first =>
    have H := HC3.out
    clear HC3
    by_cases c4 : x7_1 < (l0.length : Int)
    ·rw [if_pos c4] at H
     have c4b0 : decide (x7_1 < (l0.length : Int)) = true := decide_eq_true c4
     clear c4
     (first | rw [c4b0] | (simp only [i64_w, i32_w]; rw [c4b0]) | skip)
     have H' := ka H
     clear H
     go_wp2
     go_meet
     case rel => exact ⟨_, (true), (by first | rfl | (simp; done) | (simp [*]; done)), H', ⟨by have := HK1.out; first | omega | exact Nat.le_refl _⟩, ⟨kr HO_5.out⟩, ⟨by repeat (first | (with_reducible first | exact HB.out | apply kc1 | apply kc2 | apply kc3) | exact HB.out)⟩⟩
    ·rw [if_neg c4] at H
     have c4b0 : decide (x7_1 < (l0.length : Int)) = false := decide_eq_false c4
     clear c4
     (first | rw [c4b0] | (simp only [i64_w, i32_w]; rw [c4b0]) | skip)
     by_cases c5 : x7_1 < (l1.length : Int)
     ·rw [if_pos c5] at H
      have c5b0 : decide (x7_1 < (l1.length : Int)) = true := decide_eq_true c5
      clear c5
      have H' := ka H
      clear H
      go_wp2
      go_meet
      case rel => exact ⟨_, (true), (by first | rfl | (simp; done) | (simp [*]; done)), H', ⟨by have := HK1.out; first | omega | exact Nat.le_refl _⟩, ⟨kr HO_5.out⟩, ⟨by repeat (first | (with_reducible first | exact HB.out | apply kc1 | apply kc2 | apply kc3) | exact HB.out)⟩⟩
     ·rw [if_neg c5] at H
      have c5b0 : decide (x7_1 < (l1.length : Int)) = false := decide_eq_false c5
      clear c5
      have H' := ka H
      clear H
      go_wp2
      go_meet
      case rel => exact ⟨_, (decide (x6_1 > 0)), (by first | rfl | (simp; done) | (simp [*]; done)), H', ⟨by have := HK1.out; first | omega | exact Nat.le_refl _⟩, ⟨kr HO_5.out⟩, ⟨by repeat (first | (with_reducible first | exact HB.out | apply kc1 | apply kc2 | apply kc3) | exact HB.out)⟩⟩
   case rest =>
    clear HC3
    try clear c1
    try clear p2
    try clear c3
    try clear c4
    try clear c4b0
    try clear c5
    try clear c5b0
    try clear p2
    obtain ⟨kq, x22_2, rfl, HA, HJ2, HO_5, HB⟩ := hcut
    cases kq with
    | zero => exact absurd HA.out (by simp [trivetref01_plus.j1])
    | succ kj2 =>
     have H := HA.out
     clear HA
     simp only [trivetref01_plus.j1] at H
     by_cases c6 : x22_2 = true
     ·subst c6
      have H1 : ((trivetref01_at.f l0 x7_1).bind fun t150 => ((trivetref01_at.f l1 x7_1).bind fun t151 => (if x5_1.length < 17592186044416 then (trivetref01_plus.l0 kj2 l0 l1 (x5_1 ++ [Int.tmod (IntKind.u64.wrap ((IntKind.u64.wrap (t150 + t151)) + x6_1)) 65536]) (IntKind.u64.wrap (Int.tdiv (IntKind.u64.wrap ((IntKind.u64.wrap (t150 + t151)) + x6_1)) 65536)) (wrap64 (x7_1 + 1))) else (none)))) = some r := by rw [if_pos rfl] at H; exact H
      clear H
      have H := H1
      clear H1
      replace H := Option.bind_eq_some_iff.mp H
      obtain ⟨t150, A70, H⟩ := H
      replace H : ((trivetref01_at.f l1 x7_1).bind fun t151 => (if x5_1.length < 17592186044416 then (trivetref01_plus.l0 kj2 l0 l1 (x5_1 ++ [Int.tmod (IntKind.u64.wrap ((IntKind.u64.wrap (t150 + t151)) + x6_1)) 65536]) (IntKind.u64.wrap (Int.tdiv (IntKind.u64.wrap ((IntKind.u64.wrap (t150 + t151)) + x6_1)) 65536)) (wrap64 (x7_1 + 1))) else (none))) = some r := H
      have A7 := ka A70
      clear A70
      replace H := Option.bind_eq_some_iff.mp H
      obtain ⟨t151, A80, H⟩ := H
      replace H : (if x5_1.length < 17592186044416 then (trivetref01_plus.l0 kj2 l0 l1 (x5_1 ++ [Int.tmod (IntKind.u64.wrap ((IntKind.u64.wrap (t150 + t151)) + x6_1)) 65536]) (IntKind.u64.wrap (Int.tdiv (IntKind.u64.wrap ((IntKind.u64.wrap (t150 + t151)) + x6_1)) 65536)) (wrap64 (x7_1 + 1))) else (none)) = some r := H
      have A8 := ka A80
      clear A80
      by_cases c9 : x5_1.length < 17592186044416
      ·rw [if_pos c9] at H
       have LMc9 := ka c9
       clear c9
       obtain ⟨y152, hy152⟩ : ∃ y_ : List Int, y_ = (x5_1 ++ [Int.tmod (IntKind.u64.wrap ((IntKind.u64.wrap (t150 + t151)) + x6_1)) 65536]) := ⟨_, rfl⟩
       replace H : (trivetref01_plus.l0 kj2 l0 l1 y152 (IntKind.u64.wrap (Int.tdiv (IntKind.u64.wrap ((IntKind.u64.wrap (t150 + t151)) + x6_1)) 65536)) (wrap64 (x7_1 + 1))) = some r := by first | (rw [hy152]; with_reducible exact H) | (have H2_ := (Option.bind_some _ _).symm.trans H; rw [hy152]; with_reducible exact H2_) | (have H2_ := (Option.bind_some _ _).symm.trans H; with_reducible exact H2_) | with_reducible exact H | (rw [hy152]; exact H) | exact H
       have Ny152 := ka hy152
       clear hy152
       have H' := ka H
       clear H
       go_wp2_with (first | ((with_reducible refine gate_callee (f := 39) rfl ?_); refine kg (some 27) rfl rfl Try.func39 (by kernel_rfl) rfl #[.slice A0 l0.length c0, .int .i64 x7_1] rfl ?_; (with_reducible refine (trivetref01_at.calls _ _ l0 x7_1 t150 _ ?side1 ?side2 A7.out).mono ?_); (case side1 => repeat (first | exact (Kd.C_below HR0.out HB.out) | (with_reducible refine Kd.C_alloc ?_ _) | (with_reducible refine Kd.C_drewN ?_ _) | (with_reducible refine Kd.C_drew ?_))); (case side2 => exact HC0.out); rintro e w' ⟨rfl, ⟨nd, rfl⟩⟩; refine ⟨_, rfl, ?_⟩) | ((with_reducible refine gate_callee (f := 39) rfl ?_); refine kg (some 30) rfl rfl Try.func39 (by kernel_rfl) rfl #[.slice A1 l1.length c1, .int .i64 x7_1] rfl ?_; (with_reducible refine (trivetref01_at.calls _ _ l1 x7_1 t151 _ ?side1 ?side2 A8.out).mono ?_); (case side1 => repeat (first | exact (Kd.C_below HR1.out (kw HB.out)) | (with_reducible refine Kd.C_alloc ?_ _) | (with_reducible refine Kd.C_drewN ?_ _) | (with_reducible refine Kd.C_drew ?_))); (case side2 => exact HC1.out); rintro e w' ⟨rfl, ⟨nd, rfl⟩⟩; refine ⟨_, rfl, ?_⟩) | ((with_reducible refine gate_builtin (b := .append) (xs := #[.tmp 34, .tmp 37]) rfl ?_); (try (refine gate_guard (by rfl) ?_; dsimp only)); at_builtin; refine Kd.R_append (Kd.int .u64) (w0 := w) w.heap.size rfl (.tmp 34) (.tmp 37) 35 46 (.int .u64 0) 8 rfl Try.underlying35 info46 rfl (by decide) (by omega) u5 x5_1 (Int.tmod (IntKind.u64.wrap ((IntKind.u64.wrap (t150 + t151)) + x6_1)) 65536) [.int .u64 (Int.tmod (IntKind.u64.wrap ((IntKind.u64.wrap (t150 + t151)) + x6_1)) 65536)] (fun _ => True) (fun _ => False) rfl rfl ?aP (fun _ hk => hk.elim) ?aF ?aO ?aB ?aS ?aL ?_; (case aP => exact rfl); (case aB => exact (kw HB.out)); (case aF => exact (fun _ _ => trivial)); (case aO => exact (kr HO_5.out)); (case aS => exact (below_size (kw HB.out))); (case aL => have := LMc9.out; omega); intro v153 w10 ho hb hg hat; rw [← Ny152.out] at ho; replace HB := ka (hb); have HO154 := ka (ho); clear HO_5; clear ho hb hg hat))
       go_roundg kj2
       case measure => have := HK1.out; have := HJ2.out; omega
       case rel => exact ⟨(y152), (IntKind.u64.wrap (Int.tdiv (IntKind.u64.wrap ((IntKind.u64.wrap (t150 + t151)) + x6_1)) 65536)), (wrap64 (x7_1 + 1)), (by first | rfl | (simp; done) | (simp [*]; done)), (by first | rfl | (simp; done) | (simp [*]; done)), H', ⟨by have := HK1.out; have := HJ2.out; omega⟩, ⟨kr HO154.out⟩, ⟨by repeat (first | (with_reducible first | exact HB.out | apply kc1 | apply kc2 | apply kc3) | exact HB.out)⟩⟩
      ·rw [if_neg c9] at H
       exact absurd H (by simp)
     ·replace c6 := Bool.eq_false_iff.mpr c6
      subst c6
      have H1 : (some x5_1) = some r := by rw [if_neg (show ¬ (false = true) by decide)] at H; exact H
      clear H
      have H := H1
      clear H1
      obtain rfl := Option.some.inj H
      go_wp2
      go_ret
      exact ⟨_, by first | rfl | (simp [errW_none, errW_some] <;> rfl) | (simp [*, errW_none, errW_some] <;> rfl), by (with_reducible repeat (first | apply Kd.R_alloc | apply Kd.R_drewN | apply Kd.R_drew)); exact HO_5.out, by repeat (first | (with_reducible first | exact HB.out | apply kc1 | apply kc2 | apply kc3) | exact HB.out)⟩

/-! ### trivetref01_plus: function 32, its laws -/
theorem trivetref01_plus.step (k : Nat) (a b acc : List Int) (c : Int) (i : Nat) (ha : U.Dg a) (hb : U.Dg b) (hc : 0 ≤ c ∧ c ≤ 1) (hi : i < 1000000) (hl : acc.length < 1000000) : trivetref01_plus.j1 (k + 1) a b acc c i true = trivetref01_plus.l0 k a b (acc ++ [(a.getD i 0 + b.getD i 0 + c) % 65536]) ((a.getD i 0 + b.getD i 0 + c) / 65536) ((i + 1 : Nat) : Int) := by
 have ga := ha.get i
 have gb := hb.get i
 simp only [trivetref01_plus.j1]
 rw [if_pos trivial, trivetref01_at.num, Option.bind_some, trivetref01_at.num, Option.bind_some, if_pos (by omega)]
 generalize a.getD i 0 = x at *
 generalize b.getD i 0 = y at *
 rw [M.wrapu_id (n := x + y) (by omega) (by omega), M.wrapu_id (n := x + y + c) (by omega) (by omega), M.tdivu (show 0 ≤ x + y + c by omega), M.tmodu (show 0 ≤ x + y + c by omega), M.wrapu_id (n := (x + y + c) / 65536) (by omega) (by omega), M.w64_id (n := (i : Int) + 1) (by omega) (by omega)]
 rfl
theorem trivetref01_plus.loop (n : Nat) : ∀ (k : Nat) (a b acc : List Int) (c : Int) (i : Nat), U.Dg a → U.Dg b → U.Dg acc → 0 ≤ c ∧ c ≤ 1 → a.length ≤ i + n → b.length ≤ i + n → (a.length = i + n ∨ b.length = i + n) → acc.length = i → i + n < 500000 → 2 * n + 4 ≤ k →
  ∃ out, trivetref01_plus.l0 k a b acc c i = some out ∧ U.Dg out ∧ U.val out = U.val acc + 65536 ^ i * (U.val (a.drop i) + U.val (b.drop i) + c) ∧ out.length ≤ i + n + 1 := by
 induction n with
 | zero =>
  intro k a b acc c i ha hb hacc hc la lb lab hl hi hk
  obtain ⟨j, rfl⟩ : ∃ j, k = j + 2 + 2 := ⟨k - 4, by omega⟩
  rw [List.drop_eq_nil_of_le (by omega), List.drop_eq_nil_of_le (by omega)]
  simp only [trivetref01_plus.l0]
  rw [if_neg (by omega), if_neg (by omega)]
  by_cases h : c > 0
  ·rw [decide_eq_true h, show j + 2 + 1 = (j + 2) + 1 from rfl, trivetref01_plus.step _ _ _ _ _ _ ha hb hc (by omega) (by omega)]
   have e1 : a.getD i 0 = 0 := by rw [List.getD_eq_getElem?_getD, List.getElem?_eq_none (by omega)]; rfl
   have e2 : b.getD i 0 = 0 := by rw [List.getD_eq_getElem?_getD, List.getElem?_eq_none (by omega)]; rfl
   have ec : c = 1 := by omega
   subst ec
   rw [e1, e2]
   simp only [trivetref01_plus.l0]
   rw [if_neg (by omega), if_neg (by omega), decide_eq_false (by decide)]
   simp only [trivetref01_plus.j1]
   rw [if_neg (by decide)]
   refine ⟨_, rfl, hacc.add (U.Dg.one (by decide)), ?_, by simp; omega⟩
   rw [U.val_append, U.val_one, hl]
   simp [U.val]
  ·have ec : c = 0 := by omega
   subst ec
   rw [decide_eq_false h]
   simp only [trivetref01_plus.j1]
   rw [if_neg (by decide)]
   exact ⟨_, rfl, hacc, by simp [U.val], by omega⟩
 | succ n ih =>
  intro k a b acc c i ha hb hacc hc la lb lab hl hi hk
  obtain ⟨j, rfl⟩ : ∃ j, k = j + 1 + 1 := ⟨k - 2, by omega⟩
  have e : trivetref01_plus.l0 (j + 1 + 1) a b acc c i = trivetref01_plus.j1 (j + 1) a b acc c i true := by
   simp only [trivetref01_plus.l0]
   by_cases h : (i : Int) < a.length
   ·rw [if_pos h]
   ·rw [if_neg h, if_pos (by omega)]
  have ga := ha.get i
  have gb := hb.get i
  obtain ⟨out, o1, o2, o3, o4⟩ := ih j a b (acc ++ [(a.getD i 0 + b.getD i 0 + c) % 65536]) ((a.getD i 0 + b.getD i 0 + c) / 65536) (i + 1) ha hb (hacc.add (U.Dg.one (by omega))) (by omega) (by omega) (by omega) (by omega) (by simp; omega) (by omega) (by omega)
  refine ⟨out, ?_, o2, ?_, by omega⟩
  ·rw [e, trivetref01_plus.step _ _ _ _ _ _ ha hb hc (by omega) (by omega), o1]
  ·rw [o3, U.val_append, U.val_one, hl, U.pow_succ, U.drop_step a i, U.drop_step b i]
   generalize a.getD i 0 = x at *
   generalize b.getD i 0 = y at *
   have hx : (x + y + c) % 65536 + 65536 * ((x + y + c) / 65536) = x + y + c := by omega
   generalize (x + y + c) % 65536 = r at *
   generalize (x + y + c) / 65536 = q at *
   generalize U.val (a.drop (i + 1)) = u
   generalize U.val (b.drop (i + 1)) = v
   have : x + 65536 * u + (y + 65536 * v) + c = r + 65536 * (u + v + q) := by omega
   rw [this]
   generalize u + v + q = s
   generalize (65536 : Int) ^ i = p
   rw [Int.mul_add, Int.mul_comm 65536 p, Int.mul_assoc, Int.add_assoc]
theorem trivetref01_plus.num (k : Nat) (a b : List Int) (ha : U.Dg a) (hb : U.Dg b) (la : a.length ≤ 1000) (lb : b.length ≤ 1000) (hk : 2 * a.length + 2 * b.length + 4 ≤ k) :
  ∃ out, trivetref01_plus.f k a b = some out ∧ U.Dg out ∧ U.val out = U.val a + U.val b ∧ out.length ≤ max a.length b.length + 1 := by
 obtain ⟨out, o1, o2, o3, o4⟩ := trivetref01_plus.loop (max a.length b.length) k a b [] 0 0 ha hb U.Dg.nil (by omega) (by omega) (by omega) (by omega) rfl (by omega) (by omega)
 refine ⟨out, o1, o2, ?_, by omega⟩
 rw [o3]
 simp [U.val]

/-! ### trivetref01_less: function 33 -/
def trivetref01_less.l0 : Nat → List Int → List Int → Int → Option (Bool)
 | 0, _, _, _ => none
 | k + 1, x0, x1, x5 => if x5 ≥ 0 then (if 0 ≤ x5 then (if x5 < (x0.length : Int) then (if x5 < (x1.length : Int) then (if (rd x0 x5) = (rd x1 x5) then (trivetref01_less.l0 k x0 x1 (wrap64 (x5 - 1))) else (some (decide ((rd x0 x5) < (rd x1 x5))))) else (none)) else (none)) else (none)) else (some false)
def trivetref01_less.f (k : Nat) (l0 : List Int) (l1 : List Int) : Option (Bool) := if (l0.length : Int) = (l1.length : Int) then (trivetref01_less.l0 k l0 l1 (wrap64 ((l0.length : Int) - 1))) else (some (decide ((l0.length : Int) < (l1.length : Int))))
theorem trivetref01_less.mono_l : ∀ k, (∀ y0 y1 y2, LeO (trivetref01_less.l0 k y0 y1 y2) (trivetref01_less.l0 (k + 1) y0 y1 y2))
 | 0 => fun _ _ _ r h => by simp [trivetref01_less.l0] at h
 | k + 1 => by
  have ih0 := trivetref01_less.mono_l k
  ·intro y0 y1 y2
   unfold trivetref01_less.l0
   repeat' first
   | (with_reducible exact ih0 _ _ _)
   | (with_reducible exact LeO.refl _)
   | (with_reducible exact LeO.none _)
   | (with_reducible refine LeO.ite ?_ ?_)
   | (with_reducible refine LeO.bind ?_ (fun _ => ?_))
   | exact ih0 _ _ _
   | exact LeO.none _
   | refine LeO.ite ?_ ?_
   | refine LeO.bind ?_ (fun _ => ?_)
theorem trivetref01_less.mono : ∀ a0 a1 k, LeO (trivetref01_less.f k a0 a1) (trivetref01_less.f (k + 1) a0 a1) := by
 intro a0 a1 k
 have ih0 := trivetref01_less.mono_l k
 unfold trivetref01_less.f
 repeat' first
   | (with_reducible exact ih0 _ _ _)
   | (with_reducible exact LeO.refl _)
   | (with_reducible exact LeO.none _)
   | (with_reducible refine LeO.ite ?_ ?_)
   | (with_reducible refine LeO.bind ?_ (fun _ => ?_))
   | exact ih0 _ _ _
   | exact LeO.none _
   | refine LeO.ite ?_ ?_
   | refine LeO.bind ?_ (fun _ => ?_)
set_option maxHeartbeats 8000000 in
set_option maxRecDepth 100000 in
theorem trivetref01_less.calls (k : Nat) (A0 : Option Addr) (c0 : Nat) (l0 : List Int) (A1 : Option Addr) (c1 : Nat) (l1 : List Int) (r : Bool) (w : World) (hr0 : Kd.C (Kd.int .u64) w A0 l0.length l0) (hc0 : l0.length ≤ c0) (hr1 : Kd.C (Kd.int .u64) w A1 l1.length l1) (hc1 : l1.length ≤ c1) (h : trivetref01_less.f k l0 l1 = some r) :
  Calls Try.prog 33 #[.slice A0 l0.length c0, .slice A1 l1.length c1] w fun e w' => e = .returned (.bool r) ∧ Drawn0 w w' := by
 have HR0 := ka hr0
 have HC0 := ka hc0
 clear hr0 hc0
 have HR1 := ka hr1
 have HC1 := ka hc1
 clear hr1 hc1
 have H : (if (l0.length : Int) = (l1.length : Int) then (trivetref01_less.l0 k l0 l1 (wrap64 ((l0.length : Int) - 1))) else (some (decide ((l0.length : Int) < (l1.length : Int))))) = some r := h
 clear h
 by_cases c3 : (l0.length : Int) = (l1.length : Int)
 ·rw [if_pos c3] at H
  have c3b0 : ((l0.length : Int) == (l1.length : Int)) = true := beq_iff_eq.mpr c3
  have c3b1 : ((l0.length : Int) != (l1.length : Int)) = false := bne_eq_false_iff_eq.mpr c3
  have c3b2 : (l0.length == l1.length) = true := by first | simpa using c3 | (simp at c3 ⊢; omega)
  clear c3
  have H' := ka H
  clear H
  go_enter Try.func33, Try.ntmps33
  go_wp2
  repeat (go_quiet (fail); try go_wp2)
  (try simp only [Act.put, List.setIfInBounds_toArray, List.set_cons_zero, List.set_cons_succ])
  go_loopg [5] k (fun kq v5 w' => ∃ (x5_1 : Int), v5 = .int .i64 x5_1 ∧ Aside0 (trivetref01_less.l0 kq l0 l1 x5_1 = some r) ∧ Aside0 (kq ≤ k) ∧ Drawn0 w w')
  case atStart => exact ⟨(wrap64 ((l0.length : Int) - 1)), (by first | rfl | (simp; done) | (simp [*]; done)), H', ⟨Nat.le_refl _⟩, by repeat (first | exact Drawn0.refl _ | apply Drawn0.step)⟩
  case round =>
   clear H'
   try clear c1
   try clear p2
   try clear c3
   try clear c3b0
   try clear c3b1
   try clear c3b2
   obtain ⟨x5_1, rfl, HA, HK1, ⟨m1, rfl⟩⟩ := hrel
   cases gk with
   | zero => exact absurd HA.out (by simp [trivetref01_less.l0])
   | succ k1 =>
    have H := HA.out
    clear HA
    simp only [trivetref01_less.l0] at H
    by_cases c4 : x5_1 ≥ 0
    ·rw [if_pos c4] at H
     have c4b0 : decide (0 ≤ x5_1) = true := decide_eq_true c4
     clear c4
     by_cases c5 : 0 ≤ x5_1
     ·rw [if_pos c5] at H
      have c5b0 : decide (0 ≤ x5_1) = true := decide_eq_true c5
      clear c5
      by_cases c6 : x5_1 < (l0.length : Int)
      ·rw [if_pos c6] at H
       have c6b0 : decide (x5_1 < (l0.length : Int)) = true := decide_eq_true c6
       clear c6
       by_cases c7 : x5_1 < (l1.length : Int)
       ·rw [if_pos c7] at H
        have c7b0 : decide (x5_1 < (l1.length : Int)) = true := decide_eq_true c7
        clear c7
        by_cases c8 : (rd l0 x5_1) = (rd l1 x5_1)
        ·rw [if_pos c8] at H
         have c8b0 : ((rd l0 x5_1) == (rd l1 x5_1)) = true := beq_iff_eq.mpr c8
         have c8b1 : ((rd l0 x5_1) != (rd l1 x5_1)) = false := bne_eq_false_iff_eq.mpr c8
         clear c8
         have H' := ka H
         clear H
         have p155 : 0 ≤ (x5_1 : Int) := of_decide_eq_true (by first | (with_reducible assumption) | assumption)
         have q155 : x5_1 < (l0.length : Int) := of_decide_eq_true (by first | (with_reducible assumption) | assumption)
         obtain ⟨ad155, e155, hx155_0⟩ := Kd.at_int HR0.out x5_1 p155 q155
         cases e155
         replace p155 := eq_true p155
         replace q155 := eq_true q155
         have p156 : 0 ≤ (x5_1 : Int) := of_decide_eq_true (by first | (with_reducible assumption) | assumption)
         have q156 : x5_1 < (l1.length : Int) := of_decide_eq_true (by first | (with_reducible assumption) | assumption)
         obtain ⟨ad156, e156, hx156_0⟩ := Kd.at_int HR1.out x5_1 p156 q156
         cases e156
         replace p156 := eq_true p156
         replace q156 := eq_true q156
         go_wp2
         repeat (go_quiet (fail); try go_wp2)
         go_roundg k1
         case measure => have := HK1.out; omega
         case rel => exact ⟨(wrap64 (x5_1 - 1)), (by first | rfl | (simp; done) | (simp [*]; done)), H', ⟨by have := HK1.out; omega⟩, by repeat (first | exact Drawn0.refl _ | apply Drawn0.step)⟩
        ·rw [if_neg c8] at H
         have c8b0 : ((rd l0 x5_1) == (rd l1 x5_1)) = false := beq_eq_false_iff_ne.mpr c8
         have c8b1 : ((rd l0 x5_1) != (rd l1 x5_1)) = true := bne_iff_ne.mpr c8
         obtain rfl := Option.some.inj H
         have p155 : 0 ≤ (x5_1 : Int) := of_decide_eq_true (by first | (with_reducible assumption) | assumption)
         have q155 : x5_1 < (l0.length : Int) := of_decide_eq_true (by first | (with_reducible assumption) | assumption)
         obtain ⟨ad155, e155, hx155_0⟩ := Kd.at_int HR0.out x5_1 p155 q155
         cases e155
         replace p155 := eq_true p155
         replace q155 := eq_true q155
         have p156 : 0 ≤ (x5_1 : Int) := of_decide_eq_true (by first | (with_reducible assumption) | assumption)
         have q156 : x5_1 < (l1.length : Int) := of_decide_eq_true (by first | (with_reducible assumption) | assumption)
         obtain ⟨ad156, e156, hx156_0⟩ := Kd.at_int HR1.out x5_1 p156 q156
         cases e156
         replace p156 := eq_true p156
         replace q156 := eq_true q156
         have p157 : 0 ≤ (x5_1 : Int) := of_decide_eq_true (by first | (with_reducible assumption) | assumption)
         have q157 : x5_1 < (l0.length : Int) := of_decide_eq_true (by first | (with_reducible assumption) | assumption)
         obtain ⟨ad157, e157, hx157_0⟩ := Kd.at_int HR0.out x5_1 p157 q157
         obtain rfl : ad155 = ad157 := (by injection e157)
         replace p157 := eq_true p157
         replace q157 := eq_true q157
         have p158 : 0 ≤ (x5_1 : Int) := of_decide_eq_true (by first | (with_reducible assumption) | assumption)
         have q158 : x5_1 < (l1.length : Int) := of_decide_eq_true (by first | (with_reducible assumption) | assumption)
         obtain ⟨ad158, e158, hx158_0⟩ := Kd.at_int HR1.out x5_1 p158 q158
         obtain rfl : ad156 = ad158 := (by injection e158)
         replace p158 := eq_true p158
         replace q158 := eq_true q158
         go_wp2
         repeat (go_quiet (fail); try go_wp2)
         go_ret
         exact ⟨by first | rfl | (simp; done) | (simp [*]; done), by repeat (first | exact Drawn0.refl _ | apply Drawn0.step)⟩
       ·rw [if_neg c7] at H
        exact absurd H (by simp)
      ·rw [if_neg c6] at H
       exact absurd H (by simp)
     ·rw [if_neg c5] at H
      exact absurd H (by simp)
    ·rw [if_neg c4] at H
     have c4b0 : decide (0 ≤ x5_1) = false := decide_eq_false c4
     clear c4
     obtain rfl := Option.some.inj H
     go_wp2
     repeat (go_quiet (fail); try go_wp2)
     go_ret
     exact ⟨by first | rfl | (simp; done) | (simp [*]; done), by repeat (first | exact Drawn0.refl _ | apply Drawn0.step)⟩
 ·rw [if_neg c3] at H
  have c3b0 : ((l0.length : Int) == (l1.length : Int)) = false := beq_eq_false_iff_ne.mpr c3
  have c3b1 : ((l0.length : Int) != (l1.length : Int)) = true := bne_iff_ne.mpr c3
  have c3b2 : (l0.length == l1.length) = false := by first | simpa using c3 | (simp at c3 ⊢; omega)
  obtain rfl := Option.some.inj H
  go_enter Try.func33, Try.ntmps33
  go_wp2
  repeat (go_quiet (fail); try go_wp2)
  go_ret
  exact ⟨by first | rfl | (simp; done) | (simp [*]; done), by repeat (first | exact Drawn0.refl _ | apply Drawn0.step)⟩

/-! ### trivetref01_less: function 33, its laws -/
theorem trivetref01_less.loop (i : Nat) : ∀ (k : Nat) (a b : List Int), U.Dg a → U.Dg b → a.length = b.length → i ≤ a.length → (i : Int) < 1000000 → i < k → trivetref01_less.l0 k a b ((i : Int) - 1) = some (decide (U.val (a.take i) < U.val (b.take i))) := by
 induction i with
 | zero =>
  intro k a b ha hb hl hi hm hk
  obtain ⟨j, rfl⟩ : ∃ j, k = j + 1 := ⟨k - 1, by omega⟩
  simp only [trivetref01_less.l0]
  rw [if_neg (by omega)]
  simp [U.val]
 | succ i ih =>
  intro k a b ha hb hl hi hm hk
  obtain ⟨j, rfl⟩ : ∃ j, k = j + 1 := ⟨k - 1, by omega⟩
  have ra : rd a ((i + 1 : Nat) - 1 : Int) = a.getD i 0 := by unfold rd; congr 1; omega
  have rb : rd b ((i + 1 : Nat) - 1 : Int) = b.getD i 0 := by unfold rd; congr 1; omega
  have va := U.val_lt (d := a.take i) (fun x hx => ha x (List.mem_of_mem_take hx))
  have vb := U.val_lt (d := b.take i) (fun x hx => hb x (List.mem_of_mem_take hx))
  have va0 := U.val_nonneg (d := a.take i) (fun x hx => ha x (List.mem_of_mem_take hx))
  have vb0 := U.val_nonneg (d := b.take i) (fun x hx => hb x (List.mem_of_mem_take hx))
  rw [List.length_take, show min i a.length = i by omega] at va
  rw [List.length_take, show min i b.length = i by omega] at vb
  have ih' := ih j a b ha hb hl (by omega) (by omega) (by omega)
  simp only [trivetref01_less.l0]
  rw [if_pos (show ((i + 1 : Nat) - 1 : Int) ≥ 0 by omega), if_pos (show 0 ≤ ((i + 1 : Nat) - 1 : Int) by omega), if_pos (show ((i + 1 : Nat) - 1 : Int) < a.length by omega), if_pos (show ((i + 1 : Nat) - 1 : Int) < b.length by omega), ra, rb, U.take_succ a i (by omega), U.take_succ b i (by omega)]
  rw [M.w64_id (n := ((i + 1 : Nat) - 1 : Int) - 1) (by omega) (by omega), show ((i + 1 : Nat) - 1 : Int) - 1 = (i : Int) - 1 by omega, ih']
  generalize a.getD i 0 = x at *
  generalize b.getD i 0 = y at *
  generalize U.val (a.take i) = u at *
  generalize U.val (b.take i) = v at *
  have hp := U.pow_pos i
  generalize (65536 : Int) ^ i = p at *
  by_cases h : x = y
  ·rw [if_pos h, h]; congr 1; apply decide_eq_decide.mpr; omega
  ·rw [if_neg h]
   congr 1
   apply decide_eq_decide.mpr
   constructor
   ·intro hxy
    have h1 := Int.mul_le_mul_of_nonneg_left (show x + 1 ≤ y by omega) (Int.le_of_lt hp)
    rw [Int.mul_add] at h1
    omega
   ·intro hv
    refine Classical.byContradiction fun hn => ?_
    have h1 := Int.mul_le_mul_of_nonneg_left (show y + 1 ≤ x by omega) (Int.le_of_lt hp)
    rw [Int.mul_add] at h1
    omega
theorem trivetref01_less.num (k : Nat) (x y : Int) (hx : 0 ≤ x) (hy : 0 ≤ y) (lx : (U.dig x).length ≤ 1000) (ly : (U.dig y).length ≤ 1000) (hk : (U.dig x).length + 2 ≤ k) : trivetref01_less.f k (U.dig x) (U.dig y) = some (decide (x < y)) := by
 unfold trivetref01_less.f
 have ax := U.val_dig hx
 have ay := U.val_dig hy
 by_cases h : (U.dig x).length = (U.dig y).length
 ·rw [if_pos (by omega)]
  have hw : wrap64 (((U.dig x).length : Int) - 1) = ((U.dig x).length : Int) - 1 := M.w64_id (by omega) (by omega)
  rw [hw, trivetref01_less.loop _ k _ _ (U.dig_dg x) (U.dig_dg y) h (Nat.le_refl _) (by omega) (by omega), List.take_length, h, List.take_length, ax, ay]
 ·rw [if_neg (by omega)]
  congr 1
  apply decide_eq_decide.mpr
  constructor
  ·intro hl
   refine Classical.byContradiction fun hn => ?_
   have h1 := U.val_lt (U.dig_dg x)
   rw [ax] at h1
   have := U.len_dig (U.dig x).length y (by omega)
   omega
  ·intro hl
   refine Classical.byContradiction fun hn => ?_
   have h1 := U.val_lt (U.dig_dg y)
   rw [ay] at h1
   have := U.len_dig (U.dig y).length x (by omega)
   omega

end Go.Proofs.Ytdddiahgkpfikaa.P
