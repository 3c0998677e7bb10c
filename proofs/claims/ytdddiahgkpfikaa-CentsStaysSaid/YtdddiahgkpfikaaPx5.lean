-- Written by a program of this session out of the translation of the seat: Lean functions and the proofs that the Go functions come to them.
import Derived.Test.YtdddiahgkpfikaaPx0
import Derived.Test.YtdddiahgkpfikaaPx3
import Derived.Test.YtdddiahgkpfikaaPx4
namespace Go.Proofs.Ytdddiahgkpfikaa.P
open Go.RowKit Go.Proofs.YtdddiahgkpfikaaW.PrintWords Go.Proofs.YtdddiahgkpfikaaW.PrintLast Go.Proofs.YtdddiahgkpfikaaW.PrintMore
attribute [local go_sem] max2_int min2_int max_two min_two max_three min_three max_four min_four   -- for this text's walks alone
set_option linter.unusedVariables false
set_option linter.unusedSimpArgs false

/-! ### trivetref01_minus: function 34 -/
@[go_sem] theorem fieldAgg37_0 (x0 x1 : Value) (w : World) : (Instr.field 37 (.agg #[x0, x1]) 0).run Try.prog w = .ok x0 w := by
 have h1 : (isAgg 35).run Try.prog w = .ok false w := by simp [isAgg, run_underlying Try.underlying35]
 simp [Instr.field, run_underlying Try.underlying37, asAgg, part, h1]
def trivetref01_minus.l0 : Nat → List Int → List Int → List Int → Int → Int → Option (List Int)
 | 0, _, _, _, _, _ => none
 | k + 1, x0, x1, x5, x6, x7 => if x7 < (x0.length : Int) then (if 0 ≤ x7 then ((trivetref01_at.f x1 x7).bind fun t160 => (if x5.length < 17592186044416 then (trivetref01_minus.l0 k x0 x1 (x5 ++ [Int.tmod (IntKind.u64.wrap ((IntKind.u64.wrap ((IntKind.u64.wrap (65536 + (rd x0 x7))) - t160)) - x6)) 65536]) (IntKind.u64.wrap (1 - (IntKind.u64.wrap (Int.tdiv (IntKind.u64.wrap ((IntKind.u64.wrap ((IntKind.u64.wrap (65536 + (rd x0 x7))) - t160)) - x6)) 65536)))) (wrap64 (x7 + 1))) else (none))) else (none)) else ((trivetref01_norm.f k x5 false).bind fun bt164 => (some bt164.1))
def trivetref01_minus.f (k : Nat) (l0 : List Int) (l1 : List Int) : Option (List Int) := trivetref01_minus.l0 k l0 l1 ([] : List Int) 0 0
theorem trivetref01_minus.mono_l : ∀ k, (∀ y0 y1 y2 y3 y4, LeO (trivetref01_minus.l0 k y0 y1 y2 y3 y4) (trivetref01_minus.l0 (k + 1) y0 y1 y2 y3 y4))
 | 0 => fun _ _ _ _ _ r h => by simp [trivetref01_minus.l0] at h
 | k + 1 => by
  have ih0 := trivetref01_minus.mono_l k
  ·intro y0 y1 y2 y3 y4
   unfold trivetref01_minus.l0
   repeat' first
   | (with_reducible exact ih0 _ _ _ _ _)
   | (with_reducible exact trivetref01_norm.mono _ _ _)
   | (with_reducible exact LeO.refl _)
   | (with_reducible exact LeO.none _)
   | (with_reducible refine LeO.ite ?_ ?_)
   | (with_reducible refine LeO.bind ?_ (fun _ => ?_))
   | exact ih0 _ _ _ _ _
   | exact trivetref01_norm.mono _ _ _
   | exact LeO.none _
   | refine LeO.ite ?_ ?_
   | refine LeO.bind ?_ (fun _ => ?_)
theorem trivetref01_minus.mono : ∀ a0 a1 k, LeO (trivetref01_minus.f k a0 a1) (trivetref01_minus.f (k + 1) a0 a1) := by
 intro a0 a1 k
 have ih0 := trivetref01_minus.mono_l k
 unfold trivetref01_minus.f
 repeat' first
   | (with_reducible exact ih0 _ _ _ _ _)
   | (with_reducible exact trivetref01_norm.mono _ _ _)
   | (with_reducible exact LeO.refl _)
   | (with_reducible exact LeO.none _)
   | (with_reducible refine LeO.ite ?_ ?_)
   | (with_reducible refine LeO.bind ?_ (fun _ => ?_))
   | exact ih0 _ _ _ _ _
   | exact trivetref01_norm.mono _ _ _
   | exact LeO.none _
   | refine LeO.ite ?_ ?_
   | refine LeO.bind ?_ (fun _ => ?_)
set_option maxHeartbeats 8000000 in
set_option maxRecDepth 100000 in
theorem trivetref01_minus.calls (k : Nat) (A0 : Option Addr) (c0 : Nat) (l0 : List Int) (A1 : Option Addr) (c1 : Nat) (l1 : List Int) (r : List Int) (w : World) (hr0 : Kd.C (Kd.int .u64) w A0 l0.length l0) (hc0 : l0.length ≤ c0) (hr1 : Kd.C (Kd.int .u64) w A1 l1.length l1) (hc1 : l1.length ≤ c1) (h : trivetref01_minus.f k l0 l1 = some r) :
  Calls Try.prog 34 #[.slice A0 l0.length c0, .slice A1 l1.length c1] w fun e w' => ∃ v0_ : Value, e = .returned (v0_) ∧ Kd.V (Kd.int .u64) 46 w' w.heap.size (fun k_ => (w.heap.size ≤ k_)) v0_ r ∧ Below w.heap.size w w' := by
 have HR0 := ka hr0
 have HC0 := ka hc0
 clear hr0 hc0
 have HR1 := ka hr1
 have HC1 := ka hc1
 clear hr1 hc1
 have HB := ka (Below.refl w.heap.size w)
 have H : (trivetref01_minus.l0 k l0 l1 ([] : List Int) 0 0) = some r := h
 clear h
 have H' := ka H
 clear H
 go_enter Try.func34, Try.ntmps34
 go_wp2
 repeat (go_quiet (fail); try go_wp2)
 (try simp only [Act.put, List.setIfInBounds_toArray, List.set_cons_zero, List.set_cons_succ])
 go_loopg [5, 6, 7] k (fun kq v5 v6 v7 w' => ∃ (x5_1 : List Int) (x6_1 : Int) (x7_1 : Int), v6 = .int .u64 x6_1 ∧ v7 = .int .i64 x7_1 ∧ Aside0 (trivetref01_minus.l0 kq l0 l1 x5_1 x6_1 x7_1 = some r) ∧ Aside0 (kq ≤ k) ∧ Aside0 (Kd.R (Kd.int .u64) 46 w' w.heap.size (fun k_ => (w.heap.size ≤ k_)) v5 x5_1) ∧ Aside0 (Below w.heap.size w w'))
 case atStart => exact ⟨(([] : List Int)), (0), (0), (by first | rfl | (simp; done) | (simp [*]; done)), (by first | rfl | (simp; done) | (simp [*]; done)), H', ⟨Nat.le_refl _⟩, ⟨by first | exact Kd.R_nil _ _ _ _ _ | exact Kd.N_nil _ _ _ _ _ | exact Kd.V_nil _ _ _ _ _ | exact Kd.Q_nil _ _ _ _ _ | exact Kd.S_nil _ _ _ _ _⟩, ⟨by repeat (first | (with_reducible first | exact HB.out | apply kc1 | apply kc2 | apply kc3) | exact HB.out)⟩⟩
 case round =>
  clear H'
  try clear c1
  try clear p2
  obtain ⟨x5_1, x6_1, x7_1, rfl, rfl, HA, HK1, HO_5, HB⟩ := hrel
  cases gk with
  | zero => exact absurd HA.out (by simp [trivetref01_minus.l0])
  | succ k1 =>
   have H := HA.out
   clear HA
   simp only [trivetref01_minus.l0] at H
   by_cases c3 : x7_1 < (l0.length : Int)
   ·rw [if_pos c3] at H
    have c3b0 : decide (x7_1 < (l0.length : Int)) = true := decide_eq_true c3
    clear c3
    by_cases c4 : 0 ≤ x7_1
    ·rw [if_pos c4] at H
     have c4b0 : decide (0 ≤ x7_1) = true := decide_eq_true c4
     clear c4
     replace H := Option.bind_eq_some_iff.mp H
     obtain ⟨t160, A50, H⟩ := H
     replace H : (if x5_1.length < 17592186044416 then (trivetref01_minus.l0 k1 l0 l1 (x5_1 ++ [Int.tmod (IntKind.u64.wrap ((IntKind.u64.wrap ((IntKind.u64.wrap (65536 + (rd l0 x7_1))) - t160)) - x6_1)) 65536]) (IntKind.u64.wrap (1 - (IntKind.u64.wrap (Int.tdiv (IntKind.u64.wrap ((IntKind.u64.wrap ((IntKind.u64.wrap (65536 + (rd l0 x7_1))) - t160)) - x6_1)) 65536)))) (wrap64 (x7_1 + 1))) else (none)) = some r := H
     have A5 := ka A50
     clear A50
     by_cases c6 : x5_1.length < 17592186044416
     ·rw [if_pos c6] at H
      have LMc6 := ka c6
      clear c6
      obtain ⟨y161, hy161⟩ : ∃ y_ : List Int, y_ = (x5_1 ++ [Int.tmod (IntKind.u64.wrap ((IntKind.u64.wrap ((IntKind.u64.wrap (65536 + (rd l0 x7_1))) - t160)) - x6_1)) 65536]) := ⟨_, rfl⟩
      replace H : (trivetref01_minus.l0 k1 l0 l1 y161 (IntKind.u64.wrap (1 - (IntKind.u64.wrap (Int.tdiv (IntKind.u64.wrap ((IntKind.u64.wrap ((IntKind.u64.wrap (65536 + (rd l0 x7_1))) - t160)) - x6_1)) 65536)))) (wrap64 (x7_1 + 1))) = some r := by first | (rw [hy161]; with_reducible exact H) | (have H2_ := (Option.bind_some _ _).symm.trans H; rw [hy161]; with_reducible exact H2_) | (have H2_ := (Option.bind_some _ _).symm.trans H; with_reducible exact H2_) | with_reducible exact H | (rw [hy161]; exact H) | exact H
      have Ny161 := ka hy161
      clear hy161
      have H' := ka H
      clear H
      have p159 : 0 ≤ (x7_1 : Int) := of_decide_eq_true (by first | (with_reducible assumption) | assumption)
      have q159 : x7_1 < (l0.length : Int) := of_decide_eq_true (by first | (with_reducible assumption) | assumption)
      obtain ⟨ad159, e159, hx159_0⟩ := Kd.at_int HR0.out x7_1 p159 q159
      cases e159
      replace hx159_0 := (HB.out.cell (World.block_lt_of_cell? w _ hx159_0)).trans hx159_0
      replace p159 := eq_true p159
      replace q159 := eq_true q159
      go_wp2_with (first | (go_at_call 39; (with_reducible refine (trivetref01_at.calls _ _ l1 x7_1 t160 _ ?side1 ?side2 A5.out).mono ?_); (case side1 => repeat (first | exact (Kd.C_below HR1.out HB.out) | (with_reducible refine Kd.C_alloc ?_ _) | (with_reducible refine Kd.C_drewN ?_ _) | (with_reducible refine Kd.C_drew ?_))); (case side2 => exact HC1.out); rintro e w' ⟨rfl, ⟨nd, rfl⟩⟩; (try first | exact ⟨rfl, _, World.drewN_drewN _ _ _⟩ | exact ⟨rfl, _, Eq.trans (World.drewN_drewN _ _ _) (congrArg (World.drewN _) (Nat.add_assoc _ _ _))⟩)) | ((with_reducible refine gate_builtin (b := .append) (xs := #[.tmp 26, .tmp 29]) rfl ?_); at_builtin; refine Kd.R_append (Kd.int .u64) (w0 := w) w.heap.size rfl (.tmp 26) (.tmp 29) 35 46 (.int .u64 0) 8 rfl Try.underlying35 info46 rfl (by decide) (by omega) u5 x5_1 (Int.tmod (IntKind.u64.wrap ((IntKind.u64.wrap ((IntKind.u64.wrap (65536 + (rd l0 x7_1))) - t160)) - x6_1)) 65536) [.int .u64 (Int.tmod (IntKind.u64.wrap ((IntKind.u64.wrap ((IntKind.u64.wrap (65536 + (rd l0 x7_1))) - t160)) - x6_1)) 65536)] (fun k_ => (w.heap.size ≤ k_)) (fun _ => False) rfl rfl ?aP (fun _ hk => hk.elim) ?aF ?aO ?aB ?aS ?aL ?_; (case aP => exact rfl); (case aB => exact (kw HB.out)); (case aF => exact (fun k_ hk => (Nat.le_trans (below_size (kw HB.out)) hk))); (case aO => exact (kr HO_5.out)); (case aS => exact (below_size (kw HB.out))); (case aL => have := LMc6.out; omega); intro v162 w7 ho hb hg hat; rw [← Ny161.out] at ho; replace HB := ka (hb); have HO163 := ka (ho); clear HO_5; clear ho hb hg hat))
      repeat (go_quiet (first | (go_at_call 39; (with_reducible refine (trivetref01_at.calls _ _ l1 x7_1 t160 _ ?side1 ?side2 A5.out).mono ?_); (case side1 => repeat (first | exact (Kd.C_below HR1.out HB.out) | (with_reducible refine Kd.C_alloc ?_ _) | (with_reducible refine Kd.C_drewN ?_ _) | (with_reducible refine Kd.C_drew ?_))); (case side2 => exact HC1.out); rintro e w' ⟨rfl, ⟨nd, rfl⟩⟩; (try first | exact ⟨rfl, _, World.drewN_drewN _ _ _⟩ | exact ⟨rfl, _, Eq.trans (World.drewN_drewN _ _ _) (congrArg (World.drewN _) (Nat.add_assoc _ _ _))⟩)) | ((with_reducible refine gate_builtin (b := .append) (xs := #[.tmp 26, .tmp 29]) rfl ?_); at_builtin; refine Kd.R_append (Kd.int .u64) (w0 := w) w.heap.size rfl (.tmp 26) (.tmp 29) 35 46 (.int .u64 0) 8 rfl Try.underlying35 info46 rfl (by decide) (by omega) u5 x5_1 (Int.tmod (IntKind.u64.wrap ((IntKind.u64.wrap ((IntKind.u64.wrap (65536 + (rd l0 x7_1))) - t160)) - x6_1)) 65536) [.int .u64 (Int.tmod (IntKind.u64.wrap ((IntKind.u64.wrap ((IntKind.u64.wrap (65536 + (rd l0 x7_1))) - t160)) - x6_1)) 65536)] (fun k_ => (w.heap.size ≤ k_)) (fun _ => False) rfl rfl ?aP (fun _ hk => hk.elim) ?aF ?aO ?aB ?aS ?aL ?_; (case aP => exact rfl); (case aB => exact (kw HB.out)); (case aF => exact (fun k_ hk => (Nat.le_trans (below_size (kw HB.out)) hk))); (case aO => exact (kr HO_5.out)); (case aS => exact (below_size (kw HB.out))); (case aL => have := LMc6.out; omega); intro v162 w7 ho hb hg hat; rw [← Ny161.out] at ho; replace HB := ka (hb); have HO163 := ka (ho); clear HO_5; clear ho hb hg hat)); try go_wp2_with (first | (go_at_call 39; (with_reducible refine (trivetref01_at.calls _ _ l1 x7_1 t160 _ ?side1 ?side2 A5.out).mono ?_); (case side1 => repeat (first | exact (Kd.C_below HR1.out HB.out) | (with_reducible refine Kd.C_alloc ?_ _) | (with_reducible refine Kd.C_drewN ?_ _) | (with_reducible refine Kd.C_drew ?_))); (case side2 => exact HC1.out); rintro e w' ⟨rfl, ⟨nd, rfl⟩⟩; (try first | exact ⟨rfl, _, World.drewN_drewN _ _ _⟩ | exact ⟨rfl, _, Eq.trans (World.drewN_drewN _ _ _) (congrArg (World.drewN _) (Nat.add_assoc _ _ _))⟩)) | ((with_reducible refine gate_builtin (b := .append) (xs := #[.tmp 26, .tmp 29]) rfl ?_); at_builtin; refine Kd.R_append (Kd.int .u64) (w0 := w) w.heap.size rfl (.tmp 26) (.tmp 29) 35 46 (.int .u64 0) 8 rfl Try.underlying35 info46 rfl (by decide) (by omega) u5 x5_1 (Int.tmod (IntKind.u64.wrap ((IntKind.u64.wrap ((IntKind.u64.wrap (65536 + (rd l0 x7_1))) - t160)) - x6_1)) 65536) [.int .u64 (Int.tmod (IntKind.u64.wrap ((IntKind.u64.wrap ((IntKind.u64.wrap (65536 + (rd l0 x7_1))) - t160)) - x6_1)) 65536)] (fun k_ => (w.heap.size ≤ k_)) (fun _ => False) rfl rfl ?aP (fun _ hk => hk.elim) ?aF ?aO ?aB ?aS ?aL ?_; (case aP => exact rfl); (case aB => exact (kw HB.out)); (case aF => exact (fun k_ hk => (Nat.le_trans (below_size (kw HB.out)) hk))); (case aO => exact (kr HO_5.out)); (case aS => exact (below_size (kw HB.out))); (case aL => have := LMc6.out; omega); intro v162 w7 ho hb hg hat; rw [← Ny161.out] at ho; replace HB := ka (hb); have HO163 := ka (ho); clear HO_5; clear ho hb hg hat)))
      go_roundg k1
      case measure => have := HK1.out; omega
      case rel => exact ⟨(y161), (IntKind.u64.wrap (1 - (IntKind.u64.wrap (Int.tdiv (IntKind.u64.wrap ((IntKind.u64.wrap ((IntKind.u64.wrap (65536 + (rd l0 x7_1))) - t160)) - x6_1)) 65536)))), (wrap64 (x7_1 + 1)), (by first | rfl | (simp; done) | (simp [*]; done)), (by first | rfl | (simp; done) | (simp [*]; done)), H', ⟨by have := HK1.out; omega⟩, ⟨kr HO163.out⟩, ⟨by repeat (first | (with_reducible first | exact HB.out | apply kc1 | apply kc2 | apply kc3) | exact HB.out)⟩⟩
     ·rw [if_neg c6] at H
      exact absurd H (by simp)
    ·rw [if_neg c4] at H
     exact absurd H (by simp)
   ·rw [if_neg c3] at H
    have c3b0 : decide (x7_1 < (l0.length : Int)) = false := decide_eq_false c3
    clear c3
    replace H := Option.bind_eq_some_iff.mp H
    obtain ⟨⟨t164, t167⟩, A80, H⟩ := H
    replace H : (some t164) = some r := H
    have A8 := ka A80
    clear A80
    obtain rfl := Option.some.inj H
    obtain ⟨Ao9, co9, eo9⟩ := Kd.R_slice HO_5.out
    subst eo9
    go_wp2_with (first | (go_at_call 31; (with_reducible refine (trivetref01_norm.calls k1 (fun k_ => some k_ = (.slice Ao9 x5_1.length co9 : Value).ownBlock) _ _ x5_1 false t164 t167 _ ?side1 A8.out).mono ?_); (case side1 => exact Kd.R_V (Kd.R_tight rfl (HO_5.out))); rintro e w10 ⟨v165, rfl, ho0, hb⟩; have HO166 := ka (Kd.V_lower (Kd.V_mono (ok' := fun k_ => (w.heap.size ≤ k_)) ho0 (fun k_ hk_ => Or.elim hk_ (fun hs_ => ((HO_5.out).1 k_ hs_.symm)) (fun hn_ => (Nat.le_trans (below_size (kw HB.out)) hn_)))) (below_size (kw HB.out))); replace HO_5 := ka (Kd.R_below (kr HO_5.out) hb); replace HB := ka (below_step (kw HB.out) hb); (try clear hb); (try clear hb2); (try clear hk); (try clear hi); (try clear ho0)))
    repeat (go_quiet (first | (go_at_call 31; (with_reducible refine (trivetref01_norm.calls k1 (fun k_ => some k_ = (.slice Ao9 x5_1.length co9 : Value).ownBlock) _ _ x5_1 false t164 t167 _ ?side1 A8.out).mono ?_); (case side1 => exact Kd.R_V (Kd.R_tight rfl (HO_5.out))); rintro e w10 ⟨v165, rfl, ho0, hb⟩; have HO166 := ka (Kd.V_lower (Kd.V_mono (ok' := fun k_ => (w.heap.size ≤ k_)) ho0 (fun k_ hk_ => Or.elim hk_ (fun hs_ => ((HO_5.out).1 k_ hs_.symm)) (fun hn_ => (Nat.le_trans (below_size (kw HB.out)) hn_)))) (below_size (kw HB.out))); replace HO_5 := ka (Kd.R_below (kr HO_5.out) hb); replace HB := ka (below_step (kw HB.out) hb); (try clear hb); (try clear hb2); (try clear hk); (try clear hi); (try clear ho0))); try go_wp2_with (first | (go_at_call 31; (with_reducible refine (trivetref01_norm.calls k1 (fun k_ => some k_ = (.slice Ao9 x5_1.length co9 : Value).ownBlock) _ _ x5_1 false t164 t167 _ ?side1 A8.out).mono ?_); (case side1 => exact Kd.R_V (Kd.R_tight rfl (HO_5.out))); rintro e w10 ⟨v165, rfl, ho0, hb⟩; have HO166 := ka (Kd.V_lower (Kd.V_mono (ok' := fun k_ => (w.heap.size ≤ k_)) ho0 (fun k_ hk_ => Or.elim hk_ (fun hs_ => ((HO_5.out).1 k_ hs_.symm)) (fun hn_ => (Nat.le_trans (below_size (kw HB.out)) hn_)))) (below_size (kw HB.out))); replace HO_5 := ka (Kd.R_below (kr HO_5.out) hb); replace HB := ka (below_step (kw HB.out) hb); (try clear hb); (try clear hb2); (try clear hk); (try clear hi); (try clear ho0))))
    go_ret
    exact ⟨_, by first | rfl | (simp [errW_none, errW_some] <;> rfl) | (simp [*, errW_none, errW_some] <;> rfl), by (with_reducible repeat (first | apply Kd.V_alloc | apply Kd.V_drewN | apply Kd.V_drew)); exact HO166.out, by repeat (first | (with_reducible first | exact HB.out | apply kc1 | apply kc2 | apply kc3) | exact HB.out)⟩

/-! ### trivetref01_minus: function 34, its laws -/
theorem trivetref01_minus.loop (n : Nat) : ∀ (k : Nat) (a b acc : List Int) (c : Int) (i : Nat), U.Dg a → U.Dg b → U.Dg acc → 0 ≤ c ∧ c ≤ 1 → a.length = i + n → b.length ≤ a.length → acc.length = i → i + n < 500000 → U.val b ≤ U.val a → U.val acc + 65536 ^ i * (U.val (a.drop i) - U.val (b.drop i) - c) = U.val a - U.val b → 2 * n + i + 4 ≤ k →
  trivetref01_minus.l0 k a b acc c i = some (U.dig (U.val a - U.val b)) := by
 induction n with
 | zero =>
  intro k a b acc c i ha hb hacc hc la lb hl hi hv hi2 hk
  obtain ⟨j, rfl⟩ : ∃ j, k = j + 1 := ⟨k - 1, by omega⟩
  rw [List.drop_eq_nil_of_le (by omega), List.drop_eq_nil_of_le (by omega)] at hi2
  simp only [U.val] at hi2
  have hlt := U.val_lt hacc
  have h0 := U.val_nonneg hacc
  rw [hl] at hlt
  have hp := U.pow_pos i
  have ec : c = 0 := by
   refine Classical.byContradiction fun hn => ?_
   have : c = 1 := by omega
   subst this
   have e : (65536 : Int) ^ i * (0 - 0 - 1) = -65536 ^ i := by omega
   rw [e] at hi2
   omega
  subst ec
  have hi3 : U.val acc = U.val a - U.val b := by simpa using hi2
  simp only [trivetref01_minus.l0]
  rw [if_neg (by omega), trivetref01_norm.tells j acc false hacc (by omega) (by omega), hi3]
  rfl
 | succ n ih =>
  intro k a b acc c i ha hb hacc hc la lb hl hi hv hi2 hk
  obtain ⟨j, rfl⟩ : ∃ j, k = j + 1 := ⟨k - 1, by omega⟩
  have ga := ha.get i
  have gb := hb.get i
  have ra : rd a (i : Int) = a.getD i 0 := rfl
  rw [U.drop_step a i, U.drop_step b i] at hi2
  simp only [trivetref01_minus.l0]
  rw [if_pos (by omega), if_pos (by omega), trivetref01_at.num, Option.bind_some, if_pos (by omega), ra]
  have ih' := fun q r => ih j a b (acc ++ [r]) q (i + 1) ha hb
  generalize a.getD i 0 = x at *
  generalize b.getD i 0 = y at *
  rw [M.wrapu_id (n := 65536 + x) (by omega) (by omega), M.wrapu_id (n := 65536 + x - y) (by omega) (by omega), M.wrapu_id (n := 65536 + x - y - c) (by omega) (by omega), M.tdivu (show 0 ≤ 65536 + x - y - c by omega), M.tmodu (show 0 ≤ 65536 + x - y - c by omega), M.wrapu_id (n := (65536 + x - y - c) / 65536) (by omega) (by omega), M.wrapu_id (n := 1 - (65536 + x - y - c) / 65536) (by omega) (by omega), M.w64_id (n := (i : Int) + 1) (by omega) (by omega)]
  refine ih' _ _ (hacc.add (U.Dg.one (by omega))) (by omega) (by omega) lb (by simp; omega) (by omega) hv ?_ (by omega)
  rw [← hi2, U.val_append, U.val_one, hl, U.pow_succ]
  generalize U.val (a.drop (i + 1)) = u
  generalize U.val (b.drop (i + 1)) = v
  have : x + 65536 * u - (y + 65536 * v) - c = (65536 + x - y - c) % 65536 + 65536 * (u - v - (1 - (65536 + x - y - c) / 65536)) := by omega
  rw [this]
  generalize (65536 + x - y - c) % 65536 = r
  generalize u - v - (1 - (65536 + x - y - c) / 65536) = s
  generalize (65536 : Int) ^ i = p
  rw [Int.mul_add, Int.mul_comm 65536 p, Int.mul_assoc, Int.add_assoc]
theorem trivetref01_minus.num (k : Nat) (x y : Int) (hy : 0 ≤ y) (hxy : y ≤ x) (lx : (U.dig x).length ≤ 1000) (hk : 2 * (U.dig x).length + 4 ≤ k) : trivetref01_minus.f k (U.dig x) (U.dig y) = some (U.dig (x - y)) := by
 have ax := U.val_dig (n := x) (by omega)
 have ay := U.val_dig hy
 have ly : (U.dig y).length ≤ (U.dig x).length := by
  have h1 := U.val_lt (U.dig_dg x)
  rw [ax] at h1
  exact U.len_dig (U.dig x).length y (by omega)
 have := trivetref01_minus.loop (U.dig x).length k (U.dig x) (U.dig y) [] 0 0 (U.dig_dg x) (U.dig_dg y) U.Dg.nil (by omega) (by omega) ly rfl (by omega) (by omega) (by simp [U.val]) (by omega)
 rw [ax, ay] at this
 exact this

/-! ### trivetref01_Add: function 20 -/
def trivetref01_Add.f (k : Nat) (l0_0 : List Int) (a0_1 : Bool) (l1_0 : List Int) (a1_1 : Bool) : Option (List Int × Bool) := if (a0_1 == a1_1) = true then ((trivetref01_plus.f k l0_0 l1_0).bind fun t171 => ((trivetref01_norm.f k t171 a0_1).bind fun bt174 => (some (bt174.1, bt174.2)))) else ((trivetref01_less.f k l0_0 l1_0).bind fun t178 => (if t178 = true then ((trivetref01_minus.f k l1_0 l0_0).bind fun t179 => ((trivetref01_norm.f k t179 a1_1).bind fun bt182 => (some (bt182.1, bt182.2)))) else ((trivetref01_minus.f k l0_0 l1_0).bind fun t186 => ((trivetref01_norm.f k t186 a0_1).bind fun bt189 => (some (bt189.1, bt189.2))))))
theorem trivetref01_Add.mono : ∀ a0 a1 a2 a3 k, LeO (trivetref01_Add.f k a0 a1 a2 a3) (trivetref01_Add.f (k + 1) a0 a1 a2 a3) := by
 intro a0 a1 a2 a3 k
 unfold trivetref01_Add.f
 repeat' first
   | (with_reducible exact trivetref01_less.mono _ _ _)
   | (with_reducible exact trivetref01_minus.mono _ _ _)
   | (with_reducible exact trivetref01_norm.mono _ _ _)
   | (with_reducible exact trivetref01_plus.mono _ _ _)
   | (with_reducible exact LeO.refl _)
   | (with_reducible exact LeO.none _)
   | (with_reducible refine LeO.ite ?_ ?_)
   | (with_reducible refine LeO.bind ?_ (fun _ => ?_))
   | exact trivetref01_less.mono _ _ _
   | exact trivetref01_minus.mono _ _ _
   | exact trivetref01_norm.mono _ _ _
   | exact trivetref01_plus.mono _ _ _
   | exact LeO.none _
   | refine LeO.ite ?_ ?_
   | refine LeO.bind ?_ (fun _ => ?_)
def trivetref01_Add.T2 : Bool × List (List Nat × List Nat) := (true, [([], []), ([0], [0]), ([], []), ([2], [2]), ([1, 3], [1, 3]), ([], []), ([5], [5]), ([4, 6, 4], [4, 6]), ([7, 7, 0, 1, 2, 3, 4, 5, 6, 7], [7])])
def trivetref01_Add.B2 : List Nat := [0, 1, 0, 4, 15, 0, 32, 127, 255]
theorem trivetref01_Add.tab2 : rtab .any (opsOf Try.f20 2) = trivetref01_Add.T2 := by kernel_rfl
theorem trivetref01_Add.bits2 : waitsOk trivetref01_Add.T2.2 trivetref01_Add.B2 = true := by kernel_rfl
def trivetref01_Add.T5 : Bool × List (List Nat × List Nat) := (true, [([], []), ([0], [0]), ([], []), ([2], [2]), ([1, 3], [1, 3]), ([], []), ([5], [5]), ([4, 6, 4], [4, 6]), ([7, 7, 0, 1, 2, 3, 4, 5, 6, 7], [7])])
def trivetref01_Add.B5 : List Nat := [0, 1, 0, 4, 15, 0, 32, 127, 255]
theorem trivetref01_Add.tab5 : rtab .any (opsOf Try.f20 5) = trivetref01_Add.T5 := by kernel_rfl
theorem trivetref01_Add.bits5 : waitsOk trivetref01_Add.T5.2 trivetref01_Add.B5 = true := by kernel_rfl
def trivetref01_Add.T6 : Bool × List (List Nat × List Nat) := (true, [([], []), ([0], [0]), ([], []), ([2], [2]), ([1, 3], [1, 3]), ([], []), ([5], [5]), ([4, 6, 4], [4, 6]), ([7, 7, 0, 1, 2, 3, 4, 5, 6, 7], [7])])
def trivetref01_Add.B6 : List Nat := [0, 1, 0, 4, 15, 0, 32, 127, 255]
theorem trivetref01_Add.tab6 : rtab .any (opsOf Try.f20 6) = trivetref01_Add.T6 := by kernel_rfl
theorem trivetref01_Add.bits6 : waitsOk trivetref01_Add.T6.2 trivetref01_Add.B6 = true := by kernel_rfl
set_option maxHeartbeats 8000000 in
set_option maxRecDepth 100000 in
theorem trivetref01_Add.calls (k : Nat) (A0_0 : Option Addr) (c0_0 : Nat) (l0_0 : List Int) (a0_1 : Bool) (A1_0 : Option Addr) (c1_0 : Nat) (l1_0 : List Int) (a1_1 : Bool) (r1 : List Int) (r2 : Bool) (w : World) (hr0_0 : Kd.C (Kd.int .u64) w A0_0 l0_0.length l0_0) (hc0_0 : l0_0.length ≤ c0_0) (hr1_0 : Kd.C (Kd.int .u64) w A1_0 l1_0.length l1_0) (hc1_0 : l1_0.length ≤ c1_0) (h : trivetref01_Add.f k l0_0 a0_1 l1_0 a1_1 = some (r1, r2)) :
  Calls Try.prog 20 #[.agg #[.slice A0_0 l0_0.length c0_0, .bool a0_1], .agg #[.slice A1_0 l1_0.length c1_0, .bool a1_1]] w fun e w' => ∃ v0_ : Value, e = .returned (.agg #[v0_, .bool r2]) ∧ Kd.V (Kd.int .u64) 46 w' w.heap.size (fun k_ => (w.heap.size ≤ k_)) v0_ r1 ∧ Below w.heap.size w w' := by
 have hu37 := Try.underlying37
 have HR0_0 := ka hr0_0
 have HC0_0 := ka hc0_0
 clear hr0_0 hc0_0
 have HR1_0 := ka hr1_0
 have HC1_0 := ka hc1_0
 clear hr1_0 hc1_0
 have HB := ka (Below.refl w.heap.size w)
 have H : (if (a0_1 == a1_1) = true then ((trivetref01_plus.f k l0_0 l1_0).bind fun t171 => ((trivetref01_norm.f k t171 a0_1).bind fun bt174 => (some (bt174.1, bt174.2)))) else ((trivetref01_less.f k l0_0 l1_0).bind fun t178 => (if t178 = true then ((trivetref01_minus.f k l1_0 l0_0).bind fun t179 => ((trivetref01_norm.f k t179 a1_1).bind fun bt182 => (some (bt182.1, bt182.2)))) else ((trivetref01_minus.f k l0_0 l1_0).bind fun t186 => ((trivetref01_norm.f k t186 a0_1).bind fun bt189 => (some (bt189.1, bt189.2))))))) = some (r1, r2) := h
 clear h
 by_cases c3 : (a0_1 == a1_1) = true
 ·rw [if_pos c3] at H
  have c3b0 : (a0_1 == a1_1) = true := c3
  (try (have c3b1 : decide (a0_1 = a1_1) = true := by simpa using c3))
  (try (have c3b2 : (a0_1 == a1_1) = true := by simpa using c3))
  clear c3
  replace H := Option.bind_eq_some_iff.mp H
  obtain ⟨t171, A40, H⟩ := H
  replace H : ((trivetref01_norm.f k t171 a0_1).bind fun bt174 => (some (bt174.1, bt174.2))) = some (r1, r2) := H
  have A4 := ka A40
  clear A40
  replace H := Option.bind_eq_some_iff.mp H
  obtain ⟨⟨t174, t177⟩, A50, H⟩ := H
  replace H : (some (t174, t177)) = some (r1, r2) := H
  have A5 := ka A50
  clear A50
  simp only [Option.some.injEq, Prod.mk.injEq] at H
  obtain ⟨rfl, rfl⟩ := H
  go_enter Try.func20, Try.ntmps20
  try go_wp2_with (first | ((with_reducible refine gate_dst (N := 2) rfl ?_); refine kx (N := 2) (cs := #[.slice A0_0 l0_0.length c0_0, .bool a0_1]) (t := 37) ?_; intro gb168 hg w6 hbox hb; have n0_ := ka (below_step (kw HB.out) hb); have n1_ := ka (hbox); have n2_ := ka ((by rw [hg]; exact (below_size (kw HB.out)) : w.heap.size ≤ gb168)); have n3_ := n2_; clear HB; have HB := n0_; have BK168 := n1_; have GW168 := n2_; have GE168 := n3_; clear n0_ n1_ n2_ n3_; clear hb hbox hg) | ((with_reducible refine gate_dst (N := 3) rfl ?_); refine kx (N := 3) (cs := #[.slice A1_0 l1_0.length c1_0, .bool a1_1]) (t := 37) ?_; intro gb169 hg w7 hbox hb; have n0_ := ka (blk_below (g := gb168) (kz BK168.out) hb); have n1_ := ka (below_step (kw HB.out) hb); have n2_ := ka (hbox); have n3_ := ka ((by rw [hg]; exact (below_size (kw HB.out)) : w.heap.size ≤ gb169)); have n4_ := n3_; have n5_ := ka ((by rw [hg]; exact Nat.ne_of_lt (blk_lt (g := gb168) (kz BK168.out)) : gb168 ≠ gb169)); have n6_ := ka n5_.out.symm; clear BK168; clear HB; have BK168 := n0_; have HB := n1_; have BK169 := n2_; have GW169 := n3_; have GE169 := n4_; have NB168_169 := n5_; have NB169_168 := n6_; clear n0_ n1_ n2_ n3_ n4_ n5_ n6_; clear hb hbox hg) | ((with_reducible refine gate_dst (N := 4) rfl ?_); refine kx (N := 4) (cs := #[.slice none 0 0, .bool false]) (t := 37) ?_; intro gb170 hg w8 hbox hb; have n0_ := ka (blk_below (g := gb168) (kz BK168.out) hb); have n1_ := ka (blk_below (g := gb169) (kz BK169.out) hb); have n2_ := ka (below_step (kw HB.out) hb); have n3_ := ka (hbox); have n4_ := ka ((by rw [hg]; exact (below_size (kw HB.out)) : w.heap.size ≤ gb170)); have n5_ := n4_; have n6_ := ka ((by rw [hg]; exact Nat.ne_of_lt (blk_lt (g := gb168) (kz BK168.out)) : gb168 ≠ gb170)); have n7_ := ka n6_.out.symm; have n8_ := ka ((by rw [hg]; exact Nat.ne_of_lt (blk_lt (g := gb169) (kz BK169.out)) : gb169 ≠ gb170)); have n9_ := ka n8_.out.symm; clear BK168; clear BK169; clear HB; have BK168 := n0_; have BK169 := n1_; have HB := n2_; have BK170 := n3_; have GW170 := n4_; have GE170 := n5_; have NB168_170 := n6_; have NB170_168 := n7_; have NB169_170 := n8_; have NB170_169 := n9_; clear n0_ n1_ n2_ n3_ n4_ n5_ n6_ n7_ n8_ n9_; clear hb hbox hg; have hnb9 := NB168_169.out; have hnc9 := NB169_168.out; have hnb10 := NB168_170.out; have hnc10 := NB170_168.out; have hcz11 := blkAll2 BK168.out; have hnb12 := NB169_170.out; have hnc12 := NB170_169.out; have hcz13 := blkAll2 BK169.out))
  replace BK168 := ka (blk_drew BK168.out)
  replace BK169 := ka (blk_drew BK169.out)
  replace BK170 := ka (blk_drew BK170.out)
  replace HB := ka (below_drew1 HB.out)
  refine start_ (n := 9) (S := fun w' => w'.cell? ⟨gb168, 0, none⟩ = some (.slice A0_0 l0_0.length c0_0) ∧ w'.cell? ⟨gb168, 1, none⟩ = some (.bool a0_1) ∧ w'.cell? ⟨gb169, 0, none⟩ = some (.slice A1_0 l1_0.length c1_0) ∧ w'.cell? ⟨gb169, 1, none⟩ = some (.bool a1_1)) (ds := []) #[false, false, false, false, false, false, false, false, false] (by kernel_rfl) rfl rfl ⟨(blk_cell BK168.out 0).trans rfl, (blk_cell BK168.out 1).trans rfl, (blk_cell BK169.out 0).trans rfl, (blk_cell BK169.out 1).trans rfl⟩ (fun hHeld => ?_); refine with_tabW trivetref01_Add.tab2 trivetref01_Add.bits2 (fun HT_ HW_ => ?_)
  generalize w8.drew = w14 at BK168 BK169 BK170 HB hHeld ⊢
  refine pure_ (i := 0) (N := some 11) (v := ?_) (a' := ?_) #[true, false, false, false, false, false, false, false, false] rfl rfl (any_of HT_.out (by kernel_rfl)) (fun _ _ _ h => h) (Or.inl ⟨by rfl, ?_⟩) ?_ ?_
  rotate_left
  ·intro w'
   go_simp
   with_reducible rfl
  rotate_left
  ·simp only [Act.put, List.setIfInBounds_toArray, List.set_cons_zero, List.set_cons_succ, i64_w, i32_w]
   rfl
  refine pure_ (i := 2) (N := some 13) (v := ?_) (a' := ?_) #[true, false, true, false, false, false, false, false, false] rfl rfl (any_of HT_.out (by kernel_rfl)) (fun _ _ _ h => h) (Or.inl ⟨by rfl, ?_⟩) ?_ ?_
  rotate_left
  ·intro w'
   go_simp
   with_reducible rfl
  rotate_left
  ·simp only [Act.put, List.setIfInBounds_toArray, List.set_cons_zero, List.set_cons_succ, i64_w, i32_w]
   rfl
  refine pure_ (i := 5) (N := some 16) (v := ?_) (a' := ?_) #[true, false, true, false, false, true, false, false, false] rfl rfl (any_of HT_.out (by kernel_rfl)) (fun _ _ _ h => h) (Or.inl ⟨by rfl, ?_⟩) ?_ ?_
  rotate_left
  ·intro w'
   go_simp
   with_reducible rfl
  rotate_left
  ·simp only [Act.put, List.setIfInBounds_toArray, List.set_cons_zero, List.set_cons_succ, i64_w, i32_w]
   rfl
  refine take_ (i := 1) (N := some 12) (v := ?_) (a' := ?_) #[true, true, true, false, false, true, false, false, false] rfl rfl (take_ofW HT_.out HW_.out (by kernel_rfl)) (fun _ _ _ h => h) (Or.inl ⟨by rfl, ?_⟩) hHeld ?_ ?_
  rotate_left
  ·rintro w' ⟨s0, s1, s2, s3⟩
   go_simp
   with_reducible rfl
  rotate_left
  ·simp only [Act.put, List.setIfInBounds_toArray, List.set_cons_zero, List.set_cons_succ, i64_w, i32_w]
   rfl
  refine take_ (i := 3) (N := some 14) (v := ?_) (a' := ?_) #[true, true, true, true, false, true, false, false, false] rfl rfl (take_ofW HT_.out HW_.out (by kernel_rfl)) (fun _ _ _ h => h) (Or.inl ⟨by rfl, ?_⟩) hHeld ?_ ?_
  rotate_left
  ·rintro w' ⟨s0, s1, s2, s3⟩
   go_simp
   with_reducible rfl
  rotate_left
  ·simp only [Act.put, List.setIfInBounds_toArray, List.set_cons_zero, List.set_cons_succ, i64_w, i32_w]
   rfl
  refine take_ (i := 6) (N := some 17) (v := ?_) (a' := ?_) #[true, true, true, true, false, true, true, false, false] rfl rfl (take_ofW HT_.out HW_.out (by kernel_rfl)) (fun _ _ _ h => h) (Or.inl ⟨by rfl, ?_⟩) hHeld ?_ ?_
  rotate_left
  ·rintro w' ⟨s0, s1, s2, s3⟩
   go_simp
   with_reducible rfl
  rotate_left
  ·simp only [Act.put, List.setIfInBounds_toArray, List.set_cons_zero, List.set_cons_succ, i64_w, i32_w]
   rfl
  refine one_ (i := 4) (N := some 15) #[true, true, true, true, true, true, true, false, false] rfl rfl (one_of HT_.out (by kernel_rfl)) (by decide) (fun K hK => ?_)
  refine goes_ Try.func32 (by kernel_rfl) rfl #[.slice A0_0 l0_0.length c0_0, .slice A1_0 l1_0.length c1_0] (by rfl) rfl rfl (by (try simp only [List.map_toArray, List.map_cons, List.map_nil]); first | done | rfl | (simp only [List.length_drop, List.length_take]; rfl)) ?_
  with_reducible refine (trivetref01_plus.calls k _ _ l0_0 _ _ l1_0 t171 _ ?side1 ?side2 ?side3 ?side4 A4.out).mono ?_
  (case side1 => repeat (first | exact (Kd.C_below HR0_0.out HB.out) | (with_reducible refine Kd.C_alloc ?_ _) | (with_reducible refine Kd.C_drewN ?_ _) | (with_reducible refine Kd.C_drew ?_)))
  (case side2 => exact HC0_0.out)
  (case side3 => repeat (first | exact (Kd.C_below HR1_0.out HB.out) | (with_reducible refine Kd.C_alloc ?_ _) | (with_reducible refine Kd.C_drewN ?_ _) | (with_reducible refine Kd.C_drew ?_)))
  (case side4 => exact HC1_0.out)
  rintro e w15 ⟨v172, rfl, ho0, hb⟩
  refine ⟨_, rfl, ?_⟩
  have HO173 := ka (Kd.R_lower (Kd.R_newM (M := fun k_ => (w.heap.size ≤ k_)) ho0 (below_size (kw HB.out)) (fun k_ h_ => h_)) (below_size (kw HB.out)))
  replace BK168 := ka (blk_below (g := gb168) (kz BK168.out) hb)
  replace BK169 := ka (blk_below (g := gb169) (kz BK169.out) hb)
  replace BK170 := ka (blk_below (g := gb170) (kz BK170.out) hb)
  replace HB := ka (below_step (kw HB.out) hb)
  (try clear hb)
  (try clear hb2)
  (try clear hk)
  (try clear hi)
  (try clear ho0)
  obtain ⟨Ao16, co16, eo16⟩ := Kd.R_slice HO173.out
  (first | subst eo16 | (injection eo16 with f1_ f2_ f3_; have f4_ := f1_.symm; have f5_ := f3_.symm; clear f1_ f2_ f3_; subst f4_; subst f5_))
  refine hK.out _ _ ⟨(blk_cell BK168.out 0).trans rfl, (blk_cell BK168.out 1).trans rfl, (blk_cell BK169.out 0).trans rfl, (blk_cell BK169.out 1).trans rfl⟩ (fun hHeld => ?_)
  clear hK K
  refine norm_ (a' := ?_) ?_ ?_
  rotate_left
  ·show Act.put _ (some 15) _ = _
   simp only [Act.put, List.setIfInBounds_toArray, List.set_cons_zero, List.set_cons_succ, i64_w, i32_w]
   rfl
  refine one_ (i := 7) (N := some 18) #[true, true, true, true, true, true, true, true, false] rfl rfl (one_of HT_.out (by kernel_rfl)) (by decide) (fun K hK => ?_)
  refine goes_ Try.func31 (by kernel_rfl) rfl #[.slice Ao16 t171.length co16, .bool a0_1] (by rfl) rfl rfl (by (try simp only [List.map_toArray, List.map_cons, List.map_nil]); first | done | rfl | (simp only [List.length_drop, List.length_take]; rfl)) ?_
  with_reducible refine (trivetref01_norm.calls k (fun k_ => some k_ = (.slice Ao16 t171.length co16 : Value).ownBlock) _ _ t171 a0_1 t174 t177 _ ?side1 A5.out).mono ?_
  (case side1 => exact Kd.R_V (Kd.R_tight rfl (Kd.R_types (Kd.R_types (Kd.R_types (HO173.out) BK168.out (by decide)) BK169.out (by decide)) BK170.out (by decide))))
  rintro e w17 ⟨v175, rfl, ho0, hb⟩
  refine ⟨_, rfl, ?_⟩
  have HO176 := ka (Kd.V_lower (Kd.V_mono (ok' := fun k_ => (w.heap.size ≤ k_) ∧ k_ ≠ gb168 ∧ k_ ≠ gb169 ∧ k_ ≠ gb170) ho0 (fun k_ hk_ => ⟨Or.elim hk_ (fun hs_ => ((Kd.R_types (Kd.R_types (Kd.R_types (HO173.out) BK168.out (by decide)) BK169.out (by decide)) BK170.out (by decide)).1 k_ hs_.symm).1.1.1.1) (fun hn_ => (Nat.le_trans (below_size (kw HB.out)) hn_)), Or.elim hk_ (fun hs_ => ((Kd.R_types (Kd.R_types (Kd.R_types (HO173.out) BK168.out (by decide)) BK169.out (by decide)) BK170.out (by decide)).1 k_ hs_.symm).1.1.2) (fun hn_ => (Kd.freshB (g := gb168) (kz BK168.out) k_ hn_)), Or.elim hk_ (fun hs_ => ((Kd.R_types (Kd.R_types (Kd.R_types (HO173.out) BK168.out (by decide)) BK169.out (by decide)) BK170.out (by decide)).1 k_ hs_.symm).1.2) (fun hn_ => (Kd.freshB (g := gb169) (kz BK169.out) k_ hn_)), Or.elim hk_ (fun hs_ => ((Kd.R_types (Kd.R_types (Kd.R_types (HO173.out) BK168.out (by decide)) BK169.out (by decide)) BK170.out (by decide)).1 k_ hs_.symm).2) (fun hn_ => (Kd.freshB (g := gb170) (kz BK170.out) k_ hn_))⟩)) (below_size (kw HB.out)))
  replace HO173 := ka (Kd.R_below (kr HO173.out) hb)
  replace BK168 := ka (blk_below (g := gb168) (kz BK168.out) hb)
  replace BK169 := ka (blk_below (g := gb169) (kz BK169.out) hb)
  replace BK170 := ka (blk_below (g := gb170) (kz BK170.out) hb)
  replace HB := ka (below_step (kw HB.out) hb)
  (try clear hb)
  (try clear hb2)
  (try clear hk)
  (try clear hi)
  (try clear ho0)
  obtain ⟨Ao18, co18, eo18⟩ := Kd.V_slice HO176.out
  (first | subst eo18 | (injection eo18 with f1_ f2_ f3_; have f4_ := f1_.symm; have f5_ := f3_.symm; clear f1_ f2_ f3_; subst f4_; subst f5_))
  refine hK.out _ _ ⟨(blk_cell BK168.out 0).trans rfl, (blk_cell BK168.out 1).trans rfl, (blk_cell BK169.out 0).trans rfl, (blk_cell BK169.out 1).trans rfl⟩ (fun hHeld => ?_)
  clear hK K
  refine norm_ (a' := ?_) ?_ ?_
  rotate_left
  ·show Act.put _ (some 18) _ = _
   simp only [Act.put, List.setIfInBounds_toArray, List.set_cons_zero, List.set_cons_succ, i64_w, i32_w]
   rfl
  refine one_ (i := 8) (N := none) #[true, true, true, true, true, true, true, true, true] rfl rfl (one_of HT_.out (by kernel_rfl)) (by decide) (fun K hK => ?_)
  have hs19 : w17.cell? ⟨gb170, 0, none⟩ = some (.slice none 0 0) := (blk_cell BK170.out 0).trans rfl
  have hfs19 := blk_frozen BK170.out 0
  have hns19_0 := NB168_170.out
  have hns19_1 := NB169_170.out
  have hms19_0 := NB170_168.out
  have hms19_1 := NB170_169.out
  have hs20 : w17.cell? ⟨gb170, 1, none⟩ = some (.bool false) := (blk_cell BK170.out 1).trans rfl
  have hfs20 := blk_frozen BK170.out 1
  have hns20_0 := NB168_170.out
  have hns20_1 := NB169_170.out
  have hms20_0 := NB170_168.out
  have hms20_1 := NB170_169.out
  refine skip_ (w1 := ?_) (by rfl) rfl ?_ ?_
  rotate_left
  ·go_simp
   rfl
  refine hK.out _ _ ⟨((cell_far (p := ⟨gb170, _, none⟩) NB168_170.out _).trans (((cell_far (p := ⟨gb170, _, none⟩) NB168_170.out _).trans (hHeld.1)))), ((cell_far (p := ⟨gb170, _, none⟩) NB168_170.out _).trans (((cell_far (p := ⟨gb170, _, none⟩) NB168_170.out _).trans (hHeld.2.1)))), ((cell_far (p := ⟨gb170, _, none⟩) NB169_170.out _).trans (((cell_far (p := ⟨gb170, _, none⟩) NB169_170.out _).trans (hHeld.2.2.1)))), ((cell_far (p := ⟨gb170, _, none⟩) NB169_170.out _).trans (((cell_far (p := ⟨gb170, _, none⟩) NB169_170.out _).trans (hHeld.2.2.2))))⟩ (fun hHeld => ?_)
  clear hK K
  refine done_ (done_of HT_.out (by kernel_rfl)) ?_
  try go_wp2
  refine bodyPost_ret (results_cell_row rfl _ _ gb170 37 #[.slice Ao18 t174.length co18, .bool t177] (0, 0) _ rfl (by (with_reducible repeat (first | apply kb1 | apply kb2 | apply kb3 | apply blkPut2_1 | apply blkPut2_0)); exact BK170.out) Try.underlying37 rfl (by kernel_rfl)) rfl ?_
  exact ⟨_, by first | rfl | (simp [errW_none, errW_some] <;> rfl) | (simp [*, errW_none, errW_some] <;> rfl), by (with_reducible repeat (first | apply Kd.V_alloc | apply Kd.V_drewN | apply Kd.V_drew)); exact Kd.V_mono (Kd.V_far (p := ⟨gb170, 1, none⟩) (Kd.V_far (p := ⟨gb170, 0, none⟩) (Kd.V_mono HO176.out (fun k_ hk => (⟨hk, hk.2.2.2⟩ : _ ∧ k_ ≠ gb170))) (fun _ hk => hk.2) (.slice Ao18 t174.length co18)) (fun _ hk => hk.2) (.bool t177)) (fun _ hk => hk.1.1), by repeat (first | (with_reducible first | exact HB.out | apply kc1 | apply kc2 | apply kc3 | refine kc4 ?_ GE168.out | refine kc4 ?_ GE169.out | refine kc4 ?_ GE170.out) | exact HB.out)⟩
 ·rw [if_neg c3] at H
  have c3b0 : (a0_1 == a1_1) = false := by simpa using c3
  (try (have c3b1 : decide (a0_1 = a1_1) = false := by simpa using c3))
  (try (have c3b2 : (a0_1 == a1_1) = false := by simpa using c3))
  (try (have c3b3 : ¬ (a0_1 = a1_1) := by simpa using c3))
  clear c3
  replace H := Option.bind_eq_some_iff.mp H
  obtain ⟨t178, A210, H⟩ := H
  replace H : (if t178 = true then ((trivetref01_minus.f k l1_0 l0_0).bind fun t179 => ((trivetref01_norm.f k t179 a1_1).bind fun bt182 => (some (bt182.1, bt182.2)))) else ((trivetref01_minus.f k l0_0 l1_0).bind fun t186 => ((trivetref01_norm.f k t186 a0_1).bind fun bt189 => (some (bt189.1, bt189.2))))) = some (r1, r2) := H
  have A21 := ka A210
  clear A210
  by_cases c22 : t178 = true
  ·subst c22
   have H1 : ((trivetref01_minus.f k l1_0 l0_0).bind fun t179 => ((trivetref01_norm.f k t179 a1_1).bind fun bt182 => (some (bt182.1, bt182.2)))) = some (r1, r2) := by rw [if_pos rfl] at H; exact H
   clear H
   have H := H1
   clear H1
   replace H := Option.bind_eq_some_iff.mp H
   obtain ⟨t179, A230, H⟩ := H
   replace H : ((trivetref01_norm.f k t179 a1_1).bind fun bt182 => (some (bt182.1, bt182.2))) = some (r1, r2) := H
   have A23 := ka A230
   clear A230
   replace H := Option.bind_eq_some_iff.mp H
   obtain ⟨⟨t182, t185⟩, A240, H⟩ := H
   replace H : (some (t182, t185)) = some (r1, r2) := H
   have A24 := ka A240
   clear A240
   simp only [Option.some.injEq, Prod.mk.injEq] at H
   obtain ⟨rfl, rfl⟩ := H
   go_enter Try.func20, Try.ntmps20
   try go_wp2_with (first | ((with_reducible refine gate_dst (N := 2) rfl ?_); refine kx (N := 2) (cs := #[.slice A0_0 l0_0.length c0_0, .bool a0_1]) (t := 37) ?_; intro gb168 hg w25 hbox hb; have n0_ := ka (below_step (kw HB.out) hb); have n1_ := ka (hbox); have n2_ := ka ((by rw [hg]; exact (below_size (kw HB.out)) : w.heap.size ≤ gb168)); have n3_ := n2_; clear HB; have HB := n0_; have BK168 := n1_; have GW168 := n2_; have GE168 := n3_; clear n0_ n1_ n2_ n3_; clear hb hbox hg) | ((with_reducible refine gate_dst (N := 3) rfl ?_); refine kx (N := 3) (cs := #[.slice A1_0 l1_0.length c1_0, .bool a1_1]) (t := 37) ?_; intro gb169 hg w26 hbox hb; have n0_ := ka (blk_below (g := gb168) (kz BK168.out) hb); have n1_ := ka (below_step (kw HB.out) hb); have n2_ := ka (hbox); have n3_ := ka ((by rw [hg]; exact (below_size (kw HB.out)) : w.heap.size ≤ gb169)); have n4_ := n3_; have n5_ := ka ((by rw [hg]; exact Nat.ne_of_lt (blk_lt (g := gb168) (kz BK168.out)) : gb168 ≠ gb169)); have n6_ := ka n5_.out.symm; clear BK168; clear HB; have BK168 := n0_; have HB := n1_; have BK169 := n2_; have GW169 := n3_; have GE169 := n4_; have NB168_169 := n5_; have NB169_168 := n6_; clear n0_ n1_ n2_ n3_ n4_ n5_ n6_; clear hb hbox hg) | ((with_reducible refine gate_dst (N := 4) rfl ?_); refine kx (N := 4) (cs := #[.slice none 0 0, .bool false]) (t := 37) ?_; intro gb170 hg w27 hbox hb; have n0_ := ka (blk_below (g := gb168) (kz BK168.out) hb); have n1_ := ka (blk_below (g := gb169) (kz BK169.out) hb); have n2_ := ka (below_step (kw HB.out) hb); have n3_ := ka (hbox); have n4_ := ka ((by rw [hg]; exact (below_size (kw HB.out)) : w.heap.size ≤ gb170)); have n5_ := n4_; have n6_ := ka ((by rw [hg]; exact Nat.ne_of_lt (blk_lt (g := gb168) (kz BK168.out)) : gb168 ≠ gb170)); have n7_ := ka n6_.out.symm; have n8_ := ka ((by rw [hg]; exact Nat.ne_of_lt (blk_lt (g := gb169) (kz BK169.out)) : gb169 ≠ gb170)); have n9_ := ka n8_.out.symm; clear BK168; clear BK169; clear HB; have BK168 := n0_; have BK169 := n1_; have HB := n2_; have BK170 := n3_; have GW170 := n4_; have GE170 := n5_; have NB168_170 := n6_; have NB170_168 := n7_; have NB169_170 := n8_; have NB170_169 := n9_; clear n0_ n1_ n2_ n3_ n4_ n5_ n6_ n7_ n8_ n9_; clear hb hbox hg; have hnb28 := NB168_169.out; have hnc28 := NB169_168.out; have hnb29 := NB168_170.out; have hnc29 := NB170_168.out; have hcz30 := blkAll2 BK168.out; have hnb31 := NB169_170.out; have hnc31 := NB170_169.out; have hcz32 := blkAll2 BK169.out) | ((with_reducible refine gate_callee (f := 33) rfl ?_); refine kg (some 23) rfl rfl Try.func33 (by kernel_rfl) rfl #[.slice A0_0 l0_0.length c0_0, .slice A1_0 l1_0.length c1_0] rfl ?_; (with_reducible refine (trivetref01_less.calls k _ _ l0_0 _ _ l1_0 true _ ?side1 ?side2 ?side3 ?side4 A21.out).mono ?_); (case side1 => repeat (first | exact (Kd.C_below HR0_0.out HB.out) | (with_reducible refine Kd.C_alloc ?_ _) | (with_reducible refine Kd.C_drewN ?_ _) | (with_reducible refine Kd.C_drew ?_))); (case side2 => exact HC0_0.out); (case side3 => repeat (first | exact (Kd.C_below HR1_0.out HB.out) | (with_reducible refine Kd.C_alloc ?_ _) | (with_reducible refine Kd.C_drewN ?_ _) | (with_reducible refine Kd.C_drew ?_))); (case side4 => exact HC1_0.out); rintro e w' ⟨rfl, ⟨nd, rfl⟩⟩; refine ⟨_, rfl, ?_⟩; (try (rw [drewN_self w27]; generalize hq_ : World.drewN w27 _ = w27; replace BK168 : Aside0 (w27.heap[gb168]? = some (.cells #[.slice A0_0 l0_0.length c0_0, .bool a0_1] 37 (0, 0))) := ⟨by rw [← hq_]; exact (kz BK168.out)⟩; replace BK169 : Aside0 (w27.heap[gb169]? = some (.cells #[.slice A1_0 l1_0.length c1_0, .bool a1_1] 37 (0, 0))) := ⟨by rw [← hq_]; exact (kz BK169.out)⟩; replace BK170 : Aside0 (w27.heap[gb170]? = some (.cells #[.slice none 0 0, .bool false] 37 (0, 0))) := ⟨by rw [← hq_]; exact (kz BK170.out)⟩; replace HB : Aside0 (Below w.heap.size w w27) := ⟨by rw [← hq_]; exact (kw HB.out)⟩; clear hq_))))
   replace BK168 := ka (blk_drew BK168.out)
   replace BK169 := ka (blk_drew BK169.out)
   replace BK170 := ka (blk_drew BK170.out)
   replace HB := ka (below_drew1 HB.out)
   refine start_ (n := 9) (S := fun w' => w'.cell? ⟨gb169, 0, none⟩ = some (.slice A1_0 l1_0.length c1_0) ∧ w'.cell? ⟨gb169, 1, none⟩ = some (.bool a1_1) ∧ w'.cell? ⟨gb168, 0, none⟩ = some (.slice A0_0 l0_0.length c0_0) ∧ w'.cell? ⟨gb168, 1, none⟩ = some (.bool a0_1)) (ds := []) #[false, false, false, false, false, false, false, false, false] (by kernel_rfl) rfl rfl ⟨(blk_cell BK169.out 0).trans rfl, (blk_cell BK169.out 1).trans rfl, (blk_cell BK168.out 0).trans rfl, (blk_cell BK168.out 1).trans rfl⟩ (fun hHeld => ?_); refine with_tabW trivetref01_Add.tab5 trivetref01_Add.bits5 (fun HT_ HW_ => ?_)
   generalize w27.drew = w33 at BK168 BK169 BK170 HB hHeld ⊢
   refine pure_ (i := 0) (N := some 25) (v := ?_) (a' := ?_) #[true, false, false, false, false, false, false, false, false] rfl rfl (any_of HT_.out (by kernel_rfl)) (fun _ _ _ h => h) (Or.inl ⟨by rfl, ?_⟩) ?_ ?_
   rotate_left
   ·intro w'
    go_simp
    with_reducible rfl
   rotate_left
   ·simp only [Act.put, List.setIfInBounds_toArray, List.set_cons_zero, List.set_cons_succ, i64_w, i32_w]
    rfl
   refine pure_ (i := 2) (N := some 27) (v := ?_) (a' := ?_) #[true, false, true, false, false, false, false, false, false] rfl rfl (any_of HT_.out (by kernel_rfl)) (fun _ _ _ h => h) (Or.inl ⟨by rfl, ?_⟩) ?_ ?_
   rotate_left
   ·intro w'
    go_simp
    with_reducible rfl
   rotate_left
   ·simp only [Act.put, List.setIfInBounds_toArray, List.set_cons_zero, List.set_cons_succ, i64_w, i32_w]
    rfl
   refine pure_ (i := 5) (N := some 30) (v := ?_) (a' := ?_) #[true, false, true, false, false, true, false, false, false] rfl rfl (any_of HT_.out (by kernel_rfl)) (fun _ _ _ h => h) (Or.inl ⟨by rfl, ?_⟩) ?_ ?_
   rotate_left
   ·intro w'
    go_simp
    with_reducible rfl
   rotate_left
   ·simp only [Act.put, List.setIfInBounds_toArray, List.set_cons_zero, List.set_cons_succ, i64_w, i32_w]
    rfl
   refine take_ (i := 1) (N := some 26) (v := ?_) (a' := ?_) #[true, true, true, false, false, true, false, false, false] rfl rfl (take_ofW HT_.out HW_.out (by kernel_rfl)) (fun _ _ _ h => h) (Or.inl ⟨by rfl, ?_⟩) hHeld ?_ ?_
   rotate_left
   ·rintro w' ⟨s0, s1, s2, s3⟩
    go_simp
    with_reducible rfl
   rotate_left
   ·simp only [Act.put, List.setIfInBounds_toArray, List.set_cons_zero, List.set_cons_succ, i64_w, i32_w]
    rfl
   refine take_ (i := 3) (N := some 28) (v := ?_) (a' := ?_) #[true, true, true, true, false, true, false, false, false] rfl rfl (take_ofW HT_.out HW_.out (by kernel_rfl)) (fun _ _ _ h => h) (Or.inl ⟨by rfl, ?_⟩) hHeld ?_ ?_
   rotate_left
   ·rintro w' ⟨s0, s1, s2, s3⟩
    go_simp
    with_reducible rfl
   rotate_left
   ·simp only [Act.put, List.setIfInBounds_toArray, List.set_cons_zero, List.set_cons_succ, i64_w, i32_w]
    rfl
   refine take_ (i := 6) (N := some 31) (v := ?_) (a' := ?_) #[true, true, true, true, false, true, true, false, false] rfl rfl (take_ofW HT_.out HW_.out (by kernel_rfl)) (fun _ _ _ h => h) (Or.inl ⟨by rfl, ?_⟩) hHeld ?_ ?_
   rotate_left
   ·rintro w' ⟨s0, s1, s2, s3⟩
    go_simp
    with_reducible rfl
   rotate_left
   ·simp only [Act.put, List.setIfInBounds_toArray, List.set_cons_zero, List.set_cons_succ, i64_w, i32_w]
    rfl
   refine one_ (i := 4) (N := some 29) #[true, true, true, true, true, true, true, false, false] rfl rfl (one_of HT_.out (by kernel_rfl)) (by decide) (fun K hK => ?_)
   refine goes_ Try.func34 (by kernel_rfl) rfl #[.slice A1_0 l1_0.length c1_0, .slice A0_0 l0_0.length c0_0] (by rfl) rfl rfl (by (try simp only [List.map_toArray, List.map_cons, List.map_nil]); first | done | rfl | (simp only [List.length_drop, List.length_take]; rfl)) ?_
   with_reducible refine (trivetref01_minus.calls k _ _ l1_0 _ _ l0_0 t179 _ ?side1 ?side2 ?side3 ?side4 A23.out).mono ?_
   (case side1 => repeat (first | exact (Kd.C_below HR1_0.out HB.out) | (with_reducible refine Kd.C_alloc ?_ _) | (with_reducible refine Kd.C_drewN ?_ _) | (with_reducible refine Kd.C_drew ?_)))
   (case side2 => exact HC1_0.out)
   (case side3 => repeat (first | exact (Kd.C_below HR0_0.out HB.out) | (with_reducible refine Kd.C_alloc ?_ _) | (with_reducible refine Kd.C_drewN ?_ _) | (with_reducible refine Kd.C_drew ?_)))
   (case side4 => exact HC0_0.out)
   rintro e w34 ⟨v180, rfl, ho0, hb⟩
   refine ⟨_, rfl, ?_⟩
   have HO181 := ka (Kd.V_lower (Kd.V_mono (ok' := fun k_ => (w.heap.size ≤ k_) ∧ k_ ≠ gb168 ∧ k_ ≠ gb169 ∧ k_ ≠ gb170) ho0 (fun k_ hk_ => ⟨(Nat.le_trans (below_size (kw HB.out)) hk_), (Kd.freshB (g := gb168) (kz BK168.out) k_ hk_), (Kd.freshB (g := gb169) (kz BK169.out) k_ hk_), (Kd.freshB (g := gb170) (kz BK170.out) k_ hk_)⟩)) (below_size (kw HB.out)))
   replace BK168 := ka (blk_below (g := gb168) (kz BK168.out) hb)
   replace BK169 := ka (blk_below (g := gb169) (kz BK169.out) hb)
   replace BK170 := ka (blk_below (g := gb170) (kz BK170.out) hb)
   replace HB := ka (below_step (kw HB.out) hb)
   (try clear hb)
   (try clear hb2)
   (try clear hk)
   (try clear hi)
   (try clear ho0)
   obtain ⟨Ao35, co35, eo35⟩ := Kd.V_slice HO181.out
   (first | subst eo35 | (injection eo35 with f1_ f2_ f3_; have f4_ := f1_.symm; have f5_ := f3_.symm; clear f1_ f2_ f3_; subst f4_; subst f5_))
   refine hK.out _ _ ⟨(blk_cell BK169.out 0).trans rfl, (blk_cell BK169.out 1).trans rfl, (blk_cell BK168.out 0).trans rfl, (blk_cell BK168.out 1).trans rfl⟩ (fun hHeld => ?_)
   clear hK K
   refine norm_ (a' := ?_) ?_ ?_
   rotate_left
   ·show Act.put _ (some 29) _ = _
    simp only [Act.put, List.setIfInBounds_toArray, List.set_cons_zero, List.set_cons_succ, i64_w, i32_w]
    rfl
   refine one_ (i := 7) (N := some 32) #[true, true, true, true, true, true, true, true, false] rfl rfl (one_of HT_.out (by kernel_rfl)) (by decide) (fun K hK => ?_)
   refine goes_ Try.func31 (by kernel_rfl) rfl #[.slice Ao35 t179.length co35, .bool a1_1] (by rfl) rfl rfl (by (try simp only [List.map_toArray, List.map_cons, List.map_nil]); first | done | rfl | (simp only [List.length_drop, List.length_take]; rfl)) ?_
   with_reducible refine (trivetref01_norm.calls k (fun k_ => ((w.heap.size ≤ k_) ∧ (k_ ≠ gb168 ∧ (k_ ≠ gb169 ∧ k_ ≠ gb170)))) _ _ t179 a1_1 t182 t185 _ ?side1 A24.out).mono ?_
   (case side1 => exact HO181.out)
   rintro e w36 ⟨v183, rfl, ho0, hb⟩
   refine ⟨_, rfl, ?_⟩
   replace HO181 := ka (Kd.V_below (kv HO181.out) hb)
   have HO184 := ka (Kd.V_lower (Kd.V_mono (ok' := fun k_ => (w.heap.size ≤ k_) ∧ k_ ≠ gb168 ∧ k_ ≠ gb169 ∧ k_ ≠ gb170) ho0 (fun k_ hk_ => ⟨Or.elim hk_ (fun hs_ => hs_.1) (fun hn_ => (Nat.le_trans (below_size (kw HB.out)) hn_)), Or.elim hk_ (fun hs_ => hs_.2.1) (fun hn_ => (Kd.freshB (g := gb168) (kz BK168.out) k_ hn_)), Or.elim hk_ (fun hs_ => hs_.2.2.1) (fun hn_ => (Kd.freshB (g := gb169) (kz BK169.out) k_ hn_)), Or.elim hk_ (fun hs_ => hs_.2.2.2) (fun hn_ => (Kd.freshB (g := gb170) (kz BK170.out) k_ hn_))⟩)) (below_size (kw HB.out)))
   replace BK168 := ka (blk_below (g := gb168) (kz BK168.out) hb)
   replace BK169 := ka (blk_below (g := gb169) (kz BK169.out) hb)
   replace BK170 := ka (blk_below (g := gb170) (kz BK170.out) hb)
   replace HB := ka (below_step (kw HB.out) hb)
   (try clear hb)
   (try clear hb2)
   (try clear hk)
   (try clear hi)
   (try clear ho0)
   obtain ⟨Ao37, co37, eo37⟩ := Kd.V_slice HO184.out
   (first | subst eo37 | (injection eo37 with f1_ f2_ f3_; have f4_ := f1_.symm; have f5_ := f3_.symm; clear f1_ f2_ f3_; subst f4_; subst f5_))
   refine hK.out _ _ ⟨(blk_cell BK169.out 0).trans rfl, (blk_cell BK169.out 1).trans rfl, (blk_cell BK168.out 0).trans rfl, (blk_cell BK168.out 1).trans rfl⟩ (fun hHeld => ?_)
   clear hK K
   refine norm_ (a' := ?_) ?_ ?_
   rotate_left
   ·show Act.put _ (some 32) _ = _
    simp only [Act.put, List.setIfInBounds_toArray, List.set_cons_zero, List.set_cons_succ, i64_w, i32_w]
    rfl
   refine one_ (i := 8) (N := none) #[true, true, true, true, true, true, true, true, true] rfl rfl (one_of HT_.out (by kernel_rfl)) (by decide) (fun K hK => ?_)
   have hs38 : w36.cell? ⟨gb170, 0, none⟩ = some (.slice none 0 0) := (blk_cell BK170.out 0).trans rfl
   have hfs38 := blk_frozen BK170.out 0
   have hns38_0 := NB168_170.out
   have hns38_1 := NB169_170.out
   have hms38_0 := NB170_168.out
   have hms38_1 := NB170_169.out
   have hs39 : w36.cell? ⟨gb170, 1, none⟩ = some (.bool false) := (blk_cell BK170.out 1).trans rfl
   have hfs39 := blk_frozen BK170.out 1
   have hns39_0 := NB168_170.out
   have hns39_1 := NB169_170.out
   have hms39_0 := NB170_168.out
   have hms39_1 := NB170_169.out
   refine skip_ (w1 := ?_) (by rfl) rfl ?_ ?_
   rotate_left
   ·go_simp
    rfl
   refine hK.out _ _ ⟨((cell_far (p := ⟨gb170, _, none⟩) NB169_170.out _).trans (((cell_far (p := ⟨gb170, _, none⟩) NB169_170.out _).trans (hHeld.1)))), ((cell_far (p := ⟨gb170, _, none⟩) NB169_170.out _).trans (((cell_far (p := ⟨gb170, _, none⟩) NB169_170.out _).trans (hHeld.2.1)))), ((cell_far (p := ⟨gb170, _, none⟩) NB168_170.out _).trans (((cell_far (p := ⟨gb170, _, none⟩) NB168_170.out _).trans (hHeld.2.2.1)))), ((cell_far (p := ⟨gb170, _, none⟩) NB168_170.out _).trans (((cell_far (p := ⟨gb170, _, none⟩) NB168_170.out _).trans (hHeld.2.2.2))))⟩ (fun hHeld => ?_)
   clear hK K
   refine done_ (done_of HT_.out (by kernel_rfl)) ?_
   try go_wp2
   refine bodyPost_ret (results_cell_row rfl _ _ gb170 37 #[.slice Ao37 t182.length co37, .bool t185] (0, 0) _ rfl (by (with_reducible repeat (first | apply kb1 | apply kb2 | apply kb3 | apply blkPut2_1 | apply blkPut2_0)); exact BK170.out) Try.underlying37 rfl (by kernel_rfl)) rfl ?_
   exact ⟨_, by first | rfl | (simp [errW_none, errW_some] <;> rfl) | (simp [*, errW_none, errW_some] <;> rfl), by (with_reducible repeat (first | apply Kd.V_alloc | apply Kd.V_drewN | apply Kd.V_drew)); exact Kd.V_mono (Kd.V_far (p := ⟨gb170, 1, none⟩) (Kd.V_far (p := ⟨gb170, 0, none⟩) (Kd.V_mono HO184.out (fun k_ hk => (⟨hk, hk.2.2.2⟩ : _ ∧ k_ ≠ gb170))) (fun _ hk => hk.2) (.slice Ao37 t182.length co37)) (fun _ hk => hk.2) (.bool t185)) (fun _ hk => hk.1.1), by repeat (first | (with_reducible first | exact HB.out | apply kc1 | apply kc2 | apply kc3 | refine kc4 ?_ GE168.out | refine kc4 ?_ GE169.out | refine kc4 ?_ GE170.out) | exact HB.out)⟩
  ·replace c22 := Bool.eq_false_iff.mpr c22
   subst c22
   have H1 : ((trivetref01_minus.f k l0_0 l1_0).bind fun t186 => ((trivetref01_norm.f k t186 a0_1).bind fun bt189 => (some (bt189.1, bt189.2)))) = some (r1, r2) := by rw [if_neg (show ¬ (false = true) by decide)] at H; exact H
   clear H
   have H := H1
   clear H1
   replace H := Option.bind_eq_some_iff.mp H
   obtain ⟨t186, A400, H⟩ := H
   replace H : ((trivetref01_norm.f k t186 a0_1).bind fun bt189 => (some (bt189.1, bt189.2))) = some (r1, r2) := H
   have A40 := ka A400
   clear A400
   replace H := Option.bind_eq_some_iff.mp H
   obtain ⟨⟨t189, t192⟩, A410, H⟩ := H
   replace H : (some (t189, t192)) = some (r1, r2) := H
   have A41 := ka A410
   clear A410
   simp only [Option.some.injEq, Prod.mk.injEq] at H
   obtain ⟨rfl, rfl⟩ := H
   go_enter Try.func20, Try.ntmps20
   try go_wp2_with (first | ((with_reducible refine gate_dst (N := 2) rfl ?_); refine kx (N := 2) (cs := #[.slice A0_0 l0_0.length c0_0, .bool a0_1]) (t := 37) ?_; intro gb168 hg w42 hbox hb; have n0_ := ka (below_step (kw HB.out) hb); have n1_ := ka (hbox); have n2_ := ka ((by rw [hg]; exact (below_size (kw HB.out)) : w.heap.size ≤ gb168)); have n3_ := n2_; clear HB; have HB := n0_; have BK168 := n1_; have GW168 := n2_; have GE168 := n3_; clear n0_ n1_ n2_ n3_; clear hb hbox hg) | ((with_reducible refine gate_dst (N := 3) rfl ?_); refine kx (N := 3) (cs := #[.slice A1_0 l1_0.length c1_0, .bool a1_1]) (t := 37) ?_; intro gb169 hg w43 hbox hb; have n0_ := ka (blk_below (g := gb168) (kz BK168.out) hb); have n1_ := ka (below_step (kw HB.out) hb); have n2_ := ka (hbox); have n3_ := ka ((by rw [hg]; exact (below_size (kw HB.out)) : w.heap.size ≤ gb169)); have n4_ := n3_; have n5_ := ka ((by rw [hg]; exact Nat.ne_of_lt (blk_lt (g := gb168) (kz BK168.out)) : gb168 ≠ gb169)); have n6_ := ka n5_.out.symm; clear BK168; clear HB; have BK168 := n0_; have HB := n1_; have BK169 := n2_; have GW169 := n3_; have GE169 := n4_; have NB168_169 := n5_; have NB169_168 := n6_; clear n0_ n1_ n2_ n3_ n4_ n5_ n6_; clear hb hbox hg) | ((with_reducible refine gate_dst (N := 4) rfl ?_); refine kx (N := 4) (cs := #[.slice none 0 0, .bool false]) (t := 37) ?_; intro gb170 hg w44 hbox hb; have n0_ := ka (blk_below (g := gb168) (kz BK168.out) hb); have n1_ := ka (blk_below (g := gb169) (kz BK169.out) hb); have n2_ := ka (below_step (kw HB.out) hb); have n3_ := ka (hbox); have n4_ := ka ((by rw [hg]; exact (below_size (kw HB.out)) : w.heap.size ≤ gb170)); have n5_ := n4_; have n6_ := ka ((by rw [hg]; exact Nat.ne_of_lt (blk_lt (g := gb168) (kz BK168.out)) : gb168 ≠ gb170)); have n7_ := ka n6_.out.symm; have n8_ := ka ((by rw [hg]; exact Nat.ne_of_lt (blk_lt (g := gb169) (kz BK169.out)) : gb169 ≠ gb170)); have n9_ := ka n8_.out.symm; clear BK168; clear BK169; clear HB; have BK168 := n0_; have BK169 := n1_; have HB := n2_; have BK170 := n3_; have GW170 := n4_; have GE170 := n5_; have NB168_170 := n6_; have NB170_168 := n7_; have NB169_170 := n8_; have NB170_169 := n9_; clear n0_ n1_ n2_ n3_ n4_ n5_ n6_ n7_ n8_ n9_; clear hb hbox hg; have hnb45 := NB168_169.out; have hnc45 := NB169_168.out; have hnb46 := NB168_170.out; have hnc46 := NB170_168.out; have hcz47 := blkAll2 BK168.out; have hnb48 := NB169_170.out; have hnc48 := NB170_169.out; have hcz49 := blkAll2 BK169.out) | ((with_reducible refine gate_callee (f := 33) rfl ?_); refine kg (some 23) rfl rfl Try.func33 (by kernel_rfl) rfl #[.slice A0_0 l0_0.length c0_0, .slice A1_0 l1_0.length c1_0] rfl ?_; (with_reducible refine (trivetref01_less.calls k _ _ l0_0 _ _ l1_0 false _ ?side1 ?side2 ?side3 ?side4 A21.out).mono ?_); (case side1 => repeat (first | exact (Kd.C_below HR0_0.out HB.out) | (with_reducible refine Kd.C_alloc ?_ _) | (with_reducible refine Kd.C_drewN ?_ _) | (with_reducible refine Kd.C_drew ?_))); (case side2 => exact HC0_0.out); (case side3 => repeat (first | exact (Kd.C_below HR1_0.out HB.out) | (with_reducible refine Kd.C_alloc ?_ _) | (with_reducible refine Kd.C_drewN ?_ _) | (with_reducible refine Kd.C_drew ?_))); (case side4 => exact HC1_0.out); rintro e w' ⟨rfl, ⟨nd, rfl⟩⟩; refine ⟨_, rfl, ?_⟩; (try (rw [drewN_self w44]; generalize hq_ : World.drewN w44 _ = w44; replace BK168 : Aside0 (w44.heap[gb168]? = some (.cells #[.slice A0_0 l0_0.length c0_0, .bool a0_1] 37 (0, 0))) := ⟨by rw [← hq_]; exact (kz BK168.out)⟩; replace BK169 : Aside0 (w44.heap[gb169]? = some (.cells #[.slice A1_0 l1_0.length c1_0, .bool a1_1] 37 (0, 0))) := ⟨by rw [← hq_]; exact (kz BK169.out)⟩; replace BK170 : Aside0 (w44.heap[gb170]? = some (.cells #[.slice none 0 0, .bool false] 37 (0, 0))) := ⟨by rw [← hq_]; exact (kz BK170.out)⟩; replace HB : Aside0 (Below w.heap.size w w44) := ⟨by rw [← hq_]; exact (kw HB.out)⟩; clear hq_))))
   replace BK168 := ka (blk_drew BK168.out)
   replace BK169 := ka (blk_drew BK169.out)
   replace BK170 := ka (blk_drew BK170.out)
   replace HB := ka (below_drew1 HB.out)
   refine start_ (n := 9) (S := fun w' => w'.cell? ⟨gb168, 0, none⟩ = some (.slice A0_0 l0_0.length c0_0) ∧ w'.cell? ⟨gb168, 1, none⟩ = some (.bool a0_1) ∧ w'.cell? ⟨gb169, 0, none⟩ = some (.slice A1_0 l1_0.length c1_0) ∧ w'.cell? ⟨gb169, 1, none⟩ = some (.bool a1_1)) (ds := []) #[false, false, false, false, false, false, false, false, false] (by kernel_rfl) rfl rfl ⟨(blk_cell BK168.out 0).trans rfl, (blk_cell BK168.out 1).trans rfl, (blk_cell BK169.out 0).trans rfl, (blk_cell BK169.out 1).trans rfl⟩ (fun hHeld => ?_); refine with_tabW trivetref01_Add.tab6 trivetref01_Add.bits6 (fun HT_ HW_ => ?_)
   generalize w44.drew = w50 at BK168 BK169 BK170 HB hHeld ⊢
   refine pure_ (i := 0) (N := some 33) (v := ?_) (a' := ?_) #[true, false, false, false, false, false, false, false, false] rfl rfl (any_of HT_.out (by kernel_rfl)) (fun _ _ _ h => h) (Or.inl ⟨by rfl, ?_⟩) ?_ ?_
   rotate_left
   ·intro w'
    go_simp
    with_reducible rfl
   rotate_left
   ·simp only [Act.put, List.setIfInBounds_toArray, List.set_cons_zero, List.set_cons_succ, i64_w, i32_w]
    rfl
   refine pure_ (i := 2) (N := some 35) (v := ?_) (a' := ?_) #[true, false, true, false, false, false, false, false, false] rfl rfl (any_of HT_.out (by kernel_rfl)) (fun _ _ _ h => h) (Or.inl ⟨by rfl, ?_⟩) ?_ ?_
   rotate_left
   ·intro w'
    go_simp
    with_reducible rfl
   rotate_left
   ·simp only [Act.put, List.setIfInBounds_toArray, List.set_cons_zero, List.set_cons_succ, i64_w, i32_w]
    rfl
   refine pure_ (i := 5) (N := some 38) (v := ?_) (a' := ?_) #[true, false, true, false, false, true, false, false, false] rfl rfl (any_of HT_.out (by kernel_rfl)) (fun _ _ _ h => h) (Or.inl ⟨by rfl, ?_⟩) ?_ ?_
   rotate_left
   ·intro w'
    go_simp
    with_reducible rfl
   rotate_left
   ·simp only [Act.put, List.setIfInBounds_toArray, List.set_cons_zero, List.set_cons_succ, i64_w, i32_w]
    rfl
   refine take_ (i := 1) (N := some 34) (v := ?_) (a' := ?_) #[true, true, true, false, false, true, false, false, false] rfl rfl (take_ofW HT_.out HW_.out (by kernel_rfl)) (fun _ _ _ h => h) (Or.inl ⟨by rfl, ?_⟩) hHeld ?_ ?_
   rotate_left
   ·rintro w' ⟨s0, s1, s2, s3⟩
    go_simp
    with_reducible rfl
   rotate_left
   ·simp only [Act.put, List.setIfInBounds_toArray, List.set_cons_zero, List.set_cons_succ, i64_w, i32_w]
    rfl
   refine take_ (i := 3) (N := some 36) (v := ?_) (a' := ?_) #[true, true, true, true, false, true, false, false, false] rfl rfl (take_ofW HT_.out HW_.out (by kernel_rfl)) (fun _ _ _ h => h) (Or.inl ⟨by rfl, ?_⟩) hHeld ?_ ?_
   rotate_left
   ·rintro w' ⟨s0, s1, s2, s3⟩
    go_simp
    with_reducible rfl
   rotate_left
   ·simp only [Act.put, List.setIfInBounds_toArray, List.set_cons_zero, List.set_cons_succ, i64_w, i32_w]
    rfl
   refine take_ (i := 6) (N := some 39) (v := ?_) (a' := ?_) #[true, true, true, true, false, true, true, false, false] rfl rfl (take_ofW HT_.out HW_.out (by kernel_rfl)) (fun _ _ _ h => h) (Or.inl ⟨by rfl, ?_⟩) hHeld ?_ ?_
   rotate_left
   ·rintro w' ⟨s0, s1, s2, s3⟩
    go_simp
    with_reducible rfl
   rotate_left
   ·simp only [Act.put, List.setIfInBounds_toArray, List.set_cons_zero, List.set_cons_succ, i64_w, i32_w]
    rfl
   refine one_ (i := 4) (N := some 37) #[true, true, true, true, true, true, true, false, false] rfl rfl (one_of HT_.out (by kernel_rfl)) (by decide) (fun K hK => ?_)
   refine goes_ Try.func34 (by kernel_rfl) rfl #[.slice A0_0 l0_0.length c0_0, .slice A1_0 l1_0.length c1_0] (by rfl) rfl rfl (by (try simp only [List.map_toArray, List.map_cons, List.map_nil]); first | done | rfl | (simp only [List.length_drop, List.length_take]; rfl)) ?_
   with_reducible refine (trivetref01_minus.calls k _ _ l0_0 _ _ l1_0 t186 _ ?side1 ?side2 ?side3 ?side4 A40.out).mono ?_
   (case side1 => repeat (first | exact (Kd.C_below HR0_0.out HB.out) | (with_reducible refine Kd.C_alloc ?_ _) | (with_reducible refine Kd.C_drewN ?_ _) | (with_reducible refine Kd.C_drew ?_)))
   (case side2 => exact HC0_0.out)
   (case side3 => repeat (first | exact (Kd.C_below HR1_0.out HB.out) | (with_reducible refine Kd.C_alloc ?_ _) | (with_reducible refine Kd.C_drewN ?_ _) | (with_reducible refine Kd.C_drew ?_)))
   (case side4 => exact HC1_0.out)
   rintro e w51 ⟨v187, rfl, ho0, hb⟩
   refine ⟨_, rfl, ?_⟩
   have HO188 := ka (Kd.V_lower (Kd.V_mono (ok' := fun k_ => (w.heap.size ≤ k_) ∧ k_ ≠ gb168 ∧ k_ ≠ gb169 ∧ k_ ≠ gb170) ho0 (fun k_ hk_ => ⟨(Nat.le_trans (below_size (kw HB.out)) hk_), (Kd.freshB (g := gb168) (kz BK168.out) k_ hk_), (Kd.freshB (g := gb169) (kz BK169.out) k_ hk_), (Kd.freshB (g := gb170) (kz BK170.out) k_ hk_)⟩)) (below_size (kw HB.out)))
   replace BK168 := ka (blk_below (g := gb168) (kz BK168.out) hb)
   replace BK169 := ka (blk_below (g := gb169) (kz BK169.out) hb)
   replace BK170 := ka (blk_below (g := gb170) (kz BK170.out) hb)
   replace HB := ka (below_step (kw HB.out) hb)
   (try clear hb)
   (try clear hb2)
   (try clear hk)
   (try clear hi)
   (try clear ho0)
   obtain ⟨Ao52, co52, eo52⟩ := Kd.V_slice HO188.out
   (first | subst eo52 | (injection eo52 with f1_ f2_ f3_; have f4_ := f1_.symm; have f5_ := f3_.symm; clear f1_ f2_ f3_; subst f4_; subst f5_))
   refine hK.out _ _ ⟨(blk_cell BK168.out 0).trans rfl, (blk_cell BK168.out 1).trans rfl, (blk_cell BK169.out 0).trans rfl, (blk_cell BK169.out 1).trans rfl⟩ (fun hHeld => ?_)
   clear hK K
   refine norm_ (a' := ?_) ?_ ?_
   rotate_left
   ·show Act.put _ (some 37) _ = _
    simp only [Act.put, List.setIfInBounds_toArray, List.set_cons_zero, List.set_cons_succ, i64_w, i32_w]
    rfl
   refine one_ (i := 7) (N := some 40) #[true, true, true, true, true, true, true, true, false] rfl rfl (one_of HT_.out (by kernel_rfl)) (by decide) (fun K hK => ?_)
   refine goes_ Try.func31 (by kernel_rfl) rfl #[.slice Ao52 t186.length co52, .bool a0_1] (by rfl) rfl rfl (by (try simp only [List.map_toArray, List.map_cons, List.map_nil]); first | done | rfl | (simp only [List.length_drop, List.length_take]; rfl)) ?_
   with_reducible refine (trivetref01_norm.calls k (fun k_ => ((w.heap.size ≤ k_) ∧ (k_ ≠ gb168 ∧ (k_ ≠ gb169 ∧ k_ ≠ gb170)))) _ _ t186 a0_1 t189 t192 _ ?side1 A41.out).mono ?_
   (case side1 => exact HO188.out)
   rintro e w53 ⟨v190, rfl, ho0, hb⟩
   refine ⟨_, rfl, ?_⟩
   replace HO188 := ka (Kd.V_below (kv HO188.out) hb)
   have HO191 := ka (Kd.V_lower (Kd.V_mono (ok' := fun k_ => (w.heap.size ≤ k_) ∧ k_ ≠ gb168 ∧ k_ ≠ gb169 ∧ k_ ≠ gb170) ho0 (fun k_ hk_ => ⟨Or.elim hk_ (fun hs_ => hs_.1) (fun hn_ => (Nat.le_trans (below_size (kw HB.out)) hn_)), Or.elim hk_ (fun hs_ => hs_.2.1) (fun hn_ => (Kd.freshB (g := gb168) (kz BK168.out) k_ hn_)), Or.elim hk_ (fun hs_ => hs_.2.2.1) (fun hn_ => (Kd.freshB (g := gb169) (kz BK169.out) k_ hn_)), Or.elim hk_ (fun hs_ => hs_.2.2.2) (fun hn_ => (Kd.freshB (g := gb170) (kz BK170.out) k_ hn_))⟩)) (below_size (kw HB.out)))
   replace BK168 := ka (blk_below (g := gb168) (kz BK168.out) hb)
   replace BK169 := ka (blk_below (g := gb169) (kz BK169.out) hb)
   replace BK170 := ka (blk_below (g := gb170) (kz BK170.out) hb)
   replace HB := ka (below_step (kw HB.out) hb)
   (try clear hb)
   (try clear hb2)
   (try clear hk)
   (try clear hi)
   (try clear ho0)
   obtain ⟨Ao54, co54, eo54⟩ := Kd.V_slice HO191.out
   (first | subst eo54 | (injection eo54 with f1_ f2_ f3_; have f4_ := f1_.symm; have f5_ := f3_.symm; clear f1_ f2_ f3_; subst f4_; subst f5_))
   refine hK.out _ _ ⟨(blk_cell BK168.out 0).trans rfl, (blk_cell BK168.out 1).trans rfl, (blk_cell BK169.out 0).trans rfl, (blk_cell BK169.out 1).trans rfl⟩ (fun hHeld => ?_)
   clear hK K
   refine norm_ (a' := ?_) ?_ ?_
   rotate_left
   ·show Act.put _ (some 40) _ = _
    simp only [Act.put, List.setIfInBounds_toArray, List.set_cons_zero, List.set_cons_succ, i64_w, i32_w]
    rfl
   refine one_ (i := 8) (N := none) #[true, true, true, true, true, true, true, true, true] rfl rfl (one_of HT_.out (by kernel_rfl)) (by decide) (fun K hK => ?_)
   have hs55 : w53.cell? ⟨gb170, 0, none⟩ = some (.slice none 0 0) := (blk_cell BK170.out 0).trans rfl
   have hfs55 := blk_frozen BK170.out 0
   have hns55_0 := NB168_170.out
   have hns55_1 := NB169_170.out
   have hms55_0 := NB170_168.out
   have hms55_1 := NB170_169.out
   have hs56 : w53.cell? ⟨gb170, 1, none⟩ = some (.bool false) := (blk_cell BK170.out 1).trans rfl
   have hfs56 := blk_frozen BK170.out 1
   have hns56_0 := NB168_170.out
   have hns56_1 := NB169_170.out
   have hms56_0 := NB170_168.out
   have hms56_1 := NB170_169.out
   refine skip_ (w1 := ?_) (by rfl) rfl ?_ ?_
   rotate_left
   ·go_simp
    rfl
   refine hK.out _ _ ⟨((cell_far (p := ⟨gb170, _, none⟩) NB168_170.out _).trans (((cell_far (p := ⟨gb170, _, none⟩) NB168_170.out _).trans (hHeld.1)))), ((cell_far (p := ⟨gb170, _, none⟩) NB168_170.out _).trans (((cell_far (p := ⟨gb170, _, none⟩) NB168_170.out _).trans (hHeld.2.1)))), ((cell_far (p := ⟨gb170, _, none⟩) NB169_170.out _).trans (((cell_far (p := ⟨gb170, _, none⟩) NB169_170.out _).trans (hHeld.2.2.1)))), ((cell_far (p := ⟨gb170, _, none⟩) NB169_170.out _).trans (((cell_far (p := ⟨gb170, _, none⟩) NB169_170.out _).trans (hHeld.2.2.2))))⟩ (fun hHeld => ?_)
   clear hK K
   refine done_ (done_of HT_.out (by kernel_rfl)) ?_
   try go_wp2
   refine bodyPost_ret (results_cell_row rfl _ _ gb170 37 #[.slice Ao54 t189.length co54, .bool t192] (0, 0) _ rfl (by (with_reducible repeat (first | apply kb1 | apply kb2 | apply kb3 | apply blkPut2_1 | apply blkPut2_0)); exact BK170.out) Try.underlying37 rfl (by kernel_rfl)) rfl ?_
   exact ⟨_, by first | rfl | (simp [errW_none, errW_some] <;> rfl) | (simp [*, errW_none, errW_some] <;> rfl), by (with_reducible repeat (first | apply Kd.V_alloc | apply Kd.V_drewN | apply Kd.V_drew)); exact Kd.V_mono (Kd.V_far (p := ⟨gb170, 1, none⟩) (Kd.V_far (p := ⟨gb170, 0, none⟩) (Kd.V_mono HO191.out (fun k_ hk => (⟨hk, hk.2.2.2⟩ : _ ∧ k_ ≠ gb170))) (fun _ hk => hk.2) (.slice Ao54 t189.length co54)) (fun _ hk => hk.2) (.bool t192)) (fun _ hk => hk.1.1), by repeat (first | (with_reducible first | exact HB.out | apply kc1 | apply kc2 | apply kc3 | refine kc4 ?_ GE168.out | refine kc4 ?_ GE169.out | refine kc4 ?_ GE170.out) | exact HB.out)⟩

/-! ### trivetref01_Add: function 20, its laws -/
theorem trivetref01_Add.num (k : Nat) (x y : Int) (hx : M.abs x < 65536 ^ 64) (hy : M.abs y < 65536 ^ 64) (hk : 300 ≤ k) : trivetref01_Add.f k (U.num x).1 (U.num x).2 (U.num y).1 (U.num y).2 = some (U.num (x + y)) := by
 have lx := U.len_dig 64 _ hx
 have ly := U.len_dig 64 _ hy
 have x0 := U.abs_nonneg x
 have y0 := U.abs_nonneg y
 have vx := U.val_dig x0
 have vy := U.val_dig y0
 have a1 : M.abs x = if x < 0 then -x else x := rfl
 have a2 : M.abs y = if y < 0 then -y else y := rfl
 show trivetref01_Add.f k (U.dig (M.abs x)) (decide (x < 0)) (U.dig (M.abs y)) (decide (y < 0)) = _
 unfold trivetref01_Add.f
 by_cases h : (decide (x < 0) == decide (y < 0)) = true
 ·rw [if_pos h]
  obtain ⟨out, o1, o2, o3, o4⟩ := trivetref01_plus.num k (U.dig (M.abs x)) (U.dig (M.abs y)) (U.dig_dg _) (U.dig_dg _) (by omega) (by omega) (by omega)
  rw [o1, Option.bind_some, trivetref01_norm.num k out (decide (x < 0)) (x + y) o2 (by omega) (by omega)]
  ·rfl
  ·rw [o3, vx, vy, a1, a2]
   by_cases c : x < 0
   ·have c2 : y < 0 := by simpa [c] using h
    simp only [decide_eq_true c, if_true, if_pos c, if_pos c2]; omega
   ·have c2 : ¬ y < 0 := by simpa [c] using h
    simp only [decide_eq_false c, if_neg c, if_neg c2]; simp
 ·rw [if_neg h, trivetref01_less.num k _ _ x0 y0 (by omega) (by omega) (by omega), Option.bind_some]
  have hs : (x < 0 ∧ ¬ y < 0) ∨ (¬ x < 0 ∧ y < 0) := by
   by_cases c : x < 0 <;> by_cases c2 : y < 0 <;> simp [c, c2] at h ⊢
  by_cases hl : M.abs x < M.abs y
  ·rw [decide_eq_true hl, if_pos rfl, trivetref01_minus.num k _ _ x0 (by omega) (by omega) (by omega), Option.bind_some, trivetref01_norm.num k _ (decide (y < 0)) (x + y) (U.dig_dg _)]
   ·rfl
   ·have := U.len_dig 64 (M.abs y - M.abs x) (by omega); omega
   ·have := U.len_dig 64 (M.abs y - M.abs x) (by omega); omega
   ·rw [U.val_dig (by omega), a1, a2]
    rcases hs with ⟨c, c2⟩ | ⟨c, c2⟩
    ·simp [c, c2]; omega
    ·simp only [decide_eq_true c2, if_neg c, if_pos c2, if_true]; omega
  ·rw [decide_eq_false hl, if_neg (by decide), trivetref01_minus.num k _ _ y0 (by omega) (by omega) (by omega), Option.bind_some, trivetref01_norm.num k _ (decide (x < 0)) (x + y) (U.dig_dg _)]
   ·rfl
   ·have := U.len_dig 64 (M.abs x - M.abs y) (by omega); omega
   ·have := U.len_dig 64 (M.abs x - M.abs y) (by omega); omega
   ·rw [U.val_dig (by omega), a1, a2]
    rcases hs with ⟨c, c2⟩ | ⟨c, c2⟩
    ·simp only [decide_eq_true c, if_pos c, if_neg c2, if_true]; omega
    ·simp only [decide_eq_false c, if_neg c, if_pos c2]; simp <;> omega

-- NOT PRINTED: function 35 (bits_Add64)

end Go.Proofs.Ytdddiahgkpfikaa.P
