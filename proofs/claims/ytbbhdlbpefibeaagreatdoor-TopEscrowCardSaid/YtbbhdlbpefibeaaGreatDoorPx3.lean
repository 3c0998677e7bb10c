-- Written by a program of this session out of the translation of the seat: Lean functions and the proofs that the Go functions come to them.
import Derived.Test.YtbbhdlbpefibeaaGreatDoorPx0
import Derived.Test.YtbbhdlbpefibeaaGreatDoorPx2
namespace Go.Proofs.YtbbhdlbpefibeaaGreatDoor.P
open Go.RowKit Go.Proofs.YtbbhdlbpefibeaaGreatDoorW.PrintWords Go.Proofs.YtbbhdlbpefibeaaGreatDoorW.PrintLast Go.Proofs.YtbbhdlbpefibeaaGreatDoorW.PrintMore
attribute [local go_sem] max2_int min2_int max_two min_two max_three min_three max_four min_four   -- for this text's walks alone
set_option linter.unusedVariables false
set_option linter.unusedSimpArgs false

/-! ### analysis_months: function 22 -/
def analysis_months.okI (x : Int) : Prop := 0 ≤ x ∧ x ≤ 10000000000000
instance (x : Int) : Decidable (analysis_months.okI x) := inferInstanceAs (Decidable (_ ∧ _))
def analysis_months.may (l : List Int) : Prop := l.length = 12 ∧ ∀ x ∈ l, analysis_months.okI x
instance (l : List Int) : Decidable (analysis_months.may l) := inferInstanceAs (Decidable (_ ∧ _))
def analysis_months.f (l0 : List Int) : Option Bool := some (decide (analysis_months.may l0))
set_option maxHeartbeats 8000000 in
set_option maxRecDepth 100000 in
/-- the closure: is an amount odd? -/
theorem analysis_months.odd_calls (x : Int) (w W : World) (hb : Below w.heap.size w W) : Calls Tryz.prog 48 #[.int .i64 x] W fun e w' => e = .returned (.bool (!decide (analysis_months.okI x))) ∧ Below w.heap.size w w' := by
 have hc : analysis_cents.f x = some (decide (analysis_months.okI x)) := by
  unfold analysis_cents.f
  by_cases h1 : x ≥ 0
  ·rw [if_pos h1]
   by_cases h2 : x ≤ 10000000000000
   ·rw [decide_eq_true h2, decide_eq_true (show analysis_months.okI x from ⟨h1, h2⟩)]
   ·rw [decide_eq_false h2, decide_eq_false (fun h : analysis_months.okI x => h2 h.2)]
  ·rw [if_neg h1, decide_eq_false (fun h : analysis_months.okI x => h1 h.1)]
 generalize decide (analysis_months.okI x) = r at hc ⊢
 go_enter Tryz.func48, Tryz.ntmps48
 go_wp2_with (go_at_call 23; refine (analysis_cents.calls x r _ hc).mono ?_; rintro e w' ⟨rfl, ⟨nd, rfl⟩⟩)
 go_ret
 exact ⟨rfl, pw_below_drewN hb _⟩
set_option maxHeartbeats 8000000 in
set_option maxRecDepth 100000 in
theorem analysis_months.idx_calls (A0 : Option Addr) (c0 : Nat) (l0 : List Int) (w : World) (hr0 : Kd.C (Kd.int .i64) w A0 l0.length l0) : Calls Tryz.prog 77 #[.slice A0 l0.length c0, .func (.func 48) #[] #[]] w fun e w' => (∃ v : Int, e = .returned (.int .i64 v) ∧ decide (0 ≤ v) = !decide (∀ x ∈ l0, analysis_months.okI x)) ∧ Below w.heap.size w w' := by
 have HR0 := ka hr0
 have hbig := hr0.2.1
 clear hr0
 have eg : ∀ args w, (callFunc 48 args).run Tryz.prog w = .ok (.enter 48 args) w := enters_of Tryz.func48 (by kernel_rfl) rfl
 have hget : ∀ j : Nat, j < l0.length → rd l0 (j : Int) ∈ l0 := fun j hj => by
  unfold rd
  rw [Int.toNat_natCast, List.getD_eq_getElem?_getD, List.getElem?_eq_getElem hj]
  exact List.getElem_mem hj
 have hall : (∀ j : Nat, j < l0.length → analysis_months.okI (rd l0 (j : Int))) → ∀ x ∈ l0, analysis_months.okI x := fun h x hx => by
  obtain ⟨j, hj, rfl⟩ := List.getElem_of_mem hx
  have := h j hj
  unfold rd at this
  rwa [Int.toNat_natCast, List.getD_eq_getElem?_getD, List.getElem?_eq_getElem hj] at this
 have Hget := ka hget
 have Hall := ka hall
 clear hget hall
 go_enter Tryz.func77, Tryz.ntmps77
 go_wp2
 go_loopg [5, 8] l0.length (fun gg _ s8 wr => ∃ kk : Nat, kk ≤ l0.length ∧ l0.length - kk ≤ gg ∧ s8 = .int .i64 kk ∧ Aside0 (Below w.heap.size w wr) ∧ Aside0 (∀ j : Nat, j < kk → analysis_months.okI (rd l0 (j : Int))))
 case atStart => exact ⟨0, Nat.zero_le _, by omega, rfl, ⟨Below.refl _ w⟩, ⟨fun j hj => absurd hj (Nat.not_lt_zero _)⟩⟩
 case round =>
  obtain ⟨kk, hkk, hg, rfl, HB, HA⟩ := hrel
  by_cases hlt : kk < l0.length
  ·have hltz : (kk : Int) < (l0.length : Int) := by omega
   have p1 : 0 ≤ (kk : Int) := by omega
   obtain ⟨ad, e1, x0⟩ := Kd.at_int HR0.out (kk : Int) p1 hltz
   cases e1
   replace x0 := (HB.out.cell (World.block_lt_of_cell? w _ x0)).trans x0
   simp only [Int.toNat_natCast] at x0
   have hcall := analysis_months.odd_calls (rd l0 (kk : Int)) w wr HB.out
   by_cases hq : analysis_months.okI (rd l0 (kk : Int))
   ·rw [decide_eq_true hq] at hcall
    have HQ := ka hq
    clear hq
    go_wp2_with (go_at_fn 48; refine hcall.mono ?_; rintro e w' ⟨rfl, hb'⟩)
    go_roundg (l0.length - (kk + 1))
    case measure => omega
    case rel =>
     refine ⟨kk + 1, by omega, by omega, by go_num, ⟨hb'⟩, ⟨fun j hj => ?_⟩⟩
     by_cases e : j = kk
     ·subst e; exact HQ.out
     ·exact HA.out j (by omega)
   ·have HQ := ka (show ¬ ∀ x ∈ l0, analysis_months.okI x from fun h => hq (h _ (Hget.out kk hlt)))
    rw [decide_eq_false hq] at hcall
    clear hq
    go_wp2_with (go_at_fn 48; refine hcall.mono ?_; rintro e w' ⟨rfl, hb'⟩)
    go_ret
    exact ⟨⟨_, rfl, by rw [decide_eq_false HQ.out, decide_eq_true (show 0 ≤ (kk : Int) by omega)]; rfl⟩, hb'⟩
  ·have hltz : ¬ (kk : Int) < (l0.length : Int) := by omega
   go_wp2
   go_ret
   exact ⟨⟨_, rfl, by rw [decide_eq_true (Hall.out fun j hj => HA.out j (by omega))]; rfl⟩, HB.out⟩
set_option maxHeartbeats 8000000 in
set_option maxRecDepth 100000 in
theorem analysis_months.has_calls (A0 : Option Addr) (c0 : Nat) (l0 : List Int) (w : World) (hr0 : Kd.C (Kd.int .i64) w A0 l0.length l0) : Calls Tryz.prog 47 #[.slice A0 l0.length c0, .func (.func 48) #[] #[]] w fun e w' => e = .returned (.bool (!decide (∀ x ∈ l0, analysis_months.okI x))) ∧ Below w.heap.size w w' := by
 have hcon := analysis_months.idx_calls A0 c0 l0 w hr0
 generalize (!decide (∀ x ∈ l0, analysis_months.okI x)) = r at hcon ⊢
 clear hr0
 go_enter Tryz.func47, Tryz.ntmps47
 go_wp2_with (go_at_call 77; refine hcon.mono ?_; rintro e w' ⟨⟨v, rfl, hv⟩, hb'⟩)
 go_ret
 exact ⟨by rw [← hv]; rfl, hb'⟩
set_option maxHeartbeats 8000000 in
set_option maxRecDepth 100000 in
theorem analysis_months.calls (A0 : Option Addr) (c0 : Nat) (l0 : List Int) (r : Bool) (w : World) (hr0 : Kd.C (Kd.int .i64) w A0 l0.length l0) (hc0 : l0.length ≤ c0) (h : analysis_months.f l0 = some r) :
  Calls Tryz.prog 22 #[.slice A0 l0.length c0] w fun e w' => e = .returned (.bool r) ∧ Below w.heap.size w w' := by
 have hcon := analysis_months.has_calls A0 c0 l0 w hr0
 obtain rfl := Option.some.inj h
 clear h hr0 hc0
 by_cases h1 : (l0.length : Int) = 12
 ·have hl : l0.length = 12 := by omega
  have e : decide (analysis_months.may l0) = decide (∀ x ∈ l0, analysis_months.okI x) := by simp [analysis_months.may, hl]
  rw [e]
  have b1 : ((l0.length : Int) == 12) = true := by simp [h1]
  clear e hl
  generalize decide (∀ x ∈ l0, analysis_months.okI x) = r at hcon ⊢
  go_enter Tryz.func22, Tryz.ntmps22
  go_wp2_with (go_at_call 47; refine hcon.mono ?_; rintro e w' ⟨rfl, hb'⟩)
  go_ret
  exact ⟨by simp, hb'⟩
 ·have hl : ¬ l0.length = 12 := by omega
  have e : decide (analysis_months.may l0) = false := by simp [analysis_months.may, hl]
  rw [e]
  have b1 : ((l0.length : Int) == 12) = false := by simp [h1]
  clear e hl hcon
  go_enter Tryz.func22, Tryz.ntmps22
  go_wp2
  go_ret
  exact ⟨rfl, Below.refl _ w⟩

/-! ### analysis_balances: function 24 -/
def analysis_balances.l0 : Nat → Int → Int → List Int → List Int → Int → Int → Option (List Int)
 | 0, _, _, _, _, _, _ => none
 | k + 1, x1, x2, x7, x10, x11, x12 => if x12 < x11 then (if 0 ≤ x12 then (if x12 < (x10.length : Int) then (if x7.length < 17592186044416 then (analysis_balances.l0 k x1 (wrap64 (x2 + (wrap64 (x1 - (rd x10 x12))))) (x7 ++ [wrap64 (x2 + (wrap64 (x1 - (rd x10 x12))))]) x10 x11 (wrap64 (x12 + 1))) else (none)) else (none)) else (none)) else (some x7)
def analysis_balances.f (k : Nat) (l0 : List Int) (a1 : Int) (a2 : Int) : Option (List Int) := analysis_balances.l0 k a1 a2 ([] : List Int) l0 (l0.length : Int) 0
theorem analysis_balances.mono_l : ∀ k, (∀ y0 y1 y2 y3 y4 y5, LeO (analysis_balances.l0 k y0 y1 y2 y3 y4 y5) (analysis_balances.l0 (k + 1) y0 y1 y2 y3 y4 y5))
 | 0 => fun _ _ _ _ _ _ r h => by simp [analysis_balances.l0] at h
 | k + 1 => by
  have ih0 := analysis_balances.mono_l k
  ·intro y0 y1 y2 y3 y4 y5
   unfold analysis_balances.l0
   repeat' first
   | (with_reducible exact ih0 _ _ _ _ _ _)
   | (with_reducible exact LeO.refl _)
   | (with_reducible exact LeO.none _)
   | (with_reducible refine LeO.ite ?_ ?_)
   | (with_reducible refine LeO.bind ?_ (fun _ => ?_))
   | exact ih0 _ _ _ _ _ _
   | exact LeO.none _
   | refine LeO.ite ?_ ?_
   | refine LeO.bind ?_ (fun _ => ?_)
theorem analysis_balances.mono : ∀ a0 a1 a2 k, LeO (analysis_balances.f k a0 a1 a2) (analysis_balances.f (k + 1) a0 a1 a2) := by
 intro a0 a1 a2 k
 have ih0 := analysis_balances.mono_l k
 unfold analysis_balances.f
 repeat' first
   | (with_reducible exact ih0 _ _ _ _ _ _)
   | (with_reducible exact LeO.refl _)
   | (with_reducible exact LeO.none _)
   | (with_reducible refine LeO.ite ?_ ?_)
   | (with_reducible refine LeO.bind ?_ (fun _ => ?_))
   | exact ih0 _ _ _ _ _ _
   | exact LeO.none _
   | refine LeO.ite ?_ ?_
   | refine LeO.bind ?_ (fun _ => ?_)
set_option maxHeartbeats 8000000 in
set_option maxRecDepth 100000 in
theorem analysis_balances.calls (k : Nat) (A0 : Option Addr) (c0 : Nat) (l0 : List Int) (a1 : Int) (a2 : Int) (r : List Int) (w : World) (hr0 : Kd.C (Kd.int .i64) w A0 l0.length l0) (hc0 : l0.length ≤ c0) (h : analysis_balances.f k l0 a1 a2 = some r) :
  Calls Tryz.prog 24 #[.slice A0 l0.length c0, .int .i64 a1, .int .i64 a2] w fun e w' => ∃ v0_ : Value, e = .returned (v0_) ∧ Kd.R (Kd.int .i64) 2 w' w.heap.size (fun _ => True) v0_ r ∧ Below w.heap.size w w' := by
 have HR0 := ka hr0
 have HC0 := ka hc0
 clear hr0 hc0
 have HB := ka (Below.refl w.heap.size w)
 have H : (analysis_balances.l0 k a1 a2 ([] : List Int) l0 (l0.length : Int) 0) = some r := h
 clear h
 have H' := ka H
 clear H
 go_enter Tryz.func24, Tryz.ntmps24
 go_wp2
 (try simp only [Act.put, List.setIfInBounds_toArray, List.set_cons_zero, List.set_cons_succ])
 go_loopg [2, 7, 12] k (fun kq v2 v7 v12 w' => ∃ (x2_1 : Int) (x7_1 : List Int) (x12_1 : Int), v2 = .int .i64 x2_1 ∧ v12 = .int .i64 x12_1 ∧ Aside0 (analysis_balances.l0 kq a1 x2_1 x7_1 l0 (l0.length : Int) x12_1 = some r) ∧ Aside0 (kq ≤ k) ∧ Aside0 (Kd.R (Kd.int .i64) 2 w' w.heap.size (fun _ => True) v7 x7_1) ∧ Aside0 (Below w.heap.size w w'))
 case atStart => exact ⟨(a2), (([] : List Int)), (0), (by first | rfl | (simp; done) | (simp [*]; done)), (by first | rfl | (simp; done) | (simp [*]; done)), H', ⟨Nat.le_refl _⟩, ⟨by first | exact Kd.R_nil _ _ _ _ _ | exact Kd.N_nil _ _ _ _ _ | exact Kd.V_nil _ _ _ _ _ | exact Kd.Q_nil _ _ _ _ _ | exact Kd.S_nil _ _ _ _ _⟩, ⟨by repeat (first | (with_reducible first | exact HB.out | apply kc1 | apply kc2 | apply kc3) | exact HB.out)⟩⟩
 case round =>
  clear H'
  try clear c2
  try clear p2
  obtain ⟨x2_1, x7_1, x12_1, rfl, rfl, HA, HK1, HO_7, HB⟩ := hrel
  cases gk with
  | zero => exact absurd HA.out (by simp [analysis_balances.l0])
  | succ k1 =>
   have H := HA.out
   clear HA
   simp only [analysis_balances.l0] at H
   by_cases c4 : x12_1 < (l0.length : Int)
   ·rw [if_pos c4] at H
    have c4b0 : decide (x12_1 < (l0.length : Int)) = true := decide_eq_true c4
    clear c4
    by_cases c5 : 0 ≤ x12_1
    ·rw [if_pos c5] at H
     have c5b0 : decide (0 ≤ x12_1) = true := decide_eq_true c5
     clear c5
     by_cases c6 : x12_1 < (l0.length : Int)
     ·rw [if_pos c6] at H
      have c6b0 : decide (x12_1 < (l0.length : Int)) = true := decide_eq_true c6
      clear c6
      by_cases c7 : x7_1.length < 17592186044416
      ·rw [if_pos c7] at H
       have LMc7 := ka c7
       clear c7
       obtain ⟨y407, hy407⟩ : ∃ y_ : List Int, y_ = (x7_1 ++ [wrap64 (x2_1 + (wrap64 (a1 - (rd l0 x12_1))))]) := ⟨_, rfl⟩
       replace H : (analysis_balances.l0 k1 a1 (wrap64 (x2_1 + (wrap64 (a1 - (rd l0 x12_1))))) y407 l0 (l0.length : Int) (wrap64 (x12_1 + 1))) = some r := by first | (rw [hy407]; with_reducible exact H) | (have H2_ := (Option.bind_some _ _).symm.trans H; rw [hy407]; with_reducible exact H2_) | (have H2_ := (Option.bind_some _ _).symm.trans H; with_reducible exact H2_) | with_reducible exact H | (rw [hy407]; exact H) | exact H
       have Ny407 := ka hy407
       clear hy407
       have H' := ka H
       clear H
       have p406 : 0 ≤ (x12_1 : Int) := of_decide_eq_true (by first | (with_reducible assumption) | assumption)
       have q406 : x12_1 < (l0.length : Int) := of_decide_eq_true (by first | (with_reducible assumption) | assumption)
       obtain ⟨ad406, e406, hx406_0⟩ := Kd.at_int HR0.out x12_1 p406 q406
       cases e406
       replace hx406_0 := (HB.out.cell (World.block_lt_of_cell? w _ hx406_0)).trans hx406_0
       replace p406 := eq_true p406
       replace q406 := eq_true q406
       go_wp2_with (first | ((with_reducible refine gate_builtin (b := .append) (xs := #[.tmp 21, .tmp 23]) rfl ?_); at_builtin; refine Kd.R_append (Kd.int .i64) (w0 := w) w.heap.size rfl (.tmp 21) (.tmp 23) 22 2 (.int .i64 0) 8 rfl Tryz.underlying22 info2 rfl (by decide) (by omega) u7 x7_1 (wrap64 (x2_1 + (wrap64 (a1 - (rd l0 x12_1))))) [.int .i64 (wrap64 (x2_1 + (wrap64 (a1 - (rd l0 x12_1)))))] (fun _ => True) (fun _ => False) rfl rfl ?aP (fun _ hk => hk.elim) ?aF ?aO ?aB ?aS ?aL ?_; (case aP => exact rfl); (case aB => exact (kw HB.out)); (case aF => exact (fun _ _ => trivial)); (case aO => exact (kr HO_7.out)); (case aS => exact (below_size (kw HB.out))); (case aL => have := LMc7.out; omega); intro v408 w8 ho hb hg hat; rw [← Ny407.out] at ho; replace HB := ka (hb); have HO409 := ka (ho); clear HO_7; clear ho hb hg hat))
       go_roundg k1
       case measure => have := HK1.out; omega
       case rel => exact ⟨(wrap64 (x2_1 + (wrap64 (a1 - (rd l0 x12_1))))), (y407), (wrap64 (x12_1 + 1)), (by first | rfl | (simp; done) | (simp [*]; done)), (by first | rfl | (simp; done) | (simp [*]; done)), H', ⟨by have := HK1.out; omega⟩, ⟨kr HO409.out⟩, ⟨by repeat (first | (with_reducible first | exact HB.out | apply kc1 | apply kc2 | apply kc3) | exact HB.out)⟩⟩
      ·rw [if_neg c7] at H
       exact absurd H (by simp)
     ·rw [if_neg c6] at H
      exact absurd H (by simp)
    ·rw [if_neg c5] at H
     exact absurd H (by simp)
   ·rw [if_neg c4] at H
    have c4b0 : decide (x12_1 < (l0.length : Int)) = false := decide_eq_false c4
    clear c4
    obtain rfl := Option.some.inj H
    go_wp2
    go_ret
    exact ⟨_, by first | rfl | (simp [errW_none, errW_some] <;> rfl) | (simp [*, errW_none, errW_some] <;> rfl), by (with_reducible repeat (first | apply Kd.R_alloc | apply Kd.R_drewN | apply Kd.R_drew)); exact HO_7.out, by repeat (first | (with_reducible first | exact HB.out | apply kc1 | apply kc2 | apply kc3) | exact HB.out)⟩

/-! ### slices_Min_int64_int64: function 25 -/
def slices_Min_int64_int64.l0 : Nat → List Int → Int → Int → Option (Int)
 | 0, _, _, _ => none
 | k + 1, x0, x3, x4 => if x4 < (x0.length : Int) then (if 0 ≤ x4 then (slices_Min_int64_int64.l0 k x0 (mn x3 (rd x0 x4)) (wrap64 (x4 + 1))) else (none)) else (some x3)
def slices_Min_int64_int64.f (k : Nat) (l0 : List Int) : Option (Int) := if (l0.length : Int) < 1 then (none) else (if 0 < (l0.length : Int) then (slices_Min_int64_int64.l0 k l0 (rd l0 0) 1) else (none))
theorem slices_Min_int64_int64.mono_l : ∀ k, (∀ y0 y1 y2, LeO (slices_Min_int64_int64.l0 k y0 y1 y2) (slices_Min_int64_int64.l0 (k + 1) y0 y1 y2))
 | 0 => fun _ _ _ r h => by simp [slices_Min_int64_int64.l0] at h
 | k + 1 => by
  have ih0 := slices_Min_int64_int64.mono_l k
  ·intro y0 y1 y2
   unfold slices_Min_int64_int64.l0
   repeat' first
   | (with_reducible exact ih0 _ _ _)
   | (with_reducible exact LeO.refl _)
   | (with_reducible exact LeO.none _)
   | (with_reducible refine LeO.ite ?_ ?_)
   | (with_reducible refine LeO.bind ?_ (fun _ => ?_))
   | exact ih0 _ _ _
   | exact LeO.none _
   | refine LeO.ite ?_ ?_
   | refine LeO.bind ?_ (fun _ => ?_)
theorem slices_Min_int64_int64.mono : ∀ a0 k, LeO (slices_Min_int64_int64.f k a0) (slices_Min_int64_int64.f (k + 1) a0) := by
 intro a0 k
 have ih0 := slices_Min_int64_int64.mono_l k
 unfold slices_Min_int64_int64.f
 repeat' first
   | (with_reducible exact ih0 _ _ _)
   | (with_reducible exact LeO.refl _)
   | (with_reducible exact LeO.none _)
   | (with_reducible refine LeO.ite ?_ ?_)
   | (with_reducible refine LeO.bind ?_ (fun _ => ?_))
   | exact ih0 _ _ _
   | exact LeO.none _
   | refine LeO.ite ?_ ?_
   | refine LeO.bind ?_ (fun _ => ?_)
set_option maxHeartbeats 8000000 in
set_option maxRecDepth 100000 in
theorem slices_Min_int64_int64.calls (k : Nat) (A0 : Option Addr) (c0 : Nat) (l0 : List Int) (r : Int) (w : World) (hr0 : Kd.C (Kd.int .i64) w A0 l0.length l0) (hc0 : l0.length ≤ c0) (h : slices_Min_int64_int64.f k l0 = some r) :
  Calls Tryz.prog 25 #[.slice A0 l0.length c0] w fun e w' => e = .returned (.int .i64 r) ∧ Below w.heap.size w w' := by
 have HR0 := ka hr0
 have HC0 := ka hc0
 clear hr0 hc0
 have HB := ka (Below.refl w.heap.size w)
 have H : (if (l0.length : Int) < 1 then (none) else (if 0 < (l0.length : Int) then (slices_Min_int64_int64.l0 k l0 (rd l0 0) 1) else (none))) = some r := h
 clear h
 by_cases c2 : (l0.length : Int) < 1
 ·rw [if_pos c2] at H
  exact absurd H (by simp)
 ·rw [if_neg c2] at H
  have c2b0 : decide ((l0.length : Int) < 1) = false := decide_eq_false c2
  have c2b1 : decide (l0.length < 1) = false := decide_eq_false (by omega)
  clear c2
  by_cases c3 : 0 < (l0.length : Int)
  ·rw [if_pos c3] at H
   have c3b0 : decide (0 < (l0.length : Int)) = true := decide_eq_true c3
   have c3b1 : decide (0 < l0.length) = true := decide_eq_true (by omega)
   clear c3
   have H' := ka H
   clear H
   have p410 : 0 ≤ (0 : Int) := (by omega)
   have q410 : 0 < (l0.length : Int) := of_decide_eq_true (by first | (with_reducible assumption) | assumption)
   obtain ⟨ad410, e410, hx410_0⟩ := Kd.at_int HR0.out 0 p410 q410
   cases e410
   have qi410 : (0 < l0.length) = True := eq_true (by omega)
   (try rw [show ((0 : Int)).toNat = 0 from rfl] at hx410_0)
   (try rw [Addr.add_zero'] at hx410_0)
   replace p410 := eq_true p410
   replace q410 := eq_true q410
   go_enter Tryz.func25, Tryz.ntmps25
   go_wp2
   (try simp only [Act.put, List.setIfInBounds_toArray, List.set_cons_zero, List.set_cons_succ])
   go_loopg [3, 4] k (fun kq v3 v4 w' => ∃ (x3_1 : Int) (x4_1 : Int), v3 = .int .i64 x3_1 ∧ v4 = .int .i64 x4_1 ∧ Aside0 (slices_Min_int64_int64.l0 kq l0 x3_1 x4_1 = some r) ∧ Aside0 (kq ≤ k) ∧ Aside0 (Below w.heap.size w w'))
   case atStart => exact ⟨(rd l0 0), (1), (by first | rfl | (simp; done) | (simp [*]; done)), (by first | rfl | (simp; done) | (simp [*]; done)), H', ⟨Nat.le_refl _⟩, ⟨by repeat (first | (with_reducible first | exact HB.out | apply kc1 | apply kc2 | apply kc3) | exact HB.out)⟩⟩
   case round =>
    clear H'
    try clear c2
    try clear c2b0
    try clear c2b1
    try clear p2
    try clear c3
    try clear c3b0
    try clear c3b1
    try clear hx410_0
    try clear p410
    try clear q410
    obtain ⟨x3_1, x4_1, rfl, rfl, HA, HK1, HB⟩ := hrel
    cases gk with
    | zero => exact absurd HA.out (by simp [slices_Min_int64_int64.l0])
    | succ k1 =>
     have H := HA.out
     clear HA
     simp only [slices_Min_int64_int64.l0] at H
     by_cases c4 : x4_1 < (l0.length : Int)
     ·rw [if_pos c4] at H
      have c4b0 : decide (x4_1 < (l0.length : Int)) = true := decide_eq_true c4
      clear c4
      by_cases c5 : 0 ≤ x4_1
      ·rw [if_pos c5] at H
       have c5b0 : decide (0 ≤ x4_1) = true := decide_eq_true c5
       clear c5
       obtain ⟨ji6, hji6⟩ : ∃ j_ : Int, (mn x3_1 (rd l0 x4_1)) = j_ := ⟨_, rfl⟩
       replace H : (slices_Min_int64_int64.l0 k1 l0 ji6 (wrap64 (x4_1 + 1))) = some r := by first | (rw [hji6] at H; exact H) | (simp only [hji6] at H ⊢; exact H)
       have hji6_ : (if (rd l0 x4_1) < x3_1 then (rd l0 x4_1) else x3_1) = ji6 := hji6
       have H' := ka H
       clear H
       have p411 : 0 ≤ (x4_1 : Int) := of_decide_eq_true (by first | (with_reducible assumption) | assumption)
       have q411 : x4_1 < (l0.length : Int) := of_decide_eq_true (by first | (with_reducible assumption) | assumption)
       obtain ⟨ad411, e411, hx411_0⟩ := Kd.at_int HR0.out x4_1 p411 q411
       obtain rfl : ad410 = ad411 := (by injection e411)
       replace hx411_0 := (HB.out.cell (World.block_lt_of_cell? w _ hx411_0)).trans hx411_0
       replace p411 := eq_true p411
       replace q411 := eq_true q411
       go_wp2
       go_roundg k1
       case measure => have := HK1.out; omega
       case rel => exact ⟨(ji6), (wrap64 (x4_1 + 1)), (by first | rfl | (simp; done) | (simp only [← hji6] <;> (first | rfl | simp)) | (simp [*]; done)), (by first | rfl | (simp; done) | (simp [*]; done)), H', ⟨by have := HK1.out; omega⟩, ⟨by repeat (first | (with_reducible first | exact HB.out | apply kc1 | apply kc2 | apply kc3) | exact HB.out)⟩⟩
      ·rw [if_neg c5] at H
       exact absurd H (by simp)
     ·rw [if_neg c4] at H
      have c4b0 : decide (x4_1 < (l0.length : Int)) = false := decide_eq_false c4
      clear c4
      obtain rfl := Option.some.inj H
      go_wp2
      go_ret
      exact ⟨by first | rfl | (simp [errW_none, errW_some] <;> rfl) | (simp [*, errW_none, errW_some] <;> rfl), by repeat (first | (with_reducible first | exact HB.out | apply kc1 | apply kc2 | apply kc3) | exact HB.out)⟩
  ·rw [if_neg c3] at H
   exact absurd H (by simp)

/-! ### slices_Index_int64_int64: function 26 -/
def slices_Index_int64_int64.l0 : Nat → List Int → Int → Int → Int → Option (Int)
 | 0, _, _, _, _ => none
 | k + 1, x0, x1, x7, x8 => if x8 < x7 then (if 0 ≤ x8 then (if x8 < (x0.length : Int) then (if x1 = (rd x0 x8) then (some x8) else (slices_Index_int64_int64.l0 k x0 x1 x7 (wrap64 (x8 + 1)))) else (none)) else (none)) else (some (-1))
def slices_Index_int64_int64.f (k : Nat) (l0 : List Int) (a1 : Int) : Option (Int) := slices_Index_int64_int64.l0 k l0 a1 (l0.length : Int) 0
theorem slices_Index_int64_int64.mono_l : ∀ k, (∀ y0 y1 y2 y3, LeO (slices_Index_int64_int64.l0 k y0 y1 y2 y3) (slices_Index_int64_int64.l0 (k + 1) y0 y1 y2 y3))
 | 0 => fun _ _ _ _ r h => by simp [slices_Index_int64_int64.l0] at h
 | k + 1 => by
  have ih0 := slices_Index_int64_int64.mono_l k
  ·intro y0 y1 y2 y3
   unfold slices_Index_int64_int64.l0
   repeat' first
   | (with_reducible exact ih0 _ _ _ _)
   | (with_reducible exact LeO.refl _)
   | (with_reducible exact LeO.none _)
   | (with_reducible refine LeO.ite ?_ ?_)
   | (with_reducible refine LeO.bind ?_ (fun _ => ?_))
   | exact ih0 _ _ _ _
   | exact LeO.none _
   | refine LeO.ite ?_ ?_
   | refine LeO.bind ?_ (fun _ => ?_)
theorem slices_Index_int64_int64.mono : ∀ a0 a1 k, LeO (slices_Index_int64_int64.f k a0 a1) (slices_Index_int64_int64.f (k + 1) a0 a1) := by
 intro a0 a1 k
 have ih0 := slices_Index_int64_int64.mono_l k
 unfold slices_Index_int64_int64.f
 repeat' first
   | (with_reducible exact ih0 _ _ _ _)
   | (with_reducible exact LeO.refl _)
   | (with_reducible exact LeO.none _)
   | (with_reducible refine LeO.ite ?_ ?_)
   | (with_reducible refine LeO.bind ?_ (fun _ => ?_))
   | exact ih0 _ _ _ _
   | exact LeO.none _
   | refine LeO.ite ?_ ?_
   | refine LeO.bind ?_ (fun _ => ?_)
set_option maxHeartbeats 8000000 in
set_option maxRecDepth 100000 in
theorem slices_Index_int64_int64.calls (k : Nat) (A0 : Option Addr) (c0 : Nat) (l0 : List Int) (a1 : Int) (r : Int) (w : World) (hr0 : Kd.C (Kd.int .i64) w A0 l0.length l0) (hc0 : l0.length ≤ c0) (h : slices_Index_int64_int64.f k l0 a1 = some r) :
  Calls Tryz.prog 26 #[.slice A0 l0.length c0, .int .i64 a1] w fun e w' => e = .returned (.int .i64 r) ∧ Drawn0 w w' := by
 have HR0 := ka hr0
 have HC0 := ka hc0
 clear hr0 hc0
 have H : (slices_Index_int64_int64.l0 k l0 a1 (l0.length : Int) 0) = some r := h
 clear h
 have H' := ka H
 clear H
 go_enter Tryz.func26, Tryz.ntmps26
 go_wp2
 (try simp only [Act.put, List.setIfInBounds_toArray, List.set_cons_zero, List.set_cons_succ])
 go_loopg [8] k (fun kq v8 w' => ∃ (x8_1 : Int), v8 = .int .i64 x8_1 ∧ Aside0 (slices_Index_int64_int64.l0 kq l0 a1 (l0.length : Int) x8_1 = some r) ∧ Aside0 (kq ≤ k) ∧ Drawn0 w w')
 case atStart => exact ⟨(0), (by first | rfl | (simp; done) | (simp [*]; done)), H', ⟨Nat.le_refl _⟩, by repeat (first | exact Drawn0.refl _ | apply Drawn0.step)⟩
 case round =>
  clear H'
  try clear c2
  try clear p2
  obtain ⟨x8_1, rfl, HA, HK1, ⟨m1, rfl⟩⟩ := hrel
  cases gk with
  | zero => exact absurd HA.out (by simp [slices_Index_int64_int64.l0])
  | succ k1 =>
   have H := HA.out
   clear HA
   simp only [slices_Index_int64_int64.l0] at H
   by_cases c3 : x8_1 < (l0.length : Int)
   ·rw [if_pos c3] at H
    have c3b0 : decide (x8_1 < (l0.length : Int)) = true := decide_eq_true c3
    clear c3
    by_cases c4 : 0 ≤ x8_1
    ·rw [if_pos c4] at H
     have c4b0 : decide (0 ≤ x8_1) = true := decide_eq_true c4
     clear c4
     by_cases c5 : x8_1 < (l0.length : Int)
     ·rw [if_pos c5] at H
      have c5b0 : decide (x8_1 < (l0.length : Int)) = true := decide_eq_true c5
      clear c5
      by_cases c6 : a1 = (rd l0 x8_1)
      ·rw [if_pos c6] at H
       have c6b0 : (a1 == (rd l0 x8_1)) = true := beq_iff_eq.mpr c6
       have c6b1 : (a1 != (rd l0 x8_1)) = false := bne_eq_false_iff_eq.mpr c6
       clear c6
       obtain rfl := Option.some.inj H
       have p412 : 0 ≤ (x8_1 : Int) := of_decide_eq_true (by first | (with_reducible assumption) | assumption)
       have q412 : x8_1 < (l0.length : Int) := of_decide_eq_true (by first | (with_reducible assumption) | assumption)
       obtain ⟨ad412, e412, hx412_0⟩ := Kd.at_int HR0.out x8_1 p412 q412
       cases e412
       replace p412 := eq_true p412
       replace q412 := eq_true q412
       go_wp2
       go_ret
       exact ⟨by first | rfl | (simp; done) | (simp [*]; done), by repeat (first | exact Drawn0.refl _ | apply Drawn0.step)⟩
      ·rw [if_neg c6] at H
       have c6b0 : (a1 == (rd l0 x8_1)) = false := beq_eq_false_iff_ne.mpr c6
       have c6b1 : (a1 != (rd l0 x8_1)) = true := bne_iff_ne.mpr c6
       have H' := ka H
       clear H
       have p412 : 0 ≤ (x8_1 : Int) := of_decide_eq_true (by first | (with_reducible assumption) | assumption)
       have q412 : x8_1 < (l0.length : Int) := of_decide_eq_true (by first | (with_reducible assumption) | assumption)
       obtain ⟨ad412, e412, hx412_0⟩ := Kd.at_int HR0.out x8_1 p412 q412
       cases e412
       replace p412 := eq_true p412
       replace q412 := eq_true q412
       go_wp2
       go_roundg k1
       case measure => have := HK1.out; omega
       case rel => exact ⟨(wrap64 (x8_1 + 1)), (by first | rfl | (simp; done) | (simp [*]; done)), H', ⟨by have := HK1.out; omega⟩, by repeat (first | exact Drawn0.refl _ | apply Drawn0.step)⟩
     ·rw [if_neg c5] at H
      exact absurd H (by simp)
    ·rw [if_neg c4] at H
     exact absurd H (by simp)
   ·rw [if_neg c3] at H
    have c3b0 : decide (x8_1 < (l0.length : Int)) = false := decide_eq_false c3
    clear c3
    obtain rfl := Option.some.inj H
    go_wp2
    go_ret
    exact ⟨by first | rfl | (simp; done) | (simp [*]; done), by repeat (first | exact Drawn0.refl _ | apply Drawn0.step)⟩

/-! ### analysis_Analyze: function 7 -/
mutual
def analysis_Analyze.j0 : Nat → List Int → Int → Bool → Option (Int × Int × Int × Int × Int × List Int × Option Int)
 | 0, _, _, _ => none
 | k + 1, x0, x1, x17 => if x17 = true then (some (0, 0, 0, 0, 0, ([] : List Int), some 1)) else (analysis_Analyze.l0 k x0 x1 x0 (x0.length : Int) 0 0 0 0 0 0)
def analysis_Analyze.l0 : Nat → List Int → Int → List Int → Int → Int → Int → Int → Int → Int → Int → Option (Int × Int × Int × Int × Int × List Int × Option Int)
 | 0, _, _, _, _, _, _, _, _, _, _ => none
 | k + 1, x0, x1, x20, x21, x22, x417000, x417001, x417002, x417003, x417004 => if x22 < x21 then (if 0 ≤ x22 then (if x22 < (x20.length : Int) then (analysis_Analyze.l0 k x0 x1 x20 x21 (wrap64 (x22 + 1)) (wrap64 (x417000 + (rd x20 x22))) x417001 x417002 x417003 x417004) else (none)) else (none)) else ((analysis_balances.f k x0 (wrap64 (Int.tdiv (wrap64 (x417000 + 11)) 12)) 0).bind fun t418 => ((slices_Min_int64_int64.f k t418).bind fun t421 => ((slices_Min_int64_int64.f k t418).bind fun t422 => ((slices_Index_int64_int64.f k t418 t422).bind fun t423 => ((analysis_balances.f k x0 (wrap64 (Int.tdiv (wrap64 (x417000 + 11)) 12)) (wrap64 ((mn x1 (wrap64 (Int.tdiv x417000 6))) - t421))).bind fun t424 => (some (x417000, wrap64 (Int.tdiv (wrap64 (x417000 + 11)) 12), mn x1 (wrap64 (Int.tdiv x417000 6)), wrap64 ((mn x1 (wrap64 (Int.tdiv x417000 6))) - t421), t423, t424, none)))))))
end
def analysis_Analyze.f (k : Nat) (l0 : List Int) (a1 : Int) : Option (Int × Int × Int × Int × Int × List Int × Option Int) := (analysis_months.f l0).bind fun t414 => (if t414 = true then ((analysis_cents.f a1).bind fun t415 => (analysis_Analyze.j0 k l0 a1 (!t415))) else (analysis_Analyze.j0 k l0 a1 true))
theorem analysis_Analyze.mono_l : ∀ k, (∀ y0 y1 y2, LeO (analysis_Analyze.j0 k y0 y1 y2) (analysis_Analyze.j0 (k + 1) y0 y1 y2)) ∧ (∀ y0 y1 y2 y3 y4 y5 y6 y7 y8 y9, LeO (analysis_Analyze.l0 k y0 y1 y2 y3 y4 y5 y6 y7 y8 y9) (analysis_Analyze.l0 (k + 1) y0 y1 y2 y3 y4 y5 y6 y7 y8 y9))
 | 0 => ⟨fun _ _ _ r h => by simp [analysis_Analyze.j0] at h, fun _ _ _ _ _ _ _ _ _ _ r h => by simp [analysis_Analyze.l0] at h⟩
 | k + 1 => by
  obtain ⟨ih0, ih1⟩ := analysis_Analyze.mono_l k
  refine ⟨?_, ?_⟩
  ·intro y0 y1 y2
   unfold analysis_Analyze.j0
   repeat' first
   | (with_reducible exact ih0 _ _ _)
   | (with_reducible exact ih1 _ _ _ _ _ _ _ _ _ _)
   | (with_reducible exact analysis_balances.mono _ _ _ _)
   | (with_reducible exact slices_Index_int64_int64.mono _ _ _)
   | (with_reducible exact slices_Min_int64_int64.mono _ _)
   | (with_reducible exact LeO.refl _)
   | (with_reducible exact LeO.none _)
   | (with_reducible refine LeO.ite ?_ ?_)
   | (with_reducible refine LeO.bind ?_ (fun _ => ?_))
   | exact ih0 _ _ _
   | exact ih1 _ _ _ _ _ _ _ _ _ _
   | exact analysis_balances.mono _ _ _ _
   | exact slices_Index_int64_int64.mono _ _ _
   | exact slices_Min_int64_int64.mono _ _
   | exact LeO.none _
   | refine LeO.ite ?_ ?_
   | refine LeO.bind ?_ (fun _ => ?_)
  ·intro y0 y1 y2 y3 y4 y5 y6 y7 y8 y9
   unfold analysis_Analyze.l0
   repeat' first
   | (with_reducible exact ih0 _ _ _)
   | (with_reducible exact ih1 _ _ _ _ _ _ _ _ _ _)
   | (with_reducible exact analysis_balances.mono _ _ _ _)
   | (with_reducible exact slices_Index_int64_int64.mono _ _ _)
   | (with_reducible exact slices_Min_int64_int64.mono _ _)
   | (with_reducible exact LeO.refl _)
   | (with_reducible exact LeO.none _)
   | (with_reducible refine LeO.ite ?_ ?_)
   | (with_reducible refine LeO.bind ?_ (fun _ => ?_))
   | exact ih0 _ _ _
   | exact ih1 _ _ _ _ _ _ _ _ _ _
   | exact analysis_balances.mono _ _ _ _
   | exact slices_Index_int64_int64.mono _ _ _
   | exact slices_Min_int64_int64.mono _ _
   | exact LeO.none _
   | refine LeO.ite ?_ ?_
   | refine LeO.bind ?_ (fun _ => ?_)
theorem analysis_Analyze.mono : ∀ a0 a1 k, LeO (analysis_Analyze.f k a0 a1) (analysis_Analyze.f (k + 1) a0 a1) := by
 intro a0 a1 k
 obtain ⟨ih0, ih1⟩ := analysis_Analyze.mono_l k
 unfold analysis_Analyze.f
 repeat' first
   | (with_reducible exact ih0 _ _ _)
   | (with_reducible exact ih1 _ _ _ _ _ _ _ _ _ _)
   | (with_reducible exact analysis_balances.mono _ _ _ _)
   | (with_reducible exact slices_Index_int64_int64.mono _ _ _)
   | (with_reducible exact slices_Min_int64_int64.mono _ _)
   | (with_reducible exact LeO.refl _)
   | (with_reducible exact LeO.none _)
   | (with_reducible refine LeO.ite ?_ ?_)
   | (with_reducible refine LeO.bind ?_ (fun _ => ?_))
   | exact ih0 _ _ _
   | exact ih1 _ _ _ _ _ _ _ _ _ _
   | exact analysis_balances.mono _ _ _ _
   | exact slices_Index_int64_int64.mono _ _ _
   | exact slices_Min_int64_int64.mono _ _
   | exact LeO.none _
   | refine LeO.ite ?_ ?_
   | refine LeO.bind ?_ (fun _ => ?_)
set_option maxHeartbeats 8000000 in
set_option maxRecDepth 100000 in
theorem analysis_Analyze.calls (k : Nat) (A0 : Option Addr) (c0 : Nat) (l0 : List Int) (a1 : Int) (r1 : Int) (r2 : Int) (r3 : Int) (r4 : Int) (r5 : Int) (r6 : List Int) (r7 : Option Int) (w : World) (hr0 : Kd.C (Kd.int .i64) w A0 l0.length l0) (hc0 : l0.length ≤ c0) (h : analysis_Analyze.f k l0 a1 = some (r1, r2, r3, r4, r5, r6, r7)) :
  Calls Tryz.prog 7 #[.slice A0 l0.length c0, .int .i64 a1] w fun e w' => ∃ v5_ : Value, e = .returned (.tuple #[.agg #[.int .i64 r1, .int .i64 r2, .int .i64 r3, .int .i64 r4, .int .i64 r5, v5_], errW r7]) ∧ Kd.R (Kd.int .i64) 2 w' w.heap.size (fun _ => True) v5_ r6 ∧ Below w.heap.size w w' := by
 have hu25 := Tryz.underlying25
 have hu27 := Tryz.underlying27
 have hu31 := Tryz.underlying31
 have HR0 := ka hr0
 have HC0 := ka hc0
 clear hr0 hc0
 have HB := ka (Below.refl w.heap.size w)
 have H : ((analysis_months.f l0).bind fun t414 => (if t414 = true then ((analysis_cents.f a1).bind fun t415 => (analysis_Analyze.j0 k l0 a1 (!t415))) else (analysis_Analyze.j0 k l0 a1 true))) = some (r1, r2, r3, r4, r5, r6, r7) := h
 clear h
 have HC3 := ka H
 clear H
 go_enter Tryz.func7, Tryz.ntmps7
 go_upto_region 1 with (first | ((with_reducible refine gate_dst (N := 4) rfl ?_); refine kx (N := 4) (cs := #[.int .i64 0, .int .i64 0, .int .i64 0, .int .i64 0, .int .i64 0, .slice none 0 0]) (t := 25) ?_; intro gb413 hg w4 hbox hb; have n0_ := ka (below_step (kw HB.out) hb); have n1_ := ka (hbox); have n2_ := ka ((by rw [hg]; exact (below_size (kw HB.out)) : w.heap.size ≤ gb413)); have n3_ := n2_; clear HB; have HB := n0_; have BK413 := n1_; have GW413 := n2_; have GE413 := n3_; clear n0_ n1_ n2_ n3_; clear hb hbox hg))
 (try simp only [Act.put, List.setIfInBounds_toArray, List.set_cons_zero, List.set_cons_succ])
 go_cut [17] (fun v17 wc => ∃ (kq : Nat) (x17_2 : Bool), v17 = .bool x17_2 ∧ Aside0 (analysis_Analyze.j0 kq l0 a1 x17_2 = some (r1, r2, r3, r4, r5, r6, r7)) ∧ Aside0 (kq ≤ k) ∧ Aside0 (wc.heap[gb413]? = some (.cells #[.int .i64 0, .int .i64 0, .int .i64 0, .int .i64 0, .int .i64 0, (.slice none 0 0)] 25 (0, 0))) ∧ Aside0 (Below w.heap.size w wc))
 case first =>
  have H := HC3.out
  clear HC3
  replace H := Option.bind_eq_some_iff.mp H
  obtain ⟨t414, A50, H⟩ := H
  replace H : (if t414 = true then ((analysis_cents.f a1).bind fun t415 => (analysis_Analyze.j0 k l0 a1 (!t415))) else (analysis_Analyze.j0 k l0 a1 true)) = some (r1, r2, r3, r4, r5, r6, r7) := H
  have A5 := ka A50
  clear A50
  by_cases c6 : t414 = true
  ·subst c6
   have H1 : ((analysis_cents.f a1).bind fun t415 => (analysis_Analyze.j0 k l0 a1 (!t415))) = some (r1, r2, r3, r4, r5, r6, r7) := by rw [if_pos rfl] at H; exact H
   clear H
   have H := H1
   clear H1
   replace H := Option.bind_eq_some_iff.mp H
   obtain ⟨t415, A70, H⟩ := H
   replace H : (analysis_Analyze.j0 k l0 a1 (!t415)) = some (r1, r2, r3, r4, r5, r6, r7) := H
   have A7 := ka A70
   clear A70
   have H' := ka H
   clear H
   go_wp2_with (first | ((with_reducible refine gate_callee (f := 22) rfl ?_); refine kg (some 11) rfl rfl Tryz.func22 (by kernel_rfl) rfl #[.slice A0 l0.length c0] rfl ?_; (with_reducible refine (analysis_months.calls _ _ l0 true _ ?side1 ?side2 A5.out).mono ?_); (case side1 => repeat (first | exact (Kd.C_below HR0.out HB.out) | (with_reducible refine Kd.C_alloc ?_ _) | (with_reducible refine Kd.C_drewN ?_ _) | (with_reducible refine Kd.C_drew ?_))); (case side2 => exact HC0.out); rintro e w8 ⟨rfl, hb⟩; refine ⟨_, rfl, ?_⟩; replace BK413 := kbb BK413 hb; replace HB := ka (below_step (kw HB.out) hb); (try clear hb); (try clear hb2); (try clear hk); (try clear hi)) | (go_at_call 23; (with_reducible refine (analysis_cents.calls a1 t415 _ A7.out).mono ?_); rintro e w' ⟨rfl, ⟨nd, rfl⟩⟩))
   go_meet
   case rel => exact ⟨_, (!t415), (by first | rfl | (simp; done) | (simp [*]; done)), H', ⟨by first | omega | exact Nat.le_refl _⟩, ⟨by (with_reducible repeat (first | apply kb1 | apply kb2 | apply kb3)); exact BK413.out⟩, ⟨by repeat (first | (with_reducible first | exact HB.out | apply kc1 | apply kc2 | apply kc3 | refine kc4 ?_ GE413.out) | exact HB.out)⟩⟩
  ·replace c6 := Bool.eq_false_iff.mpr c6
   subst c6
   have H1 : (analysis_Analyze.j0 k l0 a1 true) = some (r1, r2, r3, r4, r5, r6, r7) := by rw [if_neg (show ¬ (false = true) by decide)] at H; exact H
   clear H
   have H := H1
   clear H1
   have H' := ka H
   clear H
   go_wp2_with (first | ((with_reducible refine gate_callee (f := 22) rfl ?_); refine kg (some 11) rfl rfl Tryz.func22 (by kernel_rfl) rfl #[.slice A0 l0.length c0] rfl ?_; (with_reducible refine (analysis_months.calls _ _ l0 false _ ?side1 ?side2 A5.out).mono ?_); (case side1 => repeat (first | exact (Kd.C_below HR0.out HB.out) | (with_reducible refine Kd.C_alloc ?_ _) | (with_reducible refine Kd.C_drewN ?_ _) | (with_reducible refine Kd.C_drew ?_))); (case side2 => exact HC0.out); rintro e w9 ⟨rfl, hb⟩; refine ⟨_, rfl, ?_⟩; replace BK413 := kbb BK413 hb; replace HB := ka (below_step (kw HB.out) hb); (try clear hb); (try clear hb2); (try clear hk); (try clear hi)))
   go_meet
   case rel => exact ⟨_, (true), (by first | rfl | (simp; done) | (simp [*]; done)), H', ⟨by first | omega | exact Nat.le_refl _⟩, ⟨by (with_reducible repeat (first | apply kb1 | apply kb2 | apply kb3)); exact BK413.out⟩, ⟨by repeat (first | (with_reducible first | exact HB.out | apply kc1 | apply kc2 | apply kc3 | refine kc4 ?_ GE413.out) | exact HB.out)⟩⟩
 case rest =>
  clear HC3
  try clear c2
  try clear p2
  try clear c6
  try clear c7
  obtain ⟨kq, x17_2, rfl, HA, HJ2, BK413, HB⟩ := hcut
  cases kq with
  | zero => exact absurd HA.out (by simp [analysis_Analyze.j0])
  | succ kj2 =>
   have H := HA.out
   clear HA
   simp only [analysis_Analyze.j0] at H
   by_cases c10 : x17_2 = true
   ·subst c10
    have H1 : (some (0, 0, 0, 0, 0, ([] : List Int), some 1)) = some (r1, r2, r3, r4, r5, r6, r7) := by rw [if_pos rfl] at H; exact H
    clear H
    have H := H1
    clear H1
    simp only [Option.some.injEq, Prod.mk.injEq] at H
    obtain ⟨rfl, rfl, rfl, rfl, rfl, rfl, rfl⟩ := H
    have hcz11 := blkAll6 BK413.out
    go_wp2
    refine bodyPost_ret (results_ct rfl _ _ gb413 25 #[.int .i64 0, .int .i64 0, .int .i64 0, .int .i64 0, .int .i64 0, .slice none 0 0] (0, 0) _ rfl (by (with_reducible repeat (first | apply kb1 | apply kb2 | apply kb3 | apply blkPut6_5 | apply blkPut6_4 | apply blkPut6_3 | apply blkPut6_2 | apply blkPut6_1 | apply blkPut6_0)); exact BK413.out) Tryz.underlying25 rfl (by kernel_rfl)) rfl ?_
    exact ⟨_, by first | rfl | (simp [errW_none, errW_some] <;> rfl) | (simp [*, errW_none, errW_some] <;> rfl), by first | exact Kd.R_nil _ _ _ _ _ | exact Kd.N_nil _ _ _ _ _ | exact Kd.V_nil _ _ _ _ _ | exact Kd.Q_nil _ _ _ _ _ | exact Kd.S_nil _ _ _ _ _, by repeat (first | (with_reducible first | exact HB.out | apply kc1 | apply kc2 | apply kc3 | refine kc4 ?_ GE413.out) | exact HB.out)⟩
   ·replace c10 := Bool.eq_false_iff.mpr c10
    subst c10
    have H1 : (analysis_Analyze.l0 kj2 l0 a1 l0 (l0.length : Int) 0 0 0 0 0 0) = some (r1, r2, r3, r4, r5, r6, r7) := by rw [if_neg (show ¬ (false = true) by decide)] at H; exact H
    clear H
    have H := H1
    clear H1
    have H' := ka H
    clear H
    go_wp2_with (first | ((with_reducible refine gate_dst (N := 6) rfl ?_); refine kx (N := 6) (cs := #[.int .i64 0, .int .i64 0, .int .i64 0, .int .i64 0, .int .i64 0, .slice none 0 0]) (t := 25) ?_; intro gb416 hg w12 hbox hb; have n0_ := ka (blk_below (g := gb413) (kz BK413.out) hb); have n1_ := ka (below_step (kw HB.out) hb); have n2_ := ka (hbox); have n3_ := ka ((by rw [hg]; exact (below_size (kw HB.out)) : w.heap.size ≤ gb416)); have n4_ := n3_; have n5_ := ka ((by rw [hg]; exact Nat.ne_of_lt (blk_lt (g := gb413) (kz BK413.out)) : gb413 ≠ gb416)); have n6_ := ka n5_.out.symm; clear BK413; clear HB; have BK413 := n0_; have HB := n1_; have BK416 := n2_; have GW416 := n3_; have GE416 := n4_; have NB413_416 := n5_; have NB416_413 := n6_; clear n0_ n1_ n2_ n3_ n4_ n5_ n6_; clear hb hbox hg))
    (try simp only [Act.put, List.setIfInBounds_toArray, List.set_cons_zero, List.set_cons_succ])
    go_loopg [22] kj2 (fun kq v22 w' => ∃ (x22_2 : Int) (x417000_2 : Int), v22 = .int .i64 x22_2 ∧ Aside0 (analysis_Analyze.l0 kq l0 a1 l0 (l0.length : Int) x22_2 x417000_2 0 0 0 0 = some (r1, r2, r3, r4, r5, r6, r7)) ∧ Aside0 (kq ≤ kj2) ∧ Aside0 (w'.heap[gb413]? = some (.cells #[.int .i64 0, .int .i64 0, .int .i64 0, .int .i64 0, .int .i64 0, (.slice none 0 0)] 25 (0, 0))) ∧ Aside0 (w'.heap[gb416]? = some (.cells #[.int .i64 x417000_2, .int .i64 0, .int .i64 0, .int .i64 0, .int .i64 0, (.slice none 0 0)] 25 (0, 0))) ∧ Aside0 (Below w.heap.size w w'))
    case atStart => exact ⟨(0), (0), (by first | rfl | (simp; done) | (simp [*]; done)), H', ⟨Nat.le_refl _⟩, ⟨by (with_reducible repeat (first | apply kb1 | apply kb2 | apply kb3)); exact BK413.out⟩, ⟨by (with_reducible repeat (first | apply kb1 | apply kb2 | apply kb3)); exact BK416.out⟩, ⟨by repeat (first | (with_reducible first | exact HB.out | apply kc1 | apply kc2 | apply kc3 | refine kc4 ?_ GE413.out | refine kc4 ?_ GE416.out) | exact HB.out)⟩⟩
    case round =>
     clear H'
     try clear c1
     try clear c2
     try clear p2
     try clear c6
     try clear c7
     try clear c10
     try clear hcz11
     try clear p2
     obtain ⟨x22_2, x417000_2, rfl, HA, HK2, BK413, BK416, HB⟩ := hrel
     cases gk with
     | zero => exact absurd HA.out (by simp [analysis_Analyze.l0])
     | succ k2 =>
      have H := HA.out
      clear HA
      simp only [analysis_Analyze.l0] at H
      by_cases c13 : x22_2 < (l0.length : Int)
      ·rw [if_pos c13] at H
       have c13b0 : decide (x22_2 < (l0.length : Int)) = true := decide_eq_true c13
       clear c13
       by_cases c14 : 0 ≤ x22_2
       ·rw [if_pos c14] at H
        have c14b0 : decide (0 ≤ x22_2) = true := decide_eq_true c14
        clear c14
        by_cases c15 : x22_2 < (l0.length : Int)
        ·rw [if_pos c15] at H
         have c15b0 : decide (x22_2 < (l0.length : Int)) = true := decide_eq_true c15
         clear c15
         have H' := ka H
         clear H
         have p417 : 0 ≤ (x22_2 : Int) := of_decide_eq_true (by first | (with_reducible assumption) | assumption)
         have q417 : x22_2 < (l0.length : Int) := of_decide_eq_true (by first | (with_reducible assumption) | assumption)
         obtain ⟨ad417, e417, hx417_0⟩ := Kd.at_int HR0.out x22_2 p417 q417
         cases e417
         replace hx417_0 := (HB.out.cell (World.block_lt_of_cell? w _ hx417_0)).trans hx417_0
         replace p417 := eq_true p417
         replace q417 := eq_true q417
         have hnb16 := NB416_413.out
         have hnc16 := NB413_416.out
         have hcz17 := blkAll6 BK416.out
         go_wp2
         go_roundg k2
         case measure => have := HJ2.out; have := HK2.out; omega
         case rel => exact ⟨(wrap64 (x22_2 + 1)), (wrap64 (x417000_2 + (rd l0 x22_2))), (by first | rfl | (simp; done) | (simp [*]; done)), H', ⟨by have := HJ2.out; have := HK2.out; omega⟩, ⟨by (with_reducible repeat (first | apply kb1 | apply kb2 | apply kb3)); refine kb4 ?_ NB413_416.out _; (with_reducible repeat (first | apply kb1 | apply kb2 | apply kb3)); exact BK413.out⟩, ⟨by (with_reducible repeat (first | apply kb1 | apply kb2 | apply kb3)); refine blk_put (cs := #[.int .i64 x417000_2, .int .i64 0, .int .i64 0, .int .i64 0, .int .i64 0, .slice none 0 0]) ?_ 0 _ rfl; (with_reducible repeat (first | apply kb1 | apply kb2 | apply kb3)); exact BK416.out⟩, ⟨by repeat (first | (with_reducible first | exact HB.out | apply kc1 | apply kc2 | apply kc3 | refine kc4 ?_ GE413.out | refine kc4 ?_ GE416.out) | exact HB.out)⟩⟩
        ·rw [if_neg c15] at H
         exact absurd H (by simp)
       ·rw [if_neg c14] at H
        exact absurd H (by simp)
      ·rw [if_neg c13] at H
       have c13b0 : decide (x22_2 < (l0.length : Int)) = false := decide_eq_false c13
       clear c13
       obtain ⟨ji18, hji18⟩ : ∃ j_ : Int, (mn a1 (wrap64 (Int.tdiv x417000_2 6))) = j_ := ⟨_, rfl⟩
       replace H : ((analysis_balances.f k2 l0 (wrap64 (Int.tdiv (wrap64 (x417000_2 + 11)) 12)) 0).bind fun t418 => ((slices_Min_int64_int64.f k2 t418).bind fun t421 => ((slices_Min_int64_int64.f k2 t418).bind fun t422 => ((slices_Index_int64_int64.f k2 t418 t422).bind fun t423 => ((analysis_balances.f k2 l0 (wrap64 (Int.tdiv (wrap64 (x417000_2 + 11)) 12)) (wrap64 ((ji18) - t421))).bind fun t424 => (some (x417000_2, wrap64 (Int.tdiv (wrap64 (x417000_2 + 11)) 12), ji18, wrap64 ((ji18) - t421), t423, t424, none))))))) = some (r1, r2, r3, r4, r5, r6, r7) := by first | (rw [hji18] at H; exact H) | (simp only [hji18] at H ⊢; exact H)
       have hji18_ : (if (wrap64 (Int.tdiv x417000_2 6)) < a1 then (wrap64 (Int.tdiv x417000_2 6)) else a1) = ji18 := hji18
       replace H := Option.bind_eq_some_iff.mp H
       obtain ⟨t418, A190, H⟩ := H
       replace H : ((slices_Min_int64_int64.f k2 t418).bind fun t421 => ((slices_Min_int64_int64.f k2 t418).bind fun t422 => ((slices_Index_int64_int64.f k2 t418 t422).bind fun t423 => ((analysis_balances.f k2 l0 (wrap64 (Int.tdiv (wrap64 (x417000_2 + 11)) 12)) (wrap64 ((ji18) - t421))).bind fun t424 => (some (x417000_2, wrap64 (Int.tdiv (wrap64 (x417000_2 + 11)) 12), ji18, wrap64 ((ji18) - t421), t423, t424, none)))))) = some (r1, r2, r3, r4, r5, r6, r7) := H
       have A19 := ka A190
       clear A190
       replace H := Option.bind_eq_some_iff.mp H
       obtain ⟨t421, A200, H⟩ := H
       replace H : ((slices_Min_int64_int64.f k2 t418).bind fun t422 => ((slices_Index_int64_int64.f k2 t418 t422).bind fun t423 => ((analysis_balances.f k2 l0 (wrap64 (Int.tdiv (wrap64 (x417000_2 + 11)) 12)) (wrap64 ((ji18) - t421))).bind fun t424 => (some (x417000_2, wrap64 (Int.tdiv (wrap64 (x417000_2 + 11)) 12), ji18, wrap64 ((ji18) - t421), t423, t424, none))))) = some (r1, r2, r3, r4, r5, r6, r7) := H
       have A20 := ka A200
       clear A200
       replace H := Option.bind_eq_some_iff.mp H
       obtain ⟨t422, A210, H⟩ := H
       replace H : ((slices_Index_int64_int64.f k2 t418 t422).bind fun t423 => ((analysis_balances.f k2 l0 (wrap64 (Int.tdiv (wrap64 (x417000_2 + 11)) 12)) (wrap64 ((ji18) - t421))).bind fun t424 => (some (x417000_2, wrap64 (Int.tdiv (wrap64 (x417000_2 + 11)) 12), ji18, wrap64 ((ji18) - t421), t423, t424, none)))) = some (r1, r2, r3, r4, r5, r6, r7) := H
       have A21 := ka A210
       clear A210
       replace H := Option.bind_eq_some_iff.mp H
       obtain ⟨t423, A220, H⟩ := H
       replace H : ((analysis_balances.f k2 l0 (wrap64 (Int.tdiv (wrap64 (x417000_2 + 11)) 12)) (wrap64 ((ji18) - t421))).bind fun t424 => (some (x417000_2, wrap64 (Int.tdiv (wrap64 (x417000_2 + 11)) 12), ji18, wrap64 ((ji18) - t421), t423, t424, none))) = some (r1, r2, r3, r4, r5, r6, r7) := H
       have A22 := ka A220
       clear A220
       replace H := Option.bind_eq_some_iff.mp H
       obtain ⟨t424, A230, H⟩ := H
       replace H : (some (x417000_2, wrap64 (Int.tdiv (wrap64 (x417000_2 + 11)) 12), ji18, wrap64 ((ji18) - t421), t423, t424, none)) = some (r1, r2, r3, r4, r5, r6, r7) := H
       have A23 := ka A230
       clear A230
       simp only [Option.some.injEq, Prod.mk.injEq] at H
       obtain ⟨rfl, rfl, rfl, rfl, rfl, rfl, rfl⟩ := H
       have hnb24 := NB416_413.out
       have hnc24 := NB413_416.out
       have hcz25 := blkAll6 BK416.out
       try go_wp2_with (first | ((with_reducible refine gate_callee (f := 24) rfl ?_); refine kg (some 46) rfl rfl Tryz.func24 (by kernel_rfl) rfl #[.slice A0 l0.length c0, .int .i64 (wrap64 (Int.tdiv (wrap64 (x417000_2 + 11)) 12)), .int .i64 0] rfl ?_; (with_reducible refine (analysis_balances.calls k2 _ _ l0 (wrap64 (Int.tdiv (wrap64 (x417000_2 + 11)) 12)) 0 t418 _ ?side1 ?side2 A19.out).mono ?_); (case side1 => exact Kd.C_below HR0.out (kw HB.out)); (case side2 => exact HC0.out); rintro e w26 ⟨v419, rfl, ho0, hb⟩; refine ⟨_, rfl, ?_⟩; have HO420 := ka (Kd.R_lower ho0 (below_size (kw HB.out))); replace BK413 := ka (blk_below (g := gb413) (o := .cells #[.int .i64 0, .int .i64 0, .int .i64 0, .int .i64 0, .int .i64 0, .slice none 0 0] 25 (0, 0)) (by (with_reducible repeat (first | apply kb1 | apply kb2 | apply kb3 | refine kb4 ?_ NB413_416.out _)); exact BK413.out) hb); replace BK416 := ka (blk_below (g := gb416) (o := .cells #[.int .i64 x417000_2, .int .i64 (wrap64 (Int.tdiv (wrap64 (x417000_2 + 11)) 12)), .int .i64 ji18, .int .i64 0, .int .i64 0, .slice none 0 0] 25 (0, 0)) (by (with_reducible repeat (first | apply kb1 | apply kb2 | apply kb3 | apply blkPut6_2 | apply blkPut6_1)); exact BK416.out) hb); replace HB := ka (below_step (kw HB.out) hb); (try clear hb); (try clear hb2); (try clear hk); (try clear hi); (try clear ho0)))
       replace HO420 := ka (Kd.R_drew HO420.out)
       replace BK413 := ka (blk_drew BK413.out)
       replace BK416 := ka (blk_drew BK416.out)
       replace HB := ka (below_drew1 HB.out)
       obtain ⟨Ao28, co28, eo28⟩ := Kd.R_slice HO420.out
       (first | subst eo28 | (injection eo28 with f1_ f2_ f3_; have f4_ := f1_.symm; have f5_ := f3_.symm; clear f1_ f2_ f3_; subst f4_; subst f5_))
       refine start_ (n := 7) (S := fun w' => w'.cell? ⟨gb416, 0, none⟩ = some (.int .i64 x417000_2) ∧ w'.cell? ⟨gb416, 1, none⟩ = some (.int .i64 (wrap64 (Int.tdiv (wrap64 (x417000_2 + 11)) 12))) ∧ w'.cell? ⟨gb416, 2, none⟩ = some (.int .i64 ji18) ∧ w'.cell? ⟨gb416, 3, none⟩ = some (.int .i64 0) ∧ w'.cell? ⟨gb416, 4, none⟩ = some (.int .i64 0) ∧ w'.cell? ⟨gb416, 5, none⟩ = some (.slice none 0 0)) (ds := [6]) #[false, false, false, false, false, false, false] (by kernel_rfl) rfl rfl ⟨(blk_cell BK416.out 0).trans rfl, (blk_cell BK416.out 1).trans rfl, (blk_cell BK416.out 2).trans rfl, (blk_cell BK416.out 3).trans rfl, (blk_cell BK416.out 4).trans rfl, (blk_cell BK416.out 5).trans rfl⟩ (fun hHeld => ?_)
       generalize w26.drew = w27 at HO420 BK413 BK416 HB hHeld ⊢
       refine pure_ (i := 0) (N := some 47) (v := ?_) (a' := ?_) #[true, false, false, false, false, false, false] rfl rfl (by kernel_rfl) (fun _ _ _ h => h) (Or.inl ⟨by rfl, ?_⟩) ?_ ?_
       rotate_left
       ·intro w'
        go_simp
        with_reducible rfl
       rotate_left
       ·simp only [Act.put, List.setIfInBounds_toArray, List.set_cons_zero, List.set_cons_succ, i64_w, i32_w]
        rfl
       refine pure_ (i := 2) (N := some 49) (v := ?_) (a' := ?_) #[true, false, true, false, false, false, false] rfl rfl (by kernel_rfl) (fun _ _ _ h => h) (Or.inl ⟨by rfl, ?_⟩) ?_ ?_
       rotate_left
       ·intro w'
        go_simp
        with_reducible rfl
       rotate_left
       ·simp only [Act.put, List.setIfInBounds_toArray, List.set_cons_zero, List.set_cons_succ, i64_w, i32_w]
        rfl
       refine take_ (i := 1) (N := some 48) (v := ?_) (a' := ?_) #[true, true, true, false, false, false, false] rfl rfl (by kernel_rfl) (fun _ _ _ h => h) (Or.inl ⟨by rfl, ?_⟩) hHeld ?_ ?_
       rotate_left
       ·rintro w' ⟨s0, s1, s2, s3, s4, s5⟩
        go_simp
        with_reducible rfl
       rotate_left
       ·simp only [Act.put, List.setIfInBounds_toArray, List.set_cons_zero, List.set_cons_succ, i64_w, i32_w]
        rfl
       refine one_ (i := 3) (N := some 50) #[true, true, true, true, false, false, false] rfl rfl (by kernel_rfl) (by decide) (fun K hK => ?_)
       refine goes_ Tryz.func25 (by kernel_rfl) rfl #[.slice Ao28 t418.length co28] (by rfl) rfl rfl (by (try simp only [List.map_toArray, List.map_cons, List.map_nil]); first | done | rfl | (simp only [List.length_drop, List.length_take]; rfl)) ?_
       with_reducible refine (slices_Min_int64_int64.calls k2 _ _ t418 t421 _ ?side1 ?side2 A20.out).mono ?_
       (case side1 => repeat (first | exact (Kd.R_reads' HO420.out).2.2 | (with_reducible refine Kd.C_alloc ?_ _) | (with_reducible refine Kd.C_drewN ?_ _) | (with_reducible refine Kd.C_drew ?_)))
       (case side2 => exact (Kd.R_reads' HO420.out).2.1)
       rintro e w29 ⟨rfl, hb⟩
       refine ⟨_, rfl, ?_⟩
       replace HO420 := ka (Kd.R_below (kr HO420.out) hb)
       replace BK413 := kbb BK413 hb
       replace BK416 := kbb BK416 hb
       replace HB := ka (below_step (kw HB.out) hb)
       (try clear hb)
       (try clear hb2)
       (try clear hk)
       (try clear hi)
       refine hK.out _ _ ⟨(blk_cell BK416.out 0).trans rfl, (blk_cell BK416.out 1).trans rfl, (blk_cell BK416.out 2).trans rfl, (blk_cell BK416.out 3).trans rfl, (blk_cell BK416.out 4).trans rfl, (blk_cell BK416.out 5).trans rfl⟩ (fun hHeld => ?_)
       clear hK K
       refine norm_ (a' := ?_) ?_ ?_
       rotate_left
       ·show Act.put _ (some 50) _ = _
        simp only [Act.put, List.setIfInBounds_toArray, List.set_cons_zero, List.set_cons_succ, i64_w, i32_w]
        rfl
       refine pure_ (i := 4) (N := some 51) (v := ?_) (a' := ?_) #[true, true, true, true, true, false, false] rfl rfl (by kernel_rfl) (fun _ _ _ h => h) (Or.inl ⟨by rfl, ?_⟩) ?_ ?_
       rotate_left
       ·intro w'
        go_simp
        with_reducible rfl
       rotate_left
       ·simp only [Act.put, List.setIfInBounds_toArray, List.set_cons_zero, List.set_cons_succ, i64_w, i32_w]
        rfl
       refine pure_ (i := 5) (N := some 52) (v := ?_) (a' := ?_) #[true, true, true, true, true, true, false] rfl rfl (by kernel_rfl) (fun _ _ _ h => h) (Or.inl ⟨by rfl, ?_⟩) ?_ ?_
       rotate_left
       ·intro w'
        go_simp
        with_reducible rfl
       rotate_left
       ·simp only [Act.put, List.setIfInBounds_toArray, List.set_cons_zero, List.set_cons_succ, i64_w, i32_w]
        rfl
       refine last_ (i := 6) (N := none) #[true, true, true, true, true, true, true] rfl rfl (by kernel_rfl) (by decide) (fun K hK => ?_)
       have hs30 : w29.cell? ⟨gb416, 3, none⟩ = some (.int .i64 0) := (blk_cell BK416.out 3).trans rfl
       have hfs30 := blk_frozen BK416.out 3
       have hns30_0 := NB413_416.out
       have hms30_0 := NB416_413.out
       refine skip_ (w1 := ?_) (by rfl) rfl ?_ ?_
       rotate_left
       ·go_simp
        rfl
       refine hK.out _ _ ?_
       clear hK K
       refine done_ (by kernel_rfl) ?_
       try go_wp2_with (first | ((with_reducible refine gate_callee (f := 25) rfl ?_); refine kg (some 55) rfl rfl Tryz.func25 (by kernel_rfl) rfl #[.slice Ao28 t418.length co28] rfl ?_; (with_reducible refine (slices_Min_int64_int64.calls k2 _ _ t418 t422 _ ?side1 ?side2 A21.out).mono ?_); (case side1 => refine (Kd.R_reads' (e := 2) (base := w.heap.size) (ok := fun k_ => True) (n := t418.length) (c := co28) ?_).2.2; exact (kr ((Kd.R_mono (Kd.R_far (p := ⟨gb416, 3, none⟩) (Kd.R_types HO420.out BK416.out (by decide)) (fun _ hk => hk.2) (.int .i64 (wrap64 ((ji18) - t421)))) (fun _ h_ => h_.1))))); (case side2 => exact (Kd.R_reads' HO420.out).2.1); rintro e w31 ⟨rfl, hb⟩; refine ⟨_, rfl, ?_⟩; replace HO420 := ka (Kd.R_below (kr ((Kd.R_mono (Kd.R_far (p := ⟨gb416, 3, none⟩) (Kd.R_types HO420.out BK416.out (by decide)) (fun _ hk => hk.2) (.int .i64 (wrap64 ((ji18) - t421)))) (fun _ h_ => h_.1)))) hb); replace BK413 := ka (blk_below (g := gb413) (o := .cells #[.int .i64 0, .int .i64 0, .int .i64 0, .int .i64 0, .int .i64 0, .slice none 0 0] 25 (0, 0)) (by (with_reducible repeat (first | apply kb1 | apply kb2 | apply kb3)); refine kb4 ?_ NB413_416.out _; (with_reducible repeat (first | apply kb1 | apply kb2 | apply kb3)); exact BK413.out) hb); replace BK416 := ka (blk_below (g := gb416) (o := .cells #[.int .i64 x417000_2, .int .i64 (wrap64 (Int.tdiv (wrap64 (x417000_2 + 11)) 12)), .int .i64 ji18, .int .i64 (wrap64 ((ji18) - t421)), .int .i64 0, .slice none 0 0] 25 (0, 0)) (by (with_reducible repeat (first | apply kb1 | apply kb2 | apply kb3)); refine blk_put (cs := #[.int .i64 x417000_2, .int .i64 (wrap64 (Int.tdiv (wrap64 (x417000_2 + 11)) 12)), .int .i64 ji18, .int .i64 0, .int .i64 0, .slice none 0 0]) ?_ 3 _ rfl; (with_reducible repeat (first | apply kb1 | apply kb2 | apply kb3)); exact BK416.out) hb); replace HB := ka (below_step (kw HB.out) hb); (try clear hb); (try clear hb2); (try clear hk); (try clear hi)) | ((with_reducible refine gate_callee (f := 26) rfl ?_); refine kg (some 56) rfl rfl Tryz.func26 (by kernel_rfl) rfl #[.slice Ao28 t418.length co28, .int .i64 t422] rfl ?_; (with_reducible refine (slices_Index_int64_int64.calls k2 _ _ t418 t422 t423 _ ?side1 ?side2 A22.out).mono ?_); (case side1 => repeat (first | exact (Kd.R_reads' HO420.out).2.2 | (with_reducible refine Kd.C_alloc ?_ _) | (with_reducible refine Kd.C_drewN ?_ _) | (with_reducible refine Kd.C_drew ?_))); (case side2 => exact (Kd.R_reads' HO420.out).2.1); rintro e w' ⟨rfl, ⟨nd, rfl⟩⟩; refine ⟨_, rfl, ?_⟩; (try (rw [drewN_self w31]; generalize hq_ : World.drewN w31 _ = w31; replace HO420 : Aside0 (Kd.R (Kd.int .i64) 2 w31 w.heap.size (fun _ => True) (.slice Ao28 t418.length co28) t418) := ⟨by rw [← hq_]; exact (kr HO420.out)⟩; replace BK413 : Aside0 (w31.heap[gb413]? = some (.cells #[.int .i64 0, .int .i64 0, .int .i64 0, .int .i64 0, .int .i64 0, .slice none 0 0] 25 (0, 0))) := ⟨by rw [← hq_]; exact (kz BK413.out)⟩; replace BK416 : Aside0 (w31.heap[gb416]? = some (.cells #[.int .i64 x417000_2, .int .i64 (wrap64 (Int.tdiv (wrap64 (x417000_2 + 11)) 12)), .int .i64 ji18, .int .i64 (wrap64 ((ji18) - t421)), .int .i64 0, .slice none 0 0] 25 (0, 0))) := ⟨by rw [← hq_]; exact (kz BK416.out)⟩; replace HB : Aside0 (Below w.heap.size w w31) := ⟨by rw [← hq_]; exact (kw HB.out)⟩; clear hq_)); have hcz32 := blkAll6 BK416.out) | ((with_reducible refine gate_callee (f := 24) rfl ?_); refine goesL_ (some 63) rfl rfl Tryz.func24 (by kernel_rfl) rfl #[.slice A0 l0.length c0, .int .i64 (wrap64 (Int.tdiv (wrap64 (x417000_2 + 11)) 12)), .int .i64 (wrap64 ((ji18) - t421))] rfl (by (try simp only [List.map_toArray, List.map_cons, List.map_nil]); first | done | (simp only [hji18]; rfl) | rfl | (simp only [List.length_drop, List.length_take]; rfl)) ?_; (with_reducible refine (analysis_balances.calls k2 _ _ l0 (wrap64 (Int.tdiv (wrap64 (x417000_2 + 11)) 12)) (wrap64 ((ji18) - t421)) t424 _ ?side1 ?side2 A23.out).mono ?_); (case side1 => exact Kd.C_below HR0.out (kw HB.out)); (case side2 => exact HC0.out); rintro e w33 ⟨v425, rfl, ho0, hb⟩; refine ⟨_, rfl, ?_⟩; have HO426 := ka (Kd.R_lower (Kd.R_new' ho0 (Kd.R_lt (kr ((Kd.R_mono (Kd.R_far (p := ⟨gb416, 4, none⟩) (Kd.R_types HO420.out BK416.out (by decide)) (fun _ hk => hk.2) (.int .i64 t423)) (fun _ h_ => h_.1)))))) (below_size (kw HB.out))); replace HO420 := ka (Kd.R_elder' (kr ((Kd.R_mono (Kd.R_far (p := ⟨gb416, 4, none⟩) (Kd.R_types HO420.out BK416.out (by decide)) (fun _ hk => hk.2) (.int .i64 t423)) (fun _ h_ => h_.1)))) (Kd.R_base ho0) hb); replace BK413 := ka (blk_below (g := gb413) (o := .cells #[.int .i64 0, .int .i64 0, .int .i64 0, .int .i64 0, .int .i64 0, .slice none 0 0] 25 (0, 0)) (by (with_reducible repeat (first | apply kb1 | apply kb2 | apply kb3)); refine kb4 ?_ NB413_416.out _; (with_reducible repeat (first | apply kb1 | apply kb2 | apply kb3)); exact BK413.out) hb); replace BK416 := ka (blk_below (g := gb416) (o := .cells #[.int .i64 x417000_2, .int .i64 (wrap64 (Int.tdiv (wrap64 (x417000_2 + 11)) 12)), .int .i64 ji18, .int .i64 (wrap64 ((ji18) - t421)), .int .i64 t423, .slice none 0 0] 25 (0, 0)) (by (with_reducible repeat (first | apply kb1 | apply kb2 | apply kb3)); refine blk_put (cs := #[.int .i64 x417000_2, .int .i64 (wrap64 (Int.tdiv (wrap64 (x417000_2 + 11)) 12)), .int .i64 ji18, .int .i64 (wrap64 ((ji18) - t421)), .int .i64 0, .slice none 0 0]) ?_ 4 _ rfl; (with_reducible repeat (first | apply kb1 | apply kb2 | apply kb3)); exact BK416.out) hb); replace HB := ka (below_step (kw HB.out) hb); (try clear hb); (try clear hb2); (try clear hk); (try clear hi); (try clear ho0); obtain ⟨Ao34, co34, eo34⟩ := Kd.R_slice HO426.out; subst eo34; have hcz35 := blkAll6 BK416.out; have hcz36 := blkAll6 BK413.out))
       refine bodyPost_ret (results_ct rfl _ _ gb413 25 #[.int .i64 x417000_2, .int .i64 (wrap64 (Int.tdiv (wrap64 (x417000_2 + 11)) 12)), .int .i64 ji18, .int .i64 (wrap64 ((ji18) - t421)), .int .i64 t423, .slice Ao34 t424.length co34] (0, 0) _ rfl (by (with_reducible repeat (first | apply kb1 | apply kb2 | apply kb3 | apply blkPut6_5 | apply blkPut6_4 | apply blkPut6_3 | apply blkPut6_2 | apply blkPut6_1 | apply blkPut6_0 | refine kb4 ?_ NB413_416.out _)); exact BK413.out) Tryz.underlying25 rfl (by kernel_rfl)) rfl ?_
       exact ⟨_, by first | rfl | (simp [errW_none, errW_some] <;> rfl) | (simp only [← hji18]; first | rfl | (simp [errW_none, errW_some] <;> rfl)) | (simp [*, errW_none, errW_some] <;> rfl), by (with_reducible repeat (first | apply Kd.R_alloc | apply Kd.R_drewN | apply Kd.R_drew)); exact Kd.R_mono (Kd.R_far (p := ⟨gb413, 5, none⟩) (Kd.R_far (p := ⟨gb413, 4, none⟩) (Kd.R_far (p := ⟨gb413, 3, none⟩) (Kd.R_far (p := ⟨gb413, 2, none⟩) (Kd.R_far (p := ⟨gb413, 1, none⟩) (Kd.R_far (p := ⟨gb413, 0, none⟩) (Kd.R_far (p := ⟨gb416, 5, none⟩) (Kd.R_types (Kd.R_types HO426.out BK416.out (by decide)) BK413.out (by decide)) (fun _ hk => hk.1.2) (.slice Ao34 t424.length co34)) (fun _ hk => hk.2) (.int .i64 x417000_2)) (fun _ hk => hk.2) (.int .i64 (wrap64 (Int.tdiv (wrap64 (x417000_2 + 11)) 12)))) (fun _ hk => hk.2) (.int .i64 ji18)) (fun _ hk => hk.2) (.int .i64 (wrap64 ((ji18) - t421)))) (fun _ hk => hk.2) (.int .i64 t423)) (fun _ hk => hk.2) (.slice Ao34 t424.length co34)) (fun _ hk => trivial), by repeat (first | (with_reducible first | exact HB.out | apply kc1 | apply kc2 | apply kc3 | refine kc4 ?_ GE413.out | refine kc4 ?_ GE416.out) | exact HB.out)⟩

end Go.Proofs.YtbbhdlbpefibeaaGreatDoor.P
