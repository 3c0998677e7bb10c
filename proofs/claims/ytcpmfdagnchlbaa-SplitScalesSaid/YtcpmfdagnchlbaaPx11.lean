-- Written by a program of this session out of the translation of the seat: Lean functions and the proofs that the Go functions come to them.
import Derived.Test.YtcpmfdagnchlbaaPx0
import Derived.Test.YtcpmfdagnchlbaaPx3
import Derived.Test.YtcpmfdagnchlbaaPx4
import Derived.Test.YtcpmfdagnchlbaaPx10
namespace Go.Proofs.Ytcpmfdagnchlbaa.P
open Go.RowKit Go.Proofs.YtcpmfdagnchlbaaW.PrintWords Go.Proofs.YtcpmfdagnchlbaaW.PrintLast Go.Proofs.YtcpmfdagnchlbaaW.PrintMore
attribute [local go_sem] max2_int min2_int max_two min_two max_three min_three max_four min_four   -- for this text's walks alone
set_option linter.unusedVariables false
set_option linter.unusedSimpArgs false

/-! ### trivetlaw03_SplitScales: function 7 -/
mutual
def trivetlaw03_SplitScales.j0 : Nat → Int → List Int → Int → Bool → Bool → Option (Bool)
 | 0, _, _, _, _, _ => none
 | k + 1, x0, x1, x2, x7, x25 => if x25 = true then (some x7) else (trivetlaw03_SplitScales.l0 k x0 x1 x2 x7 ([] : List Int) 0)
def trivetlaw03_SplitScales.l0 : Nat → Int → List Int → Int → Bool → List Int → Int → Option (Bool)
 | 0, _, _, _, _, _, _ => none
 | k + 1, x0, x1, x2, x7, x8, x9 => if x9 < (x1.length : Int) then (if 0 ≤ x9 then (if (rd x1 x9) < 0 then (some x7) else (if (rd x1 x9) > 10000000000 then (some x7) else (if x8.length < 17592186044416 then (trivetlaw03_SplitScales.l0 k x0 x1 x2 x7 (x8 ++ [wrap64 ((rd x1 x9) * x2)]) (wrap64 (x9 + 1))) else (none)))) else (none)) else ((split_Shares.f k x0 x1).bind fun bt319 => ((split_Shares.f k x0 x8).bind fun bt323 => (if x7 = true then (if bt319.2.isNone = true then (if bt323.2.isNone = true then ((trivetlaw03_same.f k bt319.1 bt323.1).bind fun t329 => (some t329)) else (none)) else (if bt323.2.isNone = true then (none) else ((trivetlaw03_same.f k bt319.1 bt323.1).bind fun t331 => (some t331)))) else (none))))
end
def trivetlaw03_SplitScales.f (k : Nat) (a0 : Int) (l1 : List Int) (a2 : Int) : Option (Bool) := (trivetlaw03_up.f k).bind fun t312 => (if (l1.length : Int) > 500 then (trivetlaw03_SplitScales.j0 k a0 l1 a2 t312 true) else (if a2 < 1 then (trivetlaw03_SplitScales.j0 k a0 l1 a2 t312 true) else (trivetlaw03_SplitScales.j0 k a0 l1 a2 t312 (decide (a2 > 1000)))))
theorem trivetlaw03_SplitScales.mono_l : ∀ k, (∀ y0 y1 y2 y3 y4, LeO (trivetlaw03_SplitScales.j0 k y0 y1 y2 y3 y4) (trivetlaw03_SplitScales.j0 (k + 1) y0 y1 y2 y3 y4)) ∧ (∀ y0 y1 y2 y3 y4 y5, LeO (trivetlaw03_SplitScales.l0 k y0 y1 y2 y3 y4 y5) (trivetlaw03_SplitScales.l0 (k + 1) y0 y1 y2 y3 y4 y5))
 | 0 => ⟨fun _ _ _ _ _ r h => by simp [trivetlaw03_SplitScales.j0] at h, fun _ _ _ _ _ _ r h => by simp [trivetlaw03_SplitScales.l0] at h⟩
 | k + 1 => by
  obtain ⟨ih0, ih1⟩ := trivetlaw03_SplitScales.mono_l k
  refine ⟨?_, ?_⟩
  ·intro y0 y1 y2 y3 y4
   unfold trivetlaw03_SplitScales.j0
   repeat' first
   | (with_reducible exact ih0 _ _ _ _ _)
   | (with_reducible exact ih1 _ _ _ _ _ _)
   | (with_reducible exact split_Shares.mono _ _ _)
   | (with_reducible exact trivetlaw03_same.mono _ _ _)
   | (with_reducible exact trivetlaw03_up.mono _)
   | (with_reducible exact LeO.refl _)
   | (with_reducible exact LeO.none _)
   | (with_reducible refine LeO.ite ?_ ?_)
   | (with_reducible refine LeO.bind ?_ (fun _ => ?_))
   | exact ih0 _ _ _ _ _
   | exact ih1 _ _ _ _ _ _
   | exact split_Shares.mono _ _ _
   | exact trivetlaw03_same.mono _ _ _
   | exact trivetlaw03_up.mono _
   | exact LeO.none _
   | refine LeO.ite ?_ ?_
   | refine LeO.bind ?_ (fun _ => ?_)
  ·intro y0 y1 y2 y3 y4 y5
   unfold trivetlaw03_SplitScales.l0
   repeat' first
   | (with_reducible exact ih0 _ _ _ _ _)
   | (with_reducible exact ih1 _ _ _ _ _ _)
   | (with_reducible exact split_Shares.mono _ _ _)
   | (with_reducible exact trivetlaw03_same.mono _ _ _)
   | (with_reducible exact trivetlaw03_up.mono _)
   | (with_reducible exact LeO.refl _)
   | (with_reducible exact LeO.none _)
   | (with_reducible refine LeO.ite ?_ ?_)
   | (with_reducible refine LeO.bind ?_ (fun _ => ?_))
   | exact ih0 _ _ _ _ _
   | exact ih1 _ _ _ _ _ _
   | exact split_Shares.mono _ _ _
   | exact trivetlaw03_same.mono _ _ _
   | exact trivetlaw03_up.mono _
   | exact LeO.none _
   | refine LeO.ite ?_ ?_
   | refine LeO.bind ?_ (fun _ => ?_)
theorem trivetlaw03_SplitScales.mono : ∀ a0 a1 a2 k, LeO (trivetlaw03_SplitScales.f k a0 a1 a2) (trivetlaw03_SplitScales.f (k + 1) a0 a1 a2) := by
 intro a0 a1 a2 k
 obtain ⟨ih0, ih1⟩ := trivetlaw03_SplitScales.mono_l k
 unfold trivetlaw03_SplitScales.f
 repeat' first
   | (with_reducible exact ih0 _ _ _ _ _)
   | (with_reducible exact ih1 _ _ _ _ _ _)
   | (with_reducible exact split_Shares.mono _ _ _)
   | (with_reducible exact trivetlaw03_same.mono _ _ _)
   | (with_reducible exact trivetlaw03_up.mono _)
   | (with_reducible exact LeO.refl _)
   | (with_reducible exact LeO.none _)
   | (with_reducible refine LeO.ite ?_ ?_)
   | (with_reducible refine LeO.bind ?_ (fun _ => ?_))
   | exact ih0 _ _ _ _ _
   | exact ih1 _ _ _ _ _ _
   | exact split_Shares.mono _ _ _
   | exact trivetlaw03_same.mono _ _ _
   | exact trivetlaw03_up.mono _
   | exact LeO.none _
   | refine LeO.ite ?_ ?_
   | refine LeO.bind ?_ (fun _ => ?_)
set_option maxHeartbeats 8000000 in
set_option maxRecDepth 100000 in
theorem trivetlaw03_SplitScales.calls (k : Nat) (a0 : Int) (A1 : Option Addr) (c1 : Nat) (l1 : List Int) (a2 : Int) (r : Bool) (w : World) (hr1 : Kd.C (Kd.int .i64) w A1 l1.length l1) (hc1 : l1.length ≤ c1) (h : trivetlaw03_SplitScales.f k a0 l1 a2 = some r) :
  Calls Try.prog 7 #[.int .i64 a0, .slice A1 l1.length c1, .int .i64 a2] w fun e w' => e = .returned (.bool r) ∧ Below w.heap.size w w' := by
 have hu25 := Try.underlying25
 have hu29 := Try.underlying29
 have HR1 := ka hr1
 have HC1 := ka hc1
 clear hr1 hc1
 have HB := ka (Below.refl w.heap.size w)
 have H : ((trivetlaw03_up.f k).bind fun t312 => (if (l1.length : Int) > 500 then (trivetlaw03_SplitScales.j0 k a0 l1 a2 t312 true) else (if a2 < 1 then (trivetlaw03_SplitScales.j0 k a0 l1 a2 t312 true) else (trivetlaw03_SplitScales.j0 k a0 l1 a2 t312 (decide (a2 > 1000)))))) = some r := h
 clear h
 replace H := Option.bind_eq_some_iff.mp H
 obtain ⟨t312, A40, H⟩ := H
 replace H : (if (l1.length : Int) > 500 then (trivetlaw03_SplitScales.j0 k a0 l1 a2 t312 true) else (if a2 < 1 then (trivetlaw03_SplitScales.j0 k a0 l1 a2 t312 true) else (trivetlaw03_SplitScales.j0 k a0 l1 a2 t312 (decide (a2 > 1000))))) = some r := H
 have A4 := ka A40
 clear A40
 have HC5 := ka H
 clear H
 go_enter Try.func7, Try.ntmps7
 go_upto_region 2 with (first | (go_at_call 9; (with_reducible refine (trivetlaw03_up.calls k  t312 _ A4.out).mono ?_); rintro e w6 ⟨rfl, hb⟩; replace HB := ka (below_step (kw HB.out) hb); (try clear hb); (try clear hb2); (try clear hk); (try clear hi)))
 repeat (go_quiet (first | (go_at_call 9; (with_reducible refine (trivetlaw03_up.calls k  t312 _ A4.out).mono ?_); rintro e w6 ⟨rfl, hb⟩; replace HB := ka (below_step (kw HB.out) hb); (try clear hb); (try clear hb2); (try clear hk); (try clear hi))); go_upto_region 2 with (first | (go_at_call 9; (with_reducible refine (trivetlaw03_up.calls k  t312 _ A4.out).mono ?_); rintro e w6 ⟨rfl, hb⟩; replace HB := ka (below_step (kw HB.out) hb); (try clear hb); (try clear hb2); (try clear hk); (try clear hi))))
 (try simp only [Act.put, List.setIfInBounds_toArray, List.set_cons_zero, List.set_cons_succ])
 go_cut [25] (fun v25 wc => ∃ (kq : Nat) (x25_4 : Bool), v25 = .bool x25_4 ∧ Aside0 (trivetlaw03_SplitScales.j0 kq a0 l1 a2 t312 x25_4 = some r) ∧ Aside0 (kq ≤ k) ∧ Aside0 (Below w.heap.size w wc))
 case first =>
  have H := HC5.out
  clear HC5
  by_cases c7 : (l1.length : Int) > 500
  ·rw [if_pos c7] at H
   have c7b0 : decide (500 < (l1.length : Int)) = true := decide_eq_true c7
   have c7b1 : decide (500 < l1.length) = true := decide_eq_true (by omega)
   clear c7
   (first | rw [c7b0] | (simp only [i64_w, i32_w]; rw [c7b0]) | skip)
   have H' := ka H
   clear H
   go_wp2
   repeat (go_quiet (fail); try go_wp2)
   go_meet
   case rel => exact ⟨_, (true), (by first | rfl | (simp; done) | (simp [*]; done)), H', ⟨by first | omega | exact Nat.le_refl _⟩, ⟨by repeat (first | (with_reducible first | exact HB.out | apply kc1 | apply kc2 | apply kc3) | exact HB.out)⟩⟩
  ·rw [if_neg c7] at H
   have c7b0 : decide (500 < (l1.length : Int)) = false := decide_eq_false c7
   have c7b1 : decide (500 < l1.length) = false := decide_eq_false (by omega)
   clear c7
   (first | rw [c7b0] | (simp only [i64_w, i32_w]; rw [c7b0]) | skip)
   by_cases c8 : a2 < 1
   ·rw [if_pos c8] at H
    have c8b0 : decide (a2 < 1) = true := decide_eq_true c8
    clear c8
    have H' := ka H
    clear H
    go_wp2
    repeat (go_quiet (fail); try go_wp2)
    go_meet
    case rel => exact ⟨_, (true), (by first | rfl | (simp; done) | (simp [*]; done)), H', ⟨by first | omega | exact Nat.le_refl _⟩, ⟨by repeat (first | (with_reducible first | exact HB.out | apply kc1 | apply kc2 | apply kc3) | exact HB.out)⟩⟩
   ·rw [if_neg c8] at H
    have c8b0 : decide (a2 < 1) = false := decide_eq_false c8
    clear c8
    have H' := ka H
    clear H
    go_wp2
    repeat (go_quiet (fail); try go_wp2)
    go_meet
    case rel => exact ⟨_, (decide (a2 > 1000)), (by first | rfl | (simp; done) | (simp [*]; done)), H', ⟨by first | omega | exact Nat.le_refl _⟩, ⟨by repeat (first | (with_reducible first | exact HB.out | apply kc1 | apply kc2 | apply kc3) | exact HB.out)⟩⟩
 case rest =>
  clear HC5
  try clear c1
  try clear p2
  try clear c7
  try clear c7b0
  try clear c7b1
  try clear c8
  try clear c8b0
  obtain ⟨kq, x25_4, rfl, HA, HJ4, HB⟩ := hcut
  cases kq with
  | zero => exact absurd HA.out (by simp [trivetlaw03_SplitScales.j0])
  | succ kj4 =>
   have H := HA.out
   clear HA
   simp only [trivetlaw03_SplitScales.j0] at H
   by_cases c9 : x25_4 = true
   ·subst c9
    have H1 : (some t312) = some r := by rw [if_pos rfl] at H; exact H
    clear H
    have H := H1
    clear H1
    obtain rfl := Option.some.inj H
    go_wp2
    repeat (go_quiet (fail); try go_wp2)
    go_ret
    exact ⟨by first | rfl | (simp [errW_none, errW_some] <;> rfl) | (simp [*, errW_none, errW_some] <;> rfl), by repeat (first | (with_reducible first | exact HB.out | apply kc1 | apply kc2 | apply kc3) | exact HB.out)⟩
   ·replace c9 := Bool.eq_false_iff.mpr c9
    subst c9
    have H1 : (trivetlaw03_SplitScales.l0 kj4 a0 l1 a2 t312 ([] : List Int) 0) = some r := by rw [if_neg (show ¬ (false = true) by decide)] at H; exact H
    clear H
    have H := H1
    clear H1
    have H' := ka H
    clear H
    go_wp2
    repeat (go_quiet (fail); try go_wp2)
    (try simp only [Act.put, List.setIfInBounds_toArray, List.set_cons_zero, List.set_cons_succ])
    go_loopg [8, 9] kj4 (fun kq v8 v9 w' => ∃ (x8_2 : List Int) (x9_2 : Int), v9 = .int .i64 x9_2 ∧ Aside0 (trivetlaw03_SplitScales.l0 kq a0 l1 a2 t312 x8_2 x9_2 = some r) ∧ Aside0 (kq ≤ kj4) ∧ Aside0 (Kd.R (Kd.int .i64) 2 w' w.heap.size (fun _ => True) v8 x8_2) ∧ Aside0 (Below w.heap.size w w'))
    case atStart => exact ⟨(([] : List Int)), (0), (by first | rfl | (simp; done) | (simp [*]; done)), H', ⟨Nat.le_refl _⟩, ⟨by first | exact Kd.R_nil _ _ _ _ _ | exact Kd.N_nil _ _ _ _ _ | exact Kd.V_nil _ _ _ _ _ | exact Kd.Q_nil _ _ _ _ _ | exact Kd.S_nil _ _ _ _ _⟩, ⟨by repeat (first | (with_reducible first | exact HB.out | apply kc1 | apply kc2 | apply kc3) | exact HB.out)⟩⟩
    case round =>
     clear H'
     try clear c1
     try clear p2
     try clear c7
     try clear c7b0
     try clear c7b1
     try clear c8
     try clear c8b0
     try clear c9
     try clear p2
     obtain ⟨x8_2, x9_2, rfl, HA, HK2, HO_8, HB⟩ := hrel
     cases gk with
     | zero => exact absurd HA.out (by simp [trivetlaw03_SplitScales.l0])
     | succ k2 =>
      have H := HA.out
      clear HA
      simp only [trivetlaw03_SplitScales.l0] at H
      by_cases c10 : x9_2 < (l1.length : Int)
      ·rw [if_pos c10] at H
       have c10b0 : decide (x9_2 < (l1.length : Int)) = true := decide_eq_true c10
       clear c10
       by_cases c11 : 0 ≤ x9_2
       ·rw [if_pos c11] at H
        have c11b0 : decide (0 ≤ x9_2) = true := decide_eq_true c11
        clear c11
        by_cases c12 : (rd l1 x9_2) < 0
        ·rw [if_pos c12] at H
         have c12b0 : decide ((rd l1 x9_2) < 0) = true := decide_eq_true c12
         clear c12
         obtain rfl := Option.some.inj H
         have p313 : 0 ≤ (x9_2 : Int) := of_decide_eq_true (by first | (with_reducible assumption) | assumption)
         have q313 : x9_2 < (l1.length : Int) := of_decide_eq_true (by first | (with_reducible assumption) | assumption)
         obtain ⟨ad313, e313, hx313_0⟩ := Kd.at_int HR1.out x9_2 p313 q313
         cases e313
         replace hx313_0 := (HB.out.cell (World.block_lt_of_cell? w _ hx313_0)).trans hx313_0
         replace p313 := eq_true p313
         replace q313 := eq_true q313
         go_wp2
         repeat (go_quiet (fail); try go_wp2)
         go_ret
         exact ⟨by first | rfl | (simp [errW_none, errW_some] <;> rfl) | (simp [*, errW_none, errW_some] <;> rfl), by repeat (first | (with_reducible first | exact HB.out | apply kc1 | apply kc2 | apply kc3) | exact HB.out)⟩
        ·rw [if_neg c12] at H
         have c12b0 : decide ((rd l1 x9_2) < 0) = false := decide_eq_false c12
         clear c12
         by_cases c13 : (rd l1 x9_2) > 10000000000
         ·rw [if_pos c13] at H
          have c13b0 : decide (10000000000 < (rd l1 x9_2)) = true := decide_eq_true c13
          clear c13
          obtain rfl := Option.some.inj H
          have p313 : 0 ≤ (x9_2 : Int) := of_decide_eq_true (by first | (with_reducible assumption) | assumption)
          have q313 : x9_2 < (l1.length : Int) := of_decide_eq_true (by first | (with_reducible assumption) | assumption)
          obtain ⟨ad313, e313, hx313_0⟩ := Kd.at_int HR1.out x9_2 p313 q313
          cases e313
          replace hx313_0 := (HB.out.cell (World.block_lt_of_cell? w _ hx313_0)).trans hx313_0
          replace p313 := eq_true p313
          replace q313 := eq_true q313
          have p314 : 0 ≤ (x9_2 : Int) := of_decide_eq_true (by first | (with_reducible assumption) | assumption)
          have q314 : x9_2 < (l1.length : Int) := of_decide_eq_true (by first | (with_reducible assumption) | assumption)
          obtain ⟨ad314, e314, hx314_0⟩ := Kd.at_int HR1.out x9_2 p314 q314
          obtain rfl : ad313 = ad314 := (by injection e314)
          replace hx314_0 := (HB.out.cell (World.block_lt_of_cell? w _ hx314_0)).trans hx314_0
          replace p314 := eq_true p314
          replace q314 := eq_true q314
          go_wp2
          repeat (go_quiet (fail); try go_wp2)
          go_ret
          exact ⟨by first | rfl | (simp [errW_none, errW_some] <;> rfl) | (simp [*, errW_none, errW_some] <;> rfl), by repeat (first | (with_reducible first | exact HB.out | apply kc1 | apply kc2 | apply kc3) | exact HB.out)⟩
         ·rw [if_neg c13] at H
          have c13b0 : decide (10000000000 < (rd l1 x9_2)) = false := decide_eq_false c13
          clear c13
          by_cases c14 : x8_2.length < 17592186044416
          ·rw [if_pos c14] at H
           have LMc14 := ka c14
           clear c14
           obtain ⟨y316, hy316⟩ : ∃ y_ : List Int, y_ = (x8_2 ++ [wrap64 ((rd l1 x9_2) * a2)]) := ⟨_, rfl⟩
           replace H : (trivetlaw03_SplitScales.l0 k2 a0 l1 a2 t312 y316 (wrap64 (x9_2 + 1))) = some r := by first | (rw [hy316]; with_reducible exact H) | (have H2_ := (Option.bind_some _ _).symm.trans H; rw [hy316]; with_reducible exact H2_) | (have H2_ := (Option.bind_some _ _).symm.trans H; with_reducible exact H2_) | with_reducible exact H | (rw [hy316]; exact H) | exact H
           have Ny316 := ka hy316
           clear hy316
           have H' := ka H
           clear H
           have p313 : 0 ≤ (x9_2 : Int) := of_decide_eq_true (by first | (with_reducible assumption) | assumption)
           have q313 : x9_2 < (l1.length : Int) := of_decide_eq_true (by first | (with_reducible assumption) | assumption)
           obtain ⟨ad313, e313, hx313_0⟩ := Kd.at_int HR1.out x9_2 p313 q313
           cases e313
           replace hx313_0 := (HB.out.cell (World.block_lt_of_cell? w _ hx313_0)).trans hx313_0
           replace p313 := eq_true p313
           replace q313 := eq_true q313
           have p314 : 0 ≤ (x9_2 : Int) := of_decide_eq_true (by first | (with_reducible assumption) | assumption)
           have q314 : x9_2 < (l1.length : Int) := of_decide_eq_true (by first | (with_reducible assumption) | assumption)
           obtain ⟨ad314, e314, hx314_0⟩ := Kd.at_int HR1.out x9_2 p314 q314
           obtain rfl : ad313 = ad314 := (by injection e314)
           replace hx314_0 := (HB.out.cell (World.block_lt_of_cell? w _ hx314_0)).trans hx314_0
           replace p314 := eq_true p314
           replace q314 := eq_true q314
           have p315 : 0 ≤ (x9_2 : Int) := of_decide_eq_true (by first | (with_reducible assumption) | assumption)
           have q315 : x9_2 < (l1.length : Int) := of_decide_eq_true (by first | (with_reducible assumption) | assumption)
           obtain ⟨ad315, e315, hx315_0⟩ := Kd.at_int HR1.out x9_2 p315 q315
           obtain rfl : ad313 = ad315 := (by injection e315)
           replace hx315_0 := (HB.out.cell (World.block_lt_of_cell? w _ hx315_0)).trans hx315_0
           replace p315 := eq_true p315
           replace q315 := eq_true q315
           go_wp2_with (first | ((with_reducible refine gate_builtin (b := .append) (xs := #[.tmp 46, .tmp 53]) rfl ?_); at_builtin; refine Kd.R_append (Kd.int .i64) (w0 := w) w.heap.size rfl (.tmp 46) (.tmp 53) 22 2 (.int .i64 0) 8 rfl Try.underlying22 info2 rfl (by decide) (by omega) u8 x8_2 (wrap64 ((rd l1 x9_2) * a2)) [.int .i64 (wrap64 ((rd l1 x9_2) * a2))] (fun _ => True) (fun _ => False) rfl rfl ?aP (fun _ hk => hk.elim) ?aF ?aO ?aB ?aS ?aL ?_; (case aP => exact rfl); (case aB => exact (kw HB.out)); (case aF => exact (fun _ _ => trivial)); (case aO => exact (kr HO_8.out)); (case aS => exact (below_size (kw HB.out))); (case aL => have := LMc14.out; omega); intro v317 w15 ho hb hg hat; rw [← Ny316.out] at ho; replace HB := ka (hb); have HO318 := ka (ho); clear HO_8; clear ho hb hg hat))
           repeat (go_quiet (first | ((with_reducible refine gate_builtin (b := .append) (xs := #[.tmp 46, .tmp 53]) rfl ?_); at_builtin; refine Kd.R_append (Kd.int .i64) (w0 := w) w.heap.size rfl (.tmp 46) (.tmp 53) 22 2 (.int .i64 0) 8 rfl Try.underlying22 info2 rfl (by decide) (by omega) u8 x8_2 (wrap64 ((rd l1 x9_2) * a2)) [.int .i64 (wrap64 ((rd l1 x9_2) * a2))] (fun _ => True) (fun _ => False) rfl rfl ?aP (fun _ hk => hk.elim) ?aF ?aO ?aB ?aS ?aL ?_; (case aP => exact rfl); (case aB => exact (kw HB.out)); (case aF => exact (fun _ _ => trivial)); (case aO => exact (kr HO_8.out)); (case aS => exact (below_size (kw HB.out))); (case aL => have := LMc14.out; omega); intro v317 w15 ho hb hg hat; rw [← Ny316.out] at ho; replace HB := ka (hb); have HO318 := ka (ho); clear HO_8; clear ho hb hg hat)); try go_wp2_with (first | ((with_reducible refine gate_builtin (b := .append) (xs := #[.tmp 46, .tmp 53]) rfl ?_); at_builtin; refine Kd.R_append (Kd.int .i64) (w0 := w) w.heap.size rfl (.tmp 46) (.tmp 53) 22 2 (.int .i64 0) 8 rfl Try.underlying22 info2 rfl (by decide) (by omega) u8 x8_2 (wrap64 ((rd l1 x9_2) * a2)) [.int .i64 (wrap64 ((rd l1 x9_2) * a2))] (fun _ => True) (fun _ => False) rfl rfl ?aP (fun _ hk => hk.elim) ?aF ?aO ?aB ?aS ?aL ?_; (case aP => exact rfl); (case aB => exact (kw HB.out)); (case aF => exact (fun _ _ => trivial)); (case aO => exact (kr HO_8.out)); (case aS => exact (below_size (kw HB.out))); (case aL => have := LMc14.out; omega); intro v317 w15 ho hb hg hat; rw [← Ny316.out] at ho; replace HB := ka (hb); have HO318 := ka (ho); clear HO_8; clear ho hb hg hat)))
           go_roundg k2
           case measure => have := HJ4.out; have := HK2.out; omega
           case rel => exact ⟨(y316), (wrap64 (x9_2 + 1)), (by first | rfl | (simp; done) | (simp [*]; done)), H', ⟨by have := HJ4.out; have := HK2.out; omega⟩, ⟨kr HO318.out⟩, ⟨by repeat (first | (with_reducible first | exact HB.out | apply kc1 | apply kc2 | apply kc3) | exact HB.out)⟩⟩
          ·rw [if_neg c14] at H
           exact absurd H (by simp)
       ·rw [if_neg c11] at H
        exact absurd H (by simp)
      ·rw [if_neg c10] at H
       have c10b0 : decide (x9_2 < (l1.length : Int)) = false := decide_eq_false c10
       clear c10
       replace H := Option.bind_eq_some_iff.mp H
       obtain ⟨⟨t319, t320⟩, A160, H⟩ := H
       replace H : ((split_Shares.f k2 a0 x8_2).bind fun bt323 => (if t312 = true then (if t320.isNone = true then (if bt323.2.isNone = true then ((trivetlaw03_same.f k2 t319 bt323.1).bind fun t329 => (some t329)) else (none)) else (if bt323.2.isNone = true then (none) else ((trivetlaw03_same.f k2 t319 bt323.1).bind fun t331 => (some t331)))) else (none))) = some r := H
       have A16 := ka A160
       clear A160
       replace H := Option.bind_eq_some_iff.mp H
       obtain ⟨⟨t323, t324⟩, A170, H⟩ := H
       replace H : (if t312 = true then (if t320.isNone = true then (if t324.isNone = true then ((trivetlaw03_same.f k2 t319 t323).bind fun t329 => (some t329)) else (none)) else (if t324.isNone = true then (none) else ((trivetlaw03_same.f k2 t319 t323).bind fun t331 => (some t331)))) else (none)) = some r := H
       have A17 := ka A170
       clear A170
       by_cases c18 : t312 = true
       ·subst c18
        have H1 : (if t320.isNone = true then (if t324.isNone = true then ((trivetlaw03_same.f k2 t319 t323).bind fun t329 => (some t329)) else (none)) else (if t324.isNone = true then (none) else ((trivetlaw03_same.f k2 t319 t323).bind fun t331 => (some t331)))) = some r := by rw [if_pos rfl] at H; exact H
        clear H
        have H := H1
        clear H1
        rcases t320 with _ | q327
        ·have H1 : (if t324.isNone = true then ((trivetlaw03_same.f k2 t319 t323).bind fun t329 => (some t329)) else (none)) = some r := by rw [if_pos (show (none : Option Int).isNone = true by rfl)] at H; exact H
         clear H
         have H := H1
         clear H1
         try simp only [errW_none, errW_some]
         rcases t324 with _ | q328
         ·have H1 : ((trivetlaw03_same.f k2 t319 t323).bind fun t329 => (some t329)) = some r := by rw [if_pos (show (none : Option Int).isNone = true by rfl)] at H; exact H
          clear H
          have H := H1
          clear H1
          try simp only [errW_none, errW_some]
          replace H := Option.bind_eq_some_iff.mp H
          obtain ⟨t329, A190, H⟩ := H
          replace H : (some t329) = some r := H
          have A19 := ka A190
          clear A190
          obtain rfl := Option.some.inj H
          go_wp2_with (first | (go_at_call 10; (with_reducible refine (split_Shares.calls k2 a0 _ _ l1 t319 none _ ?side1 ?side2 A16.out).mono ?_); (case side1 => repeat (first | exact (Kd.C_below HR1.out HB.out) | (with_reducible refine Kd.C_alloc ?_ _) | (with_reducible refine Kd.C_drewN ?_ _) | (with_reducible refine Kd.C_drew ?_))); (case side2 => exact HC1.out); rintro e w20 ⟨v321, rfl, ho0, hb⟩; have HO322 := ka (Kd.R_lower (Kd.R_new' ho0 (Kd.R_lt (kr HO_8.out))) (below_size (kw HB.out))); replace HO_8 := ka (Kd.R_elder' (kr HO_8.out) (Kd.R_base ho0) hb); replace HB := ka (below_step (kw HB.out) hb); (try clear hb); (try clear hb2); (try clear hk); (try clear hi); (try clear ho0); (try simp only [errW_none, errW_some]); obtain ⟨Ao21, co21, eo21⟩ := Kd.R_slice HO_8.out; subst eo21) | (go_at_call 10; (with_reducible refine (split_Shares.calls k2 a0 _ _ x8_2 t323 none _ ?side1 ?side2 A17.out).mono ?_); (case side1 => repeat (first | exact (Kd.R_reads' HO_8.out).2.2 | (with_reducible refine Kd.C_alloc ?_ _) | (with_reducible refine Kd.C_drewN ?_ _) | (with_reducible refine Kd.C_drew ?_))); (case side2 => exact (Kd.R_reads' HO_8.out).2.1); rintro e w22 ⟨v325, rfl, ho0, hb⟩; have HO326 := ka (Kd.R_lower (Kd.R_new' (Kd.R_new' ho0 (Kd.R_lt (kr HO_8.out))) (Kd.R_lt (kr HO322.out))) (below_size (kw HB.out))); replace HO_8 := ka (Kd.R_elder' (kr HO_8.out) (Kd.R_base ho0) hb); replace HO322 := ka (Kd.R_elder' (kr HO322.out) (Kd.R_base ho0) hb); replace HB := ka (below_step (kw HB.out) hb); (try clear hb); (try clear hb2); (try clear hk); (try clear hi); (try clear ho0); (try simp only [errW_none, errW_some]); obtain ⟨Ao23, co23, eo23⟩ := Kd.R_slice HO322.out; subst eo23; obtain ⟨Ao24, co24, eo24⟩ := Kd.R_slice HO326.out; subst eo24) | (go_at_call 12; (with_reducible refine (trivetlaw03_same.calls k2 _ _ t319 _ _ t323 t329 _ ?side1 ?side2 ?side3 ?side4 A19.out).mono ?_); (case side1 => repeat (first | exact (Kd.R_reads' HO322.out).2.2 | (with_reducible refine Kd.C_alloc ?_ _) | (with_reducible refine Kd.C_drewN ?_ _) | (with_reducible refine Kd.C_drew ?_))); (case side2 => exact (Kd.R_reads' HO322.out).2.1); (case side3 => repeat (first | exact (Kd.R_reads' HO326.out).2.2 | (with_reducible refine Kd.C_alloc ?_ _) | (with_reducible refine Kd.C_drewN ?_ _) | (with_reducible refine Kd.C_drew ?_))); (case side4 => exact (Kd.R_reads' HO326.out).2.1); rintro e w' ⟨rfl, ⟨nd, rfl⟩⟩; (try first | exact ⟨rfl, _, World.drewN_drewN _ _ _⟩ | exact ⟨rfl, _, Eq.trans (World.drewN_drewN _ _ _) (congrArg (World.drewN _) (Nat.add_assoc _ _ _))⟩)))
          repeat (go_quiet (first | (go_at_call 10; (with_reducible refine (split_Shares.calls k2 a0 _ _ l1 t319 none _ ?side1 ?side2 A16.out).mono ?_); (case side1 => repeat (first | exact (Kd.C_below HR1.out HB.out) | (with_reducible refine Kd.C_alloc ?_ _) | (with_reducible refine Kd.C_drewN ?_ _) | (with_reducible refine Kd.C_drew ?_))); (case side2 => exact HC1.out); rintro e w20 ⟨v321, rfl, ho0, hb⟩; have HO322 := ka (Kd.R_lower (Kd.R_new' ho0 (Kd.R_lt (kr HO_8.out))) (below_size (kw HB.out))); replace HO_8 := ka (Kd.R_elder' (kr HO_8.out) (Kd.R_base ho0) hb); replace HB := ka (below_step (kw HB.out) hb); (try clear hb); (try clear hb2); (try clear hk); (try clear hi); (try clear ho0); (try simp only [errW_none, errW_some]); obtain ⟨Ao21, co21, eo21⟩ := Kd.R_slice HO_8.out; subst eo21) | (go_at_call 10; (with_reducible refine (split_Shares.calls k2 a0 _ _ x8_2 t323 none _ ?side1 ?side2 A17.out).mono ?_); (case side1 => repeat (first | exact (Kd.R_reads' HO_8.out).2.2 | (with_reducible refine Kd.C_alloc ?_ _) | (with_reducible refine Kd.C_drewN ?_ _) | (with_reducible refine Kd.C_drew ?_))); (case side2 => exact (Kd.R_reads' HO_8.out).2.1); rintro e w22 ⟨v325, rfl, ho0, hb⟩; have HO326 := ka (Kd.R_lower (Kd.R_new' (Kd.R_new' ho0 (Kd.R_lt (kr HO_8.out))) (Kd.R_lt (kr HO322.out))) (below_size (kw HB.out))); replace HO_8 := ka (Kd.R_elder' (kr HO_8.out) (Kd.R_base ho0) hb); replace HO322 := ka (Kd.R_elder' (kr HO322.out) (Kd.R_base ho0) hb); replace HB := ka (below_step (kw HB.out) hb); (try clear hb); (try clear hb2); (try clear hk); (try clear hi); (try clear ho0); (try simp only [errW_none, errW_some]); obtain ⟨Ao23, co23, eo23⟩ := Kd.R_slice HO322.out; subst eo23; obtain ⟨Ao24, co24, eo24⟩ := Kd.R_slice HO326.out; subst eo24) | (go_at_call 12; (with_reducible refine (trivetlaw03_same.calls k2 _ _ t319 _ _ t323 t329 _ ?side1 ?side2 ?side3 ?side4 A19.out).mono ?_); (case side1 => repeat (first | exact (Kd.R_reads' HO322.out).2.2 | (with_reducible refine Kd.C_alloc ?_ _) | (with_reducible refine Kd.C_drewN ?_ _) | (with_reducible refine Kd.C_drew ?_))); (case side2 => exact (Kd.R_reads' HO322.out).2.1); (case side3 => repeat (first | exact (Kd.R_reads' HO326.out).2.2 | (with_reducible refine Kd.C_alloc ?_ _) | (with_reducible refine Kd.C_drewN ?_ _) | (with_reducible refine Kd.C_drew ?_))); (case side4 => exact (Kd.R_reads' HO326.out).2.1); rintro e w' ⟨rfl, ⟨nd, rfl⟩⟩; (try first | exact ⟨rfl, _, World.drewN_drewN _ _ _⟩ | exact ⟨rfl, _, Eq.trans (World.drewN_drewN _ _ _) (congrArg (World.drewN _) (Nat.add_assoc _ _ _))⟩))); try go_wp2_with (first | (go_at_call 10; (with_reducible refine (split_Shares.calls k2 a0 _ _ l1 t319 none _ ?side1 ?side2 A16.out).mono ?_); (case side1 => repeat (first | exact (Kd.C_below HR1.out HB.out) | (with_reducible refine Kd.C_alloc ?_ _) | (with_reducible refine Kd.C_drewN ?_ _) | (with_reducible refine Kd.C_drew ?_))); (case side2 => exact HC1.out); rintro e w20 ⟨v321, rfl, ho0, hb⟩; have HO322 := ka (Kd.R_lower (Kd.R_new' ho0 (Kd.R_lt (kr HO_8.out))) (below_size (kw HB.out))); replace HO_8 := ka (Kd.R_elder' (kr HO_8.out) (Kd.R_base ho0) hb); replace HB := ka (below_step (kw HB.out) hb); (try clear hb); (try clear hb2); (try clear hk); (try clear hi); (try clear ho0); (try simp only [errW_none, errW_some]); obtain ⟨Ao21, co21, eo21⟩ := Kd.R_slice HO_8.out; subst eo21) | (go_at_call 10; (with_reducible refine (split_Shares.calls k2 a0 _ _ x8_2 t323 none _ ?side1 ?side2 A17.out).mono ?_); (case side1 => repeat (first | exact (Kd.R_reads' HO_8.out).2.2 | (with_reducible refine Kd.C_alloc ?_ _) | (with_reducible refine Kd.C_drewN ?_ _) | (with_reducible refine Kd.C_drew ?_))); (case side2 => exact (Kd.R_reads' HO_8.out).2.1); rintro e w22 ⟨v325, rfl, ho0, hb⟩; have HO326 := ka (Kd.R_lower (Kd.R_new' (Kd.R_new' ho0 (Kd.R_lt (kr HO_8.out))) (Kd.R_lt (kr HO322.out))) (below_size (kw HB.out))); replace HO_8 := ka (Kd.R_elder' (kr HO_8.out) (Kd.R_base ho0) hb); replace HO322 := ka (Kd.R_elder' (kr HO322.out) (Kd.R_base ho0) hb); replace HB := ka (below_step (kw HB.out) hb); (try clear hb); (try clear hb2); (try clear hk); (try clear hi); (try clear ho0); (try simp only [errW_none, errW_some]); obtain ⟨Ao23, co23, eo23⟩ := Kd.R_slice HO322.out; subst eo23; obtain ⟨Ao24, co24, eo24⟩ := Kd.R_slice HO326.out; subst eo24) | (go_at_call 12; (with_reducible refine (trivetlaw03_same.calls k2 _ _ t319 _ _ t323 t329 _ ?side1 ?side2 ?side3 ?side4 A19.out).mono ?_); (case side1 => repeat (first | exact (Kd.R_reads' HO322.out).2.2 | (with_reducible refine Kd.C_alloc ?_ _) | (with_reducible refine Kd.C_drewN ?_ _) | (with_reducible refine Kd.C_drew ?_))); (case side2 => exact (Kd.R_reads' HO322.out).2.1); (case side3 => repeat (first | exact (Kd.R_reads' HO326.out).2.2 | (with_reducible refine Kd.C_alloc ?_ _) | (with_reducible refine Kd.C_drewN ?_ _) | (with_reducible refine Kd.C_drew ?_))); (case side4 => exact (Kd.R_reads' HO326.out).2.1); rintro e w' ⟨rfl, ⟨nd, rfl⟩⟩; (try first | exact ⟨rfl, _, World.drewN_drewN _ _ _⟩ | exact ⟨rfl, _, Eq.trans (World.drewN_drewN _ _ _) (congrArg (World.drewN _) (Nat.add_assoc _ _ _))⟩))))
          go_ret
          exact ⟨by first | rfl | (simp [errW_none, errW_some] <;> rfl) | (simp [*, errW_none, errW_some] <;> rfl), by repeat (first | (with_reducible first | exact HB.out | apply kc1 | apply kc2 | apply kc3) | exact HB.out)⟩
         ·have H1 : (none) = some r := by rw [if_neg (show ¬ (some q328).isNone = true by simp)] at H; exact H
          clear H
          have H := H1
          clear H1
          try simp only [errW_none, errW_some]
          exact absurd H (by simp)
        ·have H1 : (if t324.isNone = true then (none) else ((trivetlaw03_same.f k2 t319 t323).bind fun t331 => (some t331))) = some r := by rw [if_neg (show ¬ (some q327).isNone = true by simp)] at H; exact H
         clear H
         have H := H1
         clear H1
         try simp only [errW_none, errW_some]
         rcases t324 with _ | q330
         ·have H1 : (none) = some r := by rw [if_pos (show (none : Option Int).isNone = true by rfl)] at H; exact H
          clear H
          have H := H1
          clear H1
          try simp only [errW_none, errW_some]
          exact absurd H (by simp)
         ·have H1 : ((trivetlaw03_same.f k2 t319 t323).bind fun t331 => (some t331)) = some r := by rw [if_neg (show ¬ (some q330).isNone = true by simp)] at H; exact H
          clear H
          have H := H1
          clear H1
          try simp only [errW_none, errW_some]
          replace H := Option.bind_eq_some_iff.mp H
          obtain ⟨t331, A250, H⟩ := H
          replace H : (some t331) = some r := H
          have A25 := ka A250
          clear A250
          obtain rfl := Option.some.inj H
          go_wp2_with (first | (go_at_call 10; (with_reducible refine (split_Shares.calls k2 a0 _ _ l1 t319 (some q327) _ ?side1 ?side2 A16.out).mono ?_); (case side1 => repeat (first | exact (Kd.C_below HR1.out HB.out) | (with_reducible refine Kd.C_alloc ?_ _) | (with_reducible refine Kd.C_drewN ?_ _) | (with_reducible refine Kd.C_drew ?_))); (case side2 => exact HC1.out); rintro e w26 ⟨v321, rfl, ho0, hb⟩; have HO322 := ka (Kd.R_lower (Kd.R_new' ho0 (Kd.R_lt (kr HO_8.out))) (below_size (kw HB.out))); replace HO_8 := ka (Kd.R_elder' (kr HO_8.out) (Kd.R_base ho0) hb); replace HB := ka (below_step (kw HB.out) hb); (try clear hb); (try clear hb2); (try clear hk); (try clear hi); (try clear ho0); (try simp only [errW_none, errW_some]); obtain ⟨Ao27, co27, eo27⟩ := Kd.R_slice HO_8.out; subst eo27) | (go_at_call 10; (with_reducible refine (split_Shares.calls k2 a0 _ _ x8_2 t323 (some q330) _ ?side1 ?side2 A17.out).mono ?_); (case side1 => repeat (first | exact (Kd.R_reads' HO_8.out).2.2 | (with_reducible refine Kd.C_alloc ?_ _) | (with_reducible refine Kd.C_drewN ?_ _) | (with_reducible refine Kd.C_drew ?_))); (case side2 => exact (Kd.R_reads' HO_8.out).2.1); rintro e w28 ⟨v325, rfl, ho0, hb⟩; have HO326 := ka (Kd.R_lower (Kd.R_new' (Kd.R_new' ho0 (Kd.R_lt (kr HO_8.out))) (Kd.R_lt (kr HO322.out))) (below_size (kw HB.out))); replace HO_8 := ka (Kd.R_elder' (kr HO_8.out) (Kd.R_base ho0) hb); replace HO322 := ka (Kd.R_elder' (kr HO322.out) (Kd.R_base ho0) hb); replace HB := ka (below_step (kw HB.out) hb); (try clear hb); (try clear hb2); (try clear hk); (try clear hi); (try clear ho0); (try simp only [errW_none, errW_some]); obtain ⟨Ao29, co29, eo29⟩ := Kd.R_slice HO322.out; subst eo29; obtain ⟨Ao30, co30, eo30⟩ := Kd.R_slice HO326.out; subst eo30) | (go_at_call 12; (with_reducible refine (trivetlaw03_same.calls k2 _ _ t319 _ _ t323 t331 _ ?side1 ?side2 ?side3 ?side4 A25.out).mono ?_); (case side1 => repeat (first | exact (Kd.R_reads' HO322.out).2.2 | (with_reducible refine Kd.C_alloc ?_ _) | (with_reducible refine Kd.C_drewN ?_ _) | (with_reducible refine Kd.C_drew ?_))); (case side2 => exact (Kd.R_reads' HO322.out).2.1); (case side3 => repeat (first | exact (Kd.R_reads' HO326.out).2.2 | (with_reducible refine Kd.C_alloc ?_ _) | (with_reducible refine Kd.C_drewN ?_ _) | (with_reducible refine Kd.C_drew ?_))); (case side4 => exact (Kd.R_reads' HO326.out).2.1); rintro e w' ⟨rfl, ⟨nd, rfl⟩⟩; (try first | exact ⟨rfl, _, World.drewN_drewN _ _ _⟩ | exact ⟨rfl, _, Eq.trans (World.drewN_drewN _ _ _) (congrArg (World.drewN _) (Nat.add_assoc _ _ _))⟩)))
          repeat (go_quiet (first | (go_at_call 10; (with_reducible refine (split_Shares.calls k2 a0 _ _ l1 t319 (some q327) _ ?side1 ?side2 A16.out).mono ?_); (case side1 => repeat (first | exact (Kd.C_below HR1.out HB.out) | (with_reducible refine Kd.C_alloc ?_ _) | (with_reducible refine Kd.C_drewN ?_ _) | (with_reducible refine Kd.C_drew ?_))); (case side2 => exact HC1.out); rintro e w26 ⟨v321, rfl, ho0, hb⟩; have HO322 := ka (Kd.R_lower (Kd.R_new' ho0 (Kd.R_lt (kr HO_8.out))) (below_size (kw HB.out))); replace HO_8 := ka (Kd.R_elder' (kr HO_8.out) (Kd.R_base ho0) hb); replace HB := ka (below_step (kw HB.out) hb); (try clear hb); (try clear hb2); (try clear hk); (try clear hi); (try clear ho0); (try simp only [errW_none, errW_some]); obtain ⟨Ao27, co27, eo27⟩ := Kd.R_slice HO_8.out; subst eo27) | (go_at_call 10; (with_reducible refine (split_Shares.calls k2 a0 _ _ x8_2 t323 (some q330) _ ?side1 ?side2 A17.out).mono ?_); (case side1 => repeat (first | exact (Kd.R_reads' HO_8.out).2.2 | (with_reducible refine Kd.C_alloc ?_ _) | (with_reducible refine Kd.C_drewN ?_ _) | (with_reducible refine Kd.C_drew ?_))); (case side2 => exact (Kd.R_reads' HO_8.out).2.1); rintro e w28 ⟨v325, rfl, ho0, hb⟩; have HO326 := ka (Kd.R_lower (Kd.R_new' (Kd.R_new' ho0 (Kd.R_lt (kr HO_8.out))) (Kd.R_lt (kr HO322.out))) (below_size (kw HB.out))); replace HO_8 := ka (Kd.R_elder' (kr HO_8.out) (Kd.R_base ho0) hb); replace HO322 := ka (Kd.R_elder' (kr HO322.out) (Kd.R_base ho0) hb); replace HB := ka (below_step (kw HB.out) hb); (try clear hb); (try clear hb2); (try clear hk); (try clear hi); (try clear ho0); (try simp only [errW_none, errW_some]); obtain ⟨Ao29, co29, eo29⟩ := Kd.R_slice HO322.out; subst eo29; obtain ⟨Ao30, co30, eo30⟩ := Kd.R_slice HO326.out; subst eo30) | (go_at_call 12; (with_reducible refine (trivetlaw03_same.calls k2 _ _ t319 _ _ t323 t331 _ ?side1 ?side2 ?side3 ?side4 A25.out).mono ?_); (case side1 => repeat (first | exact (Kd.R_reads' HO322.out).2.2 | (with_reducible refine Kd.C_alloc ?_ _) | (with_reducible refine Kd.C_drewN ?_ _) | (with_reducible refine Kd.C_drew ?_))); (case side2 => exact (Kd.R_reads' HO322.out).2.1); (case side3 => repeat (first | exact (Kd.R_reads' HO326.out).2.2 | (with_reducible refine Kd.C_alloc ?_ _) | (with_reducible refine Kd.C_drewN ?_ _) | (with_reducible refine Kd.C_drew ?_))); (case side4 => exact (Kd.R_reads' HO326.out).2.1); rintro e w' ⟨rfl, ⟨nd, rfl⟩⟩; (try first | exact ⟨rfl, _, World.drewN_drewN _ _ _⟩ | exact ⟨rfl, _, Eq.trans (World.drewN_drewN _ _ _) (congrArg (World.drewN _) (Nat.add_assoc _ _ _))⟩))); try go_wp2_with (first | (go_at_call 10; (with_reducible refine (split_Shares.calls k2 a0 _ _ l1 t319 (some q327) _ ?side1 ?side2 A16.out).mono ?_); (case side1 => repeat (first | exact (Kd.C_below HR1.out HB.out) | (with_reducible refine Kd.C_alloc ?_ _) | (with_reducible refine Kd.C_drewN ?_ _) | (with_reducible refine Kd.C_drew ?_))); (case side2 => exact HC1.out); rintro e w26 ⟨v321, rfl, ho0, hb⟩; have HO322 := ka (Kd.R_lower (Kd.R_new' ho0 (Kd.R_lt (kr HO_8.out))) (below_size (kw HB.out))); replace HO_8 := ka (Kd.R_elder' (kr HO_8.out) (Kd.R_base ho0) hb); replace HB := ka (below_step (kw HB.out) hb); (try clear hb); (try clear hb2); (try clear hk); (try clear hi); (try clear ho0); (try simp only [errW_none, errW_some]); obtain ⟨Ao27, co27, eo27⟩ := Kd.R_slice HO_8.out; subst eo27) | (go_at_call 10; (with_reducible refine (split_Shares.calls k2 a0 _ _ x8_2 t323 (some q330) _ ?side1 ?side2 A17.out).mono ?_); (case side1 => repeat (first | exact (Kd.R_reads' HO_8.out).2.2 | (with_reducible refine Kd.C_alloc ?_ _) | (with_reducible refine Kd.C_drewN ?_ _) | (with_reducible refine Kd.C_drew ?_))); (case side2 => exact (Kd.R_reads' HO_8.out).2.1); rintro e w28 ⟨v325, rfl, ho0, hb⟩; have HO326 := ka (Kd.R_lower (Kd.R_new' (Kd.R_new' ho0 (Kd.R_lt (kr HO_8.out))) (Kd.R_lt (kr HO322.out))) (below_size (kw HB.out))); replace HO_8 := ka (Kd.R_elder' (kr HO_8.out) (Kd.R_base ho0) hb); replace HO322 := ka (Kd.R_elder' (kr HO322.out) (Kd.R_base ho0) hb); replace HB := ka (below_step (kw HB.out) hb); (try clear hb); (try clear hb2); (try clear hk); (try clear hi); (try clear ho0); (try simp only [errW_none, errW_some]); obtain ⟨Ao29, co29, eo29⟩ := Kd.R_slice HO322.out; subst eo29; obtain ⟨Ao30, co30, eo30⟩ := Kd.R_slice HO326.out; subst eo30) | (go_at_call 12; (with_reducible refine (trivetlaw03_same.calls k2 _ _ t319 _ _ t323 t331 _ ?side1 ?side2 ?side3 ?side4 A25.out).mono ?_); (case side1 => repeat (first | exact (Kd.R_reads' HO322.out).2.2 | (with_reducible refine Kd.C_alloc ?_ _) | (with_reducible refine Kd.C_drewN ?_ _) | (with_reducible refine Kd.C_drew ?_))); (case side2 => exact (Kd.R_reads' HO322.out).2.1); (case side3 => repeat (first | exact (Kd.R_reads' HO326.out).2.2 | (with_reducible refine Kd.C_alloc ?_ _) | (with_reducible refine Kd.C_drewN ?_ _) | (with_reducible refine Kd.C_drew ?_))); (case side4 => exact (Kd.R_reads' HO326.out).2.1); rintro e w' ⟨rfl, ⟨nd, rfl⟩⟩; (try first | exact ⟨rfl, _, World.drewN_drewN _ _ _⟩ | exact ⟨rfl, _, Eq.trans (World.drewN_drewN _ _ _) (congrArg (World.drewN _) (Nat.add_assoc _ _ _))⟩))))
          go_ret
          exact ⟨by first | rfl | (simp [errW_none, errW_some] <;> rfl) | (simp [*, errW_none, errW_some] <;> rfl), by repeat (first | (with_reducible first | exact HB.out | apply kc1 | apply kc2 | apply kc3) | exact HB.out)⟩
       ·replace c18 := Bool.eq_false_iff.mpr c18
        subst c18
        have H1 : (none) = some r := by rw [if_neg (show ¬ (false = true) by decide)] at H; exact H
        clear H
        have H := H1
        clear H1
        exact absurd H (by simp)

/-- THE ONE PURE STATEMENT of trivetlaw03_SplitScales: yours. -/
def trivetlaw03_SplitScales.Pure : Prop := ∀ (a0 : Int) (l1 : List Int) (a2 : Int), (Lit.int .i64 a0).wf = true → l1.length ≤ maxLen → l1.length * 8 ≤ 140737488351232 → (∀ x ∈ l1, (Lit.int .i64 x).wf = true) → (Lit.int .i64 a2).wf = true → ∃ k, trivetlaw03_SplitScales.f k a0 l1 a2 = some true
theorem trivetlaw03_SplitScales.walk (P : trivetlaw03_SplitScales.Pure) (a0 : Int) (a1 : Option Addr) (len1 cap1 : Nat) (z1 : List Int) (a2 : Int) (w : World) (w0 : (Lit.int .i64 a0).wf = true) (w1 : (a1 = none ∧ len1 = 0 ∧ cap1 = 0 ∧ z1 = []) ∨ ∃ x, a1 = some x ∧ len1 ≤ cap1 ∧ cap1 ≤ maxLen ∧ z1.length = cap1 ∧ (∀ i, i < z1.length → w.cell? (x.add i) = some (.int .i64 (z1.getD i 0))) ∧ ∀ n ∈ z1, (Lit.int .i64 n).wf = true) (y1 : len1 * 8 ≤ 140737488351232) (w2 : (Lit.int .i64 a2).wf = true) :
  Calls Try.prog 7 #[.int .i64 a0, .slice a1 len1 cap1, .int .i64 a2] w fun e w' => e = .returned (.bool true) ∧ Below w.heap.size w w' := by
 obtain ⟨l1, rfl, hr1, hm1, hw1, hc1⟩ := ReadsInt.ofRowC w1
 obtain ⟨k, h⟩ := P a0 l1 a2 w0 hm1 y1 hw1 w2
 refine (trivetlaw03_SplitScales.calls k a0 _ _ l1 a2 true w (Kd.C_of_reads (d := (0 : Int)) (h1 := fun _ => rfl) hr1) hc1 h).mono ?_
 rintro e w' ⟨rfl, hd⟩
 exact ⟨rfl, hd⟩

end Go.Proofs.Ytcpmfdagnchlbaa.P
