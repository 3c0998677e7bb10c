-- Written by a program of this session out of the translation of the seat: Lean functions and the proofs that the Go functions come to them.
import Derived.Test.YtcpmfdagnchlbaaPx0
namespace Go.Proofs.Ytcpmfdagnchlbaa.P
open Go.RowKit Go.Proofs.YtcpmfdagnchlbaaW.PrintWords Go.Proofs.YtcpmfdagnchlbaaW.PrintLast Go.Proofs.YtcpmfdagnchlbaaW.PrintMore
attribute [local go_sem] max2_int min2_int max_two min_two max_three min_three max_four min_four   -- for this text's walks alone
set_option linter.unusedVariables false
set_option linter.unusedSimpArgs false

/-! ### trivetref01_at: function 36 -/
def trivetref01_at.f (l0 : List Int) (a1 : Int) : Option (Int) := if a1 < (l0.length : Int) then (if 0 ≤ a1 then (some (rd l0 a1)) else (none)) else (some 0)
set_option maxHeartbeats 8000000 in
set_option maxRecDepth 100000 in
theorem trivetref01_at.calls (A0 : Option Addr) (c0 : Nat) (l0 : List Int) (a1 : Int) (r : Int) (w : World) (hr0 : Kd.C (Kd.int .u64) w A0 l0.length l0) (hc0 : l0.length ≤ c0) (h : trivetref01_at.f l0 a1 = some r) :
  Calls Try.prog 36 #[.slice A0 l0.length c0, .int .i64 a1] w fun e w' => e = .returned (.int .u64 r) ∧ Drawn0 w w' := by
 have HR0 := ka hr0
 have HC0 := ka hc0
 clear hr0 hc0
 have H : (if a1 < (l0.length : Int) then (if 0 ≤ a1 then (some (rd l0 a1)) else (none)) else (some 0)) = some r := h
 clear h
 by_cases c3 : a1 < (l0.length : Int)
 ·rw [if_pos c3] at H
  have c3b0 : decide (a1 < (l0.length : Int)) = true := decide_eq_true c3
  clear c3
  by_cases c4 : 0 ≤ a1
  ·rw [if_pos c4] at H
   have c4b0 : decide (0 ≤ a1) = true := decide_eq_true c4
   clear c4
   obtain rfl := Option.some.inj H
   have p145 : 0 ≤ (a1 : Int) := of_decide_eq_true (by first | (with_reducible assumption) | assumption)
   have q145 : a1 < (l0.length : Int) := of_decide_eq_true (by first | (with_reducible assumption) | assumption)
   obtain ⟨ad145, e145, hx145_0⟩ := Kd.at_int HR0.out a1 p145 q145
   cases e145
   replace p145 := eq_true p145
   replace q145 := eq_true q145
   go_enter Try.func36, Try.ntmps36
   go_wp2
   go_ret
   exact ⟨by first | rfl | (simp; done) | (simp [*]; done), by repeat (first | exact Drawn0.refl _ | apply Drawn0.step)⟩
  ·rw [if_neg c4] at H
   exact absurd H (by simp)
 ·rw [if_neg c3] at H
  have c3b0 : decide (a1 < (l0.length : Int)) = false := decide_eq_false c3
  clear c3
  obtain rfl := Option.some.inj H
  go_enter Try.func36, Try.ntmps36
  go_wp2
  go_ret
  exact ⟨by first | rfl | (simp; done) | (simp [*]; done), by repeat (first | exact Drawn0.refl _ | apply Drawn0.step)⟩

/-! ### trivetref01_at: function 36, its laws -/
theorem trivetref01_at.num (d : List Int) (i : Nat) : trivetref01_at.f d i = some (d.getD i 0) := by
 unfold trivetref01_at.f
 by_cases h : (i : Int) < d.length
 ·rw [if_pos h, if_pos (by omega)]
  simp [rd]
 ·rw [if_neg h, List.getD_eq_getElem?_getD, List.getElem?_eq_none (by omega)]; rfl

/-! ### trivetref01_plus: function 27 -/
mutual
def trivetref01_plus.l0 : Nat → List Int → List Int → List Int → Int → Int → Option (List Int)
 | 0, _, _, _, _, _ => none
 | k + 1, x0, x1, x5, x6, x7 => if x7 < (x0.length : Int) then (trivetref01_plus.j1 k x0 x1 x5 x6 x7 true) else (if x7 < (x1.length : Int) then (trivetref01_plus.j1 k x0 x1 x5 x6 x7 true) else (trivetref01_plus.j1 k x0 x1 x5 x6 x7 (decide (x6 > 0))))
def trivetref01_plus.j1 : Nat → List Int → List Int → List Int → Int → Int → Bool → Option (List Int)
 | 0, _, _, _, _, _, _ => none
 | k + 1, x0, x1, x5, x6, x7, x22 => if x22 = true then ((trivetref01_at.f x0 x7).bind fun t146 => ((trivetref01_at.f x1 x7).bind fun t147 => (if x5.length < 17592186044416 then (trivetref01_plus.l0 k x0 x1 (x5 ++ [Int.tmod (IntKind.u64.wrap ((IntKind.u64.wrap (t146 + t147)) + x6)) 65536]) (IntKind.u64.wrap (Int.tdiv (IntKind.u64.wrap ((IntKind.u64.wrap (t146 + t147)) + x6)) 65536)) (wrap64 (x7 + 1))) else (none)))) else (some x5)
end
def trivetref01_plus.f (k : Nat) (l0 : List Int) (l1 : List Int) : Option (List Int) := trivetref01_plus.l0 k l0 l1 ([] : List Int) 0 0
theorem trivetref01_plus.mono_l : ∀ k, (∀ y0 y1 y2 y3 y4, LeO (trivetref01_plus.l0 k y0 y1 y2 y3 y4) (trivetref01_plus.l0 (k + 1) y0 y1 y2 y3 y4)) ∧ (∀ y0 y1 y2 y3 y4 y5, LeO (trivetref01_plus.j1 k y0 y1 y2 y3 y4 y5) (trivetref01_plus.j1 (k + 1) y0 y1 y2 y3 y4 y5))
 | 0 => ⟨fun _ _ _ _ _ r h => by simp [trivetref01_plus.l0] at h, fun _ _ _ _ _ _ r h => by simp [trivetref01_plus.j1] at h⟩
 | k + 1 => by
  obtain ⟨ih0, ih1⟩ := trivetref01_plus.mono_l k
  refine ⟨?_, ?_⟩
  ·intro y0 y1 y2 y3 y4
   unfold trivetref01_plus.l0
   repeat' first
   | (with_reducible exact ih0 _ _ _ _ _)
   | (with_reducible exact ih1 _ _ _ _ _ _)
   | (with_reducible exact LeO.refl _)
   | (with_reducible exact LeO.none _)
   | (with_reducible refine LeO.ite ?_ ?_)
   | (with_reducible refine LeO.bind ?_ (fun _ => ?_))
   | exact ih0 _ _ _ _ _
   | exact ih1 _ _ _ _ _ _
   | exact LeO.none _
   | refine LeO.ite ?_ ?_
   | refine LeO.bind ?_ (fun _ => ?_)
  ·intro y0 y1 y2 y3 y4 y5
   unfold trivetref01_plus.j1
   repeat' first
   | (with_reducible exact ih0 _ _ _ _ _)
   | (with_reducible exact ih1 _ _ _ _ _ _)
   | (with_reducible exact LeO.refl _)
   | (with_reducible exact LeO.none _)
   | (with_reducible refine LeO.ite ?_ ?_)
   | (with_reducible refine LeO.bind ?_ (fun _ => ?_))
   | exact ih0 _ _ _ _ _
   | exact ih1 _ _ _ _ _ _
   | exact LeO.none _
   | refine LeO.ite ?_ ?_
   | refine LeO.bind ?_ (fun _ => ?_)
theorem trivetref01_plus.mono : ∀ a0 a1 k, LeO (trivetref01_plus.f k a0 a1) (trivetref01_plus.f (k + 1) a0 a1) := by
 intro a0 a1 k
 obtain ⟨ih0, ih1⟩ := trivetref01_plus.mono_l k
 unfold trivetref01_plus.f
 repeat' first
   | (with_reducible exact ih0 _ _ _ _ _)
   | (with_reducible exact ih1 _ _ _ _ _ _)
   | (with_reducible exact LeO.refl _)
   | (with_reducible exact LeO.none _)
   | (with_reducible refine LeO.ite ?_ ?_)
   | (with_reducible refine LeO.bind ?_ (fun _ => ?_))
   | exact ih0 _ _ _ _ _
   | exact ih1 _ _ _ _ _ _
   | exact LeO.none _
   | refine LeO.ite ?_ ?_
   | refine LeO.bind ?_ (fun _ => ?_)
set_option maxHeartbeats 8000000 in
set_option maxRecDepth 100000 in
theorem trivetref01_plus.calls (k : Nat) (A0 : Option Addr) (c0 : Nat) (l0 : List Int) (A1 : Option Addr) (c1 : Nat) (l1 : List Int) (r : List Int) (w : World) (hr0 : Kd.C (Kd.int .u64) w A0 l0.length l0) (hc0 : l0.length ≤ c0) (hr1 : Kd.C (Kd.int .u64) w A1 l1.length l1) (hc1 : l1.length ≤ c1) (h : trivetref01_plus.f k l0 l1 = some r) :
  Calls Try.prog 27 #[.slice A0 l0.length c0, .slice A1 l1.length c1] w fun e w' => ∃ v0_ : Value, e = .returned (v0_) ∧ Kd.R (Kd.int .u64) 42 w' w.heap.size (fun _ => True) v0_ r ∧ Below w.heap.size w w' := by
 have HR0 := ka hr0
 have HC0 := ka hc0
 clear hr0 hc0
 have HR1 := ka hr1
 have HC1 := ka hc1
 clear hr1 hc1
 have HB := ka (Below.refl w.heap.size w)
 have H : (trivetref01_plus.l0 k l0 l1 ([] : List Int) 0 0) = some r := h
 clear h
 have H' := ka H
 clear H
 go_enter Try.func27, Try.ntmps27
 go_wp2
 (try simp only [Act.put, List.setIfInBounds_toArray, List.set_cons_zero, List.set_cons_succ])
 go_loopg [5, 6, 7] k (fun kq v5 v6 v7 w' => ∃ (x5_1 : List Int) (x6_1 : Int) (x7_1 : Int), v6 = .int .u64 x6_1 ∧ v7 = .int .i64 x7_1 ∧ Aside0 (trivetref01_plus.l0 kq l0 l1 x5_1 x6_1 x7_1 = some r) ∧ Aside0 (kq ≤ k) ∧ Aside0 (Kd.R (Kd.int .u64) 42 w' w.heap.size (fun _ => True) v5 x5_1) ∧ Aside0 (Below w.heap.size w w'))
 case atStart => exact ⟨(([] : List Int)), (0), (0), (by first | rfl | (simp; done) | (simp [*]; done)), (by first | rfl | (simp; done) | (simp [*]; done)), H', ⟨Nat.le_refl _⟩, ⟨by first | exact Kd.R_nil _ _ _ _ _ | exact Kd.N_nil _ _ _ _ _ | exact Kd.V_nil _ _ _ _ _ | exact Kd.Q_nil _ _ _ _ _ | exact Kd.S_nil _ _ _ _ _⟩, ⟨by repeat (first | (with_reducible first | exact HB.out | apply kc1 | apply kc2 | apply kc3) | exact HB.out)⟩⟩
 case round =>
  clear H'
  try clear c1
  try clear c2
  try clear p2
  obtain ⟨x5_1, x6_1, x7_1, rfl, rfl, HA, HK1, HO_5, HB⟩ := hrel
  cases gk with
  | zero => exact absurd HA.out (by simp [trivetref01_plus.l0])
  | succ k1 =>
   have H := HA.out
   clear HA
   simp only [trivetref01_plus.l0] at H
   have HC3 := ka H
   clear H
   go_upto_region 4 with (fail)
   go_cut [22] (fun v22 wc => ∃ (kq : Nat) (x22_2 : Bool), v22 = .bool x22_2 ∧ Aside0 (trivetref01_plus.j1 kq l0 l1 x5_1 x6_1 x7_1 x22_2 = some r) ∧ Aside0 (kq ≤ k1) ∧ Aside0 (Kd.R (Kd.int .u64) 42 wc w.heap.size (fun _ => True) u5 x5_1) ∧ Aside0 (Below w.heap.size w wc))
   case first =>
    have H := HC3.out
    clear HC3
    by_cases c4 : x7_1 < (l0.length : Int)
    ·rw [if_pos c4] at H
     have c4b0 : decide (x7_1 < (l0.length : Int)) = true := decide_eq_true c4
     clear c4
     (first | rw [c4b0] | (simp only [i64_w, i32_w]; rw [c4b0]) | skip)
     have H' := ka H
     clear H
     go_wp2
     go_meet
     case rel => exact ⟨_, (true), (by first | rfl | (simp; done) | (simp [*]; done)), H', ⟨by have := HK1.out; first | omega | exact Nat.le_refl _⟩, ⟨kr HO_5.out⟩, ⟨by repeat (first | (with_reducible first | exact HB.out | apply kc1 | apply kc2 | apply kc3) | exact HB.out)⟩⟩
    ·rw [if_neg c4] at H
     have c4b0 : decide (x7_1 < (l0.length : Int)) = false := decide_eq_false c4
     clear c4
     (first | rw [c4b0] | (simp only [i64_w, i32_w]; rw [c4b0]) | skip)
     by_cases c5 : x7_1 < (l1.length : Int)
     ·rw [if_pos c5] at H
      have c5b0 : decide (x7_1 < (l1.length : Int)) = true := decide_eq_true c5
      clear c5
      have H' := ka H
      clear H
      go_wp2
      go_meet
      case rel => exact ⟨_, (true), (by first | rfl | (simp; done) | (simp [*]; done)), H', ⟨by have := HK1.out; first | omega | exact Nat.le_refl _⟩, ⟨kr HO_5.out⟩, ⟨by repeat (first | (with_reducible first | exact HB.out | apply kc1 | apply kc2 | apply kc3) | exact HB.out)⟩⟩
     ·rw [if_neg c5] at H
      have c5b0 : decide (x7_1 < (l1.length : Int)) = false := decide_eq_false c5
      clear c5
      have H' := ka H
      clear H
      go_wp2
      go_meet
      case rel => exact ⟨_, (decide (x6_1 > 0)), (by first | rfl | (simp; done) | (simp [*]; done)), H', ⟨by have := HK1.out; first | omega | exact Nat.le_refl _⟩, ⟨kr HO_5.out⟩, ⟨by repeat (first | (with_reducible first | exact HB.out | apply kc1 | apply kc2 | apply kc3) | exact HB.out)⟩⟩
   case rest =>
    clear HC3
    try clear c1
    try clear c2
    try clear p2
    try clear c4
    try clear c4b0
    try clear c5
    try clear c5b0
    try clear p2
    obtain ⟨kq, x22_2, rfl, HA, HJ2, HO_5, HB⟩ := hcut
    cases kq with
    | zero => exact absurd HA.out (by simp [trivetref01_plus.j1])
    | succ kj2 =>
     have H := HA.out
     clear HA
     simp only [trivetref01_plus.j1] at H
     by_cases c6 : x22_2 = true
     ·subst c6
      have H1 : ((trivetref01_at.f l0 x7_1).bind fun t146 => ((trivetref01_at.f l1 x7_1).bind fun t147 => (if x5_1.length < 17592186044416 then (trivetref01_plus.l0 kj2 l0 l1 (x5_1 ++ [Int.tmod (IntKind.u64.wrap ((IntKind.u64.wrap (t146 + t147)) + x6_1)) 65536]) (IntKind.u64.wrap (Int.tdiv (IntKind.u64.wrap ((IntKind.u64.wrap (t146 + t147)) + x6_1)) 65536)) (wrap64 (x7_1 + 1))) else (none)))) = some r := by rw [if_pos rfl] at H; exact H
      clear H
      have H := H1
      clear H1
      replace H := Option.bind_eq_some_iff.mp H
      obtain ⟨t146, A70, H⟩ := H
      replace H : ((trivetref01_at.f l1 x7_1).bind fun t147 => (if x5_1.length < 17592186044416 then (trivetref01_plus.l0 kj2 l0 l1 (x5_1 ++ [Int.tmod (IntKind.u64.wrap ((IntKind.u64.wrap (t146 + t147)) + x6_1)) 65536]) (IntKind.u64.wrap (Int.tdiv (IntKind.u64.wrap ((IntKind.u64.wrap (t146 + t147)) + x6_1)) 65536)) (wrap64 (x7_1 + 1))) else (none))) = some r := H
      have A7 := ka A70
      clear A70
      replace H := Option.bind_eq_some_iff.mp H
      obtain ⟨t147, A80, H⟩ := H
      replace H : (if x5_1.length < 17592186044416 then (trivetref01_plus.l0 kj2 l0 l1 (x5_1 ++ [Int.tmod (IntKind.u64.wrap ((IntKind.u64.wrap (t146 + t147)) + x6_1)) 65536]) (IntKind.u64.wrap (Int.tdiv (IntKind.u64.wrap ((IntKind.u64.wrap (t146 + t147)) + x6_1)) 65536)) (wrap64 (x7_1 + 1))) else (none)) = some r := H
      have A8 := ka A80
      clear A80
      by_cases c9 : x5_1.length < 17592186044416
      ·rw [if_pos c9] at H
       have LMc9 := ka c9
       clear c9
       obtain ⟨y148, hy148⟩ : ∃ y_ : List Int, y_ = (x5_1 ++ [Int.tmod (IntKind.u64.wrap ((IntKind.u64.wrap (t146 + t147)) + x6_1)) 65536]) := ⟨_, rfl⟩
       replace H : (trivetref01_plus.l0 kj2 l0 l1 y148 (IntKind.u64.wrap (Int.tdiv (IntKind.u64.wrap ((IntKind.u64.wrap (t146 + t147)) + x6_1)) 65536)) (wrap64 (x7_1 + 1))) = some r := by first | (rw [hy148]; with_reducible exact H) | (have H2_ := (Option.bind_some _ _).symm.trans H; rw [hy148]; with_reducible exact H2_) | (have H2_ := (Option.bind_some _ _).symm.trans H; with_reducible exact H2_) | with_reducible exact H | (rw [hy148]; exact H) | exact H
       have Ny148 := ka hy148
       clear hy148
       have H' := ka H
       clear H
       go_wp2_with (first | ((with_reducible refine gate_callee (f := 36) rfl ?_); refine kg (some 27) rfl rfl Try.func36 (by kernel_rfl) rfl #[.slice A0 l0.length c0, .int .i64 x7_1] rfl ?_; (with_reducible refine (trivetref01_at.calls _ _ l0 x7_1 t146 _ ?side1 ?side2 A7.out).mono ?_); (case side1 => repeat (first | exact (Kd.C_below HR0.out HB.out) | (with_reducible refine Kd.C_alloc ?_ _) | (with_reducible refine Kd.C_drewN ?_ _) | (with_reducible refine Kd.C_drew ?_))); (case side2 => exact HC0.out); rintro e w' ⟨rfl, ⟨nd, rfl⟩⟩; refine ⟨_, rfl, ?_⟩) | ((with_reducible refine gate_callee (f := 36) rfl ?_); refine kg (some 30) rfl rfl Try.func36 (by kernel_rfl) rfl #[.slice A1 l1.length c1, .int .i64 x7_1] rfl ?_; (with_reducible refine (trivetref01_at.calls _ _ l1 x7_1 t147 _ ?side1 ?side2 A8.out).mono ?_); (case side1 => repeat (first | exact (Kd.C_below HR1.out (kw HB.out)) | (with_reducible refine Kd.C_alloc ?_ _) | (with_reducible refine Kd.C_drewN ?_ _) | (with_reducible refine Kd.C_drew ?_))); (case side2 => exact HC1.out); rintro e w' ⟨rfl, ⟨nd, rfl⟩⟩; refine ⟨_, rfl, ?_⟩) | ((with_reducible refine gate_builtin (b := .append) (xs := #[.tmp 34, .tmp 37]) rfl ?_); (try (refine gate_guard (by rfl) ?_; dsimp only)); at_builtin; refine Kd.R_append (Kd.int .u64) (w0 := w) w.heap.size rfl (.tmp 34) (.tmp 37) 32 42 (.int .u64 0) 8 rfl Try.underlying32 info42 rfl (by decide) (by omega) u5 x5_1 (Int.tmod (IntKind.u64.wrap ((IntKind.u64.wrap (t146 + t147)) + x6_1)) 65536) [.int .u64 (Int.tmod (IntKind.u64.wrap ((IntKind.u64.wrap (t146 + t147)) + x6_1)) 65536)] (fun _ => True) (fun _ => False) rfl rfl ?aP (fun _ hk => hk.elim) ?aF ?aO ?aB ?aS ?aL ?_; (case aP => exact rfl); (case aB => exact (kw HB.out)); (case aF => exact (fun _ _ => trivial)); (case aO => exact (kr HO_5.out)); (case aS => exact (below_size (kw HB.out))); (case aL => have := LMc9.out; omega); intro v149 w10 ho hb hg hat; rw [← Ny148.out] at ho; replace HB := ka (hb); have HO150 := ka (ho); clear HO_5; clear ho hb hg hat))
       go_roundg kj2
       case measure => have := HK1.out; have := HJ2.out; omega
       case rel => exact ⟨(y148), (IntKind.u64.wrap (Int.tdiv (IntKind.u64.wrap ((IntKind.u64.wrap (t146 + t147)) + x6_1)) 65536)), (wrap64 (x7_1 + 1)), (by first | rfl | (simp; done) | (simp [*]; done)), (by first | rfl | (simp; done) | (simp [*]; done)), H', ⟨by have := HK1.out; have := HJ2.out; omega⟩, ⟨kr HO150.out⟩, ⟨by repeat (first | (with_reducible first | exact HB.out | apply kc1 | apply kc2 | apply kc3) | exact HB.out)⟩⟩
      ·rw [if_neg c9] at H
       exact absurd H (by simp)
     ·replace c6 := Bool.eq_false_iff.mpr c6
      subst c6
      have H1 : (some x5_1) = some r := by rw [if_neg (show ¬ (false = true) by decide)] at H; exact H
      clear H
      have H := H1
      clear H1
      obtain rfl := Option.some.inj H
      go_wp2
      go_ret
      exact ⟨_, by first | rfl | (simp [errW_none, errW_some] <;> rfl) | (simp [*, errW_none, errW_some] <;> rfl), by (with_reducible repeat (first | apply Kd.R_alloc | apply Kd.R_drewN | apply Kd.R_drew)); exact HO_5.out, by repeat (first | (with_reducible first | exact HB.out | apply kc1 | apply kc2 | apply kc3) | exact HB.out)⟩

/-! ### trivetref01_plus: function 27, its laws -/
theorem trivetref01_plus.step (k : Nat) (a b acc : List Int) (c : Int) (i : Nat) (ha : U.Dg a) (hb : U.Dg b) (hc : 0 ≤ c ∧ c ≤ 1) (hi : i < 1000000) (hl : acc.length < 1000000) : trivetref01_plus.j1 (k + 1) a b acc c i true = trivetref01_plus.l0 k a b (acc ++ [(a.getD i 0 + b.getD i 0 + c) % 65536]) ((a.getD i 0 + b.getD i 0 + c) / 65536) ((i + 1 : Nat) : Int) := by
 have ga := ha.get i
 have gb := hb.get i
 simp only [trivetref01_plus.j1]
 rw [if_pos trivial, trivetref01_at.num, Option.bind_some, trivetref01_at.num, Option.bind_some, if_pos (by omega)]
 generalize a.getD i 0 = x at *
 generalize b.getD i 0 = y at *
 rw [M.wrapu_id (n := x + y) (by omega) (by omega), M.wrapu_id (n := x + y + c) (by omega) (by omega), M.tdivu (show 0 ≤ x + y + c by omega), M.tmodu (show 0 ≤ x + y + c by omega), M.wrapu_id (n := (x + y + c) / 65536) (by omega) (by omega), M.w64_id (n := (i : Int) + 1) (by omega) (by omega)]
 rfl
theorem trivetref01_plus.loop (n : Nat) : ∀ (k : Nat) (a b acc : List Int) (c : Int) (i : Nat), U.Dg a → U.Dg b → U.Dg acc → 0 ≤ c ∧ c ≤ 1 → a.length ≤ i + n → b.length ≤ i + n → (a.length = i + n ∨ b.length = i + n) → acc.length = i → i + n < 500000 → 2 * n + 4 ≤ k →
  ∃ out, trivetref01_plus.l0 k a b acc c i = some out ∧ U.Dg out ∧ U.val out = U.val acc + 65536 ^ i * (U.val (a.drop i) + U.val (b.drop i) + c) ∧ out.length ≤ i + n + 1 := by
 induction n with
 | zero =>
  intro k a b acc c i ha hb hacc hc la lb lab hl hi hk
  obtain ⟨j, rfl⟩ : ∃ j, k = j + 2 + 2 := ⟨k - 4, by omega⟩
  rw [List.drop_eq_nil_of_le (by omega), List.drop_eq_nil_of_le (by omega)]
  simp only [trivetref01_plus.l0]
  rw [if_neg (by omega), if_neg (by omega)]
  by_cases h : c > 0
  ·rw [decide_eq_true h, show j + 2 + 1 = (j + 2) + 1 from rfl, trivetref01_plus.step _ _ _ _ _ _ ha hb hc (by omega) (by omega)]
   have e1 : a.getD i 0 = 0 := by rw [List.getD_eq_getElem?_getD, List.getElem?_eq_none (by omega)]; rfl
   have e2 : b.getD i 0 = 0 := by rw [List.getD_eq_getElem?_getD, List.getElem?_eq_none (by omega)]; rfl
   have ec : c = 1 := by omega
   subst ec
   rw [e1, e2]
   simp only [trivetref01_plus.l0]
   rw [if_neg (by omega), if_neg (by omega), decide_eq_false (by decide)]
   simp only [trivetref01_plus.j1]
   rw [if_neg (by decide)]
   refine ⟨_, rfl, hacc.add (U.Dg.one (by decide)), ?_, by simp; omega⟩
   rw [U.val_append, U.val_one, hl]
   simp [U.val]
  ·have ec : c = 0 := by omega
   subst ec
   rw [decide_eq_false h]
   simp only [trivetref01_plus.j1]
   rw [if_neg (by decide)]
   exact ⟨_, rfl, hacc, by simp [U.val], by omega⟩
 | succ n ih =>
  intro k a b acc c i ha hb hacc hc la lb lab hl hi hk
  obtain ⟨j, rfl⟩ : ∃ j, k = j + 1 + 1 := ⟨k - 2, by omega⟩
  have e : trivetref01_plus.l0 (j + 1 + 1) a b acc c i = trivetref01_plus.j1 (j + 1) a b acc c i true := by
   simp only [trivetref01_plus.l0]
   by_cases h : (i : Int) < a.length
   ·rw [if_pos h]
   ·rw [if_neg h, if_pos (by omega)]
  have ga := ha.get i
  have gb := hb.get i
  obtain ⟨out, o1, o2, o3, o4⟩ := ih j a b (acc ++ [(a.getD i 0 + b.getD i 0 + c) % 65536]) ((a.getD i 0 + b.getD i 0 + c) / 65536) (i + 1) ha hb (hacc.add (U.Dg.one (by omega))) (by omega) (by omega) (by omega) (by omega) (by simp; omega) (by omega) (by omega)
  refine ⟨out, ?_, o2, ?_, by omega⟩
  ·rw [e, trivetref01_plus.step _ _ _ _ _ _ ha hb hc (by omega) (by omega), o1]
  ·rw [o3, U.val_append, U.val_one, hl, U.pow_succ, U.drop_step a i, U.drop_step b i]
   generalize a.getD i 0 = x at *
   generalize b.getD i 0 = y at *
   have hx : (x + y + c) % 65536 + 65536 * ((x + y + c) / 65536) = x + y + c := by omega
   generalize (x + y + c) % 65536 = r at *
   generalize (x + y + c) / 65536 = q at *
   generalize U.val (a.drop (i + 1)) = u
   generalize U.val (b.drop (i + 1)) = v
   have : x + 65536 * u + (y + 65536 * v) + c = r + 65536 * (u + v + q) := by omega
   rw [this]
   generalize u + v + q = s
   generalize (65536 : Int) ^ i = p
   rw [Int.mul_add, Int.mul_comm 65536 p, Int.mul_assoc, Int.add_assoc]
theorem trivetref01_plus.num (k : Nat) (a b : List Int) (ha : U.Dg a) (hb : U.Dg b) (la : a.length ≤ 1000) (lb : b.length ≤ 1000) (hk : 2 * a.length + 2 * b.length + 4 ≤ k) :
  ∃ out, trivetref01_plus.f k a b = some out ∧ U.Dg out ∧ U.val out = U.val a + U.val b ∧ out.length ≤ max a.length b.length + 1 := by
 obtain ⟨out, o1, o2, o3, o4⟩ := trivetref01_plus.loop (max a.length b.length) k a b [] 0 0 ha hb U.Dg.nil (by omega) (by omega) (by omega) (by omega) rfl (by omega) (by omega)
 refine ⟨out, o1, o2, ?_, by omega⟩
 rw [o3]
 simp [U.val]

/-! ### trivetref01_norm: function 28 -/
def trivetref01_norm.l0 : Nat → List Int → Bool → Option (List Int × Bool)
 | 0, _, _ => none
 | k + 1, x0, x1 => if (x0.length : Int) > 0 then (if 0 ≤ (wrap64 ((x0.length : Int) - 1)) then (if (wrap64 ((x0.length : Int) - 1)) < (x0.length : Int) then (if (rd x0 (wrap64 ((x0.length : Int) - 1))) = 0 then (if (wrap64 ((x0.length : Int) - 1)) ≤ (x0.length : Int) then (trivetref01_norm.l0 k (x0.take ((wrap64 ((x0.length : Int) - 1)) : Int).toNat) x1) else (none)) else (if x1 = true then (some (x0, true)) else (some (x0, false)))) else (none)) else (none)) else (if x1 = true then (some (x0, false)) else (some (x0, false)))
def trivetref01_norm.f (k : Nat) (l0 : List Int) (a1 : Bool) : Option (List Int × Bool) := trivetref01_norm.l0 k l0 a1
theorem trivetref01_norm.mono_l : ∀ k, (∀ y0 y1, LeO (trivetref01_norm.l0 k y0 y1) (trivetref01_norm.l0 (k + 1) y0 y1))
 | 0 => fun _ _ r h => by simp [trivetref01_norm.l0] at h
 | k + 1 => by
  have ih0 := trivetref01_norm.mono_l k
  ·intro y0 y1
   unfold trivetref01_norm.l0
   repeat' first
   | (with_reducible exact ih0 _ _)
   | (with_reducible exact LeO.refl _)
   | (with_reducible exact LeO.none _)
   | (with_reducible refine LeO.ite ?_ ?_)
   | (with_reducible refine LeO.bind ?_ (fun _ => ?_))
   | exact ih0 _ _
   | exact LeO.none _
   | refine LeO.ite ?_ ?_
   | refine LeO.bind ?_ (fun _ => ?_)
theorem trivetref01_norm.mono : ∀ a0 a1 k, LeO (trivetref01_norm.f k a0 a1) (trivetref01_norm.f (k + 1) a0 a1) := by
 intro a0 a1 k
 have ih0 := trivetref01_norm.mono_l k
 unfold trivetref01_norm.f
 repeat' first
   | (with_reducible exact ih0 _ _)
   | (with_reducible exact LeO.refl _)
   | (with_reducible exact LeO.none _)
   | (with_reducible refine LeO.ite ?_ ?_)
   | (with_reducible refine LeO.bind ?_ (fun _ => ?_))
   | exact ih0 _ _
   | exact LeO.none _
   | refine LeO.ite ?_ ?_
   | refine LeO.bind ?_ (fun _ => ?_)
set_option maxHeartbeats 8000000 in
set_option maxRecDepth 100000 in
theorem trivetref01_norm.calls (k : Nat) (P0_ : Nat → Prop) (A0 : Option Addr) (c0 : Nat) (l0 : List Int) (a1 : Bool) (r1 : List Int) (r2 : Bool) (w : World) (hs0 : Kd.V (Kd.int .u64) 42 w w.heap.size (fun k_ => P0_ k_) (.slice A0 l0.length c0) l0) (h : trivetref01_norm.f k l0 a1 = some (r1, r2)) :
  Calls Try.prog 28 #[.slice A0 l0.length c0, .bool a1] w fun e w' => ∃ v0_ : Value, e = .returned (.agg #[v0_, .bool r2]) ∧ Kd.V (Kd.int .u64) 42 w' w.heap.size (fun k_ => (P0_ k_ ∨ w.heap.size ≤ k_)) v0_ r1 ∧ Below w.heap.size w w' := by
 have hu34 := Try.underlying34
 have HO0 := ka (show Kd.V (Kd.int .u64) 42 w w.heap.size (fun k_ => (P0_ k_ ∨ w.heap.size ≤ k_)) (.slice A0 l0.length c0) l0 from Kd.V_mono hs0 (fun k_ hk => .inl hk))
 have HB := ka (Below.refl w.heap.size w)
 have H : (trivetref01_norm.l0 k l0 a1) = some (r1, r2) := h
 clear h
 have H' := ka H
 clear H
 go_enter Try.func28, Try.ntmps28
 go_wp2_with (first | ((with_reducible refine gate_dst (N := 4) rfl ?_); (try (refine gate_guard (by rfl) ?_; dsimp only)); refine kx (N := 4) (cs := #[.slice none 0 0, .bool false]) (t := 34) ?_; intro gb151 hg w3 hbox hb; have n0_ := ka (Kd.V_below (Kd.V_elderB (kv HO0.out) gb151 (Nat.le_of_eq hg.symm)) hb); have n1_ := ka (below_step (kw HB.out) hb); have n2_ := ka (hbox); have n3_ := ka ((by rw [hg]; exact (below_size (kw HB.out)) : w.heap.size ≤ gb151)); have n4_ := n3_; clear HO0; clear HB; have HO0 := n0_; have HB := n1_; have BK151 := n2_; have GW151 := n3_; have GE151 := n4_; clear n0_ n1_ n2_ n3_ n4_; clear hb hbox hg))
 (try simp only [Act.put, List.setIfInBounds_toArray, List.set_cons_zero, List.set_cons_succ])
 go_loopg [0] k (fun kq v0 w' => ∃ (x0_1 : List Int), Aside0 (trivetref01_norm.l0 kq x0_1 a1 = some (r1, r2)) ∧ Aside0 (kq ≤ k) ∧ Aside0 (Kd.V (Kd.int .u64) 42 w' w.heap.size (fun k_ => (P0_ k_ ∨ w.heap.size ≤ k_) ∧ k_ ≠ gb151) v0 x0_1) ∧ Aside0 (w'.heap[gb151]? = some (.cells #[(.slice none 0 0), .bool false] 34 (0, 0))) ∧ Aside0 (Below w.heap.size w w'))
 case atStart => exact ⟨(l0), H', ⟨Nat.le_refl _⟩, ⟨kv HO0.out⟩, ⟨by (with_reducible repeat (first | apply kb1 | apply kb2 | apply kb3)); exact BK151.out⟩, ⟨by repeat (first | (with_reducible first | exact HB.out | apply kc1 | apply kc2 | apply kc3 | refine kc4 ?_ GE151.out) | exact HB.out)⟩⟩
 case round =>
  clear H'
  try clear c2
  try clear p2
  obtain ⟨x0_1, HA, HK1, HO_0, BK151, HB⟩ := hrel
  cases gk with
  | zero => exact absurd HA.out (by simp [trivetref01_norm.l0])
  | succ k1 =>
   have H := HA.out
   clear HA
   simp only [trivetref01_norm.l0] at H
   by_cases c4 : (x0_1.length : Int) > 0
   ·rw [if_pos c4] at H
    have c4b0 : decide (0 < (x0_1.length : Int)) = true := decide_eq_true c4
    have c4b1 : decide (0 < x0_1.length) = true := decide_eq_true (by omega)
    clear c4
    obtain ⟨ji5, hji5⟩ : ∃ j_ : Int, (wrap64 ((x0_1.length : Int) - 1)) = j_ := ⟨_, rfl⟩
    replace H : (if 0 ≤ (ji5) then (if (ji5) < (x0_1.length : Int) then (if (rd x0_1 (ji5)) = 0 then (if (ji5) ≤ (x0_1.length : Int) then (trivetref01_norm.l0 k1 (x0_1.take ((ji5) : Int).toNat) a1) else (none)) else (if a1 = true then (some (x0_1, true)) else (some (x0_1, false)))) else (none)) else (none)) = some (r1, r2) := by first | (rw [hji5] at H; exact H) | (simp only [hji5] at H ⊢; exact H)
    have hji5w : (IntKind.i64.wrap ((x0_1.length : Int) - 1)) = ji5 := (i64_w _).trans hji5
    by_cases c6 : 0 ≤ (ji5)
    ·rw [if_pos c6] at H
     have c6b0 : decide (0 ≤ (ji5)) = true := decide_eq_true c6
     clear c6
     by_cases c7 : (ji5) < (x0_1.length : Int)
     ·rw [if_pos c7] at H
      have c7b0 : decide ((ji5) < (x0_1.length : Int)) = true := decide_eq_true c7
      clear c7
      by_cases c8 : (rd x0_1 (ji5)) = 0
      ·rw [if_pos c8] at H
       have c8b0 : ((rd x0_1 (ji5)) == 0) = true := beq_iff_eq.mpr c8
       have c8b1 : ((rd x0_1 (ji5)) != 0) = false := bne_eq_false_iff_eq.mpr c8
       clear c8
       have c9b0 := eq_true (of_decide_eq_true (by first | (with_reducible assumption) | assumption) : 0 ≤ (ji5))
       by_cases c10 : (ji5) ≤ (x0_1.length : Int)
       ·rw [if_pos c10] at H
        have c10b0 := eq_true c10
        have c10b1 : decide ((ji5) ≤ (x0_1.length : Int)) = true := decide_eq_true c10
        clear c10
        obtain ⟨y153, hy153⟩ : ∃ y_ : List Int, y_ = (x0_1.take ((ji5) : Int).toNat) := ⟨_, rfl⟩
        replace H : (trivetref01_norm.l0 k1 y153 a1) = some (r1, r2) := by first | (rw [hy153]; with_reducible exact H) | (have H2_ := (Option.bind_some _ _).symm.trans H; rw [hy153]; with_reducible exact H2_) | (have H2_ := (Option.bind_some _ _).symm.trans H; with_reducible exact H2_) | with_reducible exact H | (rw [hy153]; exact H) | exact H
        have Ny153 := ka hy153
        clear hy153
        have H' := ka H
        clear H
        obtain ⟨Ao11, co11, eo11⟩ := Kd.V_slice HO_0.out
        subst eo11
        have p152 : 0 ≤ ((ji5) : Int) := of_decide_eq_true (by first | (with_reducible assumption) | assumption)
        have q152 : (ji5) < (x0_1.length : Int) := of_decide_eq_true (by first | (with_reducible assumption) | assumption)
        obtain ⟨ad152, e152, hx152_0⟩ := Kd.at_int (Kd.V_reads' HO_0.out).2.2 (ji5) p152 q152
        cases e152
        replace p152 := eq_true p152
        replace q152 := eq_true q152
        have q12 : ((ji5) : Int) ≤ ((x0_1.length : Int) : Int) := of_decide_eq_true (by first | (with_reducible assumption) | assumption)
        obtain ⟨i012, hi012, _, hsz12, _⟩ := info_parts info42
        have hroom12 : x0_1.length ≤ co11 := (Kd.V_reads' HO_0.out).2.1
        have hC12 : Kd.F (Kd.int .u64) _ _ (some ad152) x0_1.length x0_1 := (Kd.V_at (base := w.heap.size) HO_0.out).2.2
        have hcut12 := cut_to (P := Try.prog) 32 42 .i64 Try.underlying32 hi012 (some ad152) x0_1.length co11 (ji5) (of_decide_eq_true (by first | (with_reducible assumption) | assumption)) q12 hroom12
        have hr12 := Kd.F_take (m := ((ji5) : Int).toNat) hC12 (by omega)
        have hy12 : y153.length = ((ji5) : Int).toNat := (by rw [Ny153.out, List.length_take]; omega)
        rw [← Ny153.out] at hr12
        rw [← hy12] at hcut12
        have HO157 := ka (show Kd.V (Kd.int .u64) 42 _ w.heap.size _ (.slice (some ad152) y153.length co11) y153 from Kd.V_mk (by omega) hr12)
        have HC157 := ka (show y153.length ≤ co11 from by omega)
        clear hr12 hC12 hroom12 hi012 hsz12
        have KY12 := ka hy12
        clear hy12
        replace q12 := eq_true q12
        go_wp2
        go_roundg k1
        case measure => have := HK1.out; omega
        case rel => exact ⟨(y153), H', ⟨by have := HK1.out; omega⟩, ⟨kv HO157.out⟩, ⟨by (with_reducible repeat (first | apply kb1 | apply kb2 | apply kb3)); exact BK151.out⟩, ⟨by repeat (first | (with_reducible first | exact HB.out | apply kc1 | apply kc2 | apply kc3 | refine kc4 ?_ GE151.out) | exact HB.out)⟩⟩
       ·rw [if_neg c10] at H
        exact absurd H (by simp)
      ·rw [if_neg c8] at H
       have c8b0 : ((rd x0_1 (ji5)) == 0) = false := beq_eq_false_iff_ne.mpr c8
       have c8b1 : ((rd x0_1 (ji5)) != 0) = true := bne_iff_ne.mpr c8
       by_cases c13 : a1 = true
       ·subst c13
        have H1 : (some (x0_1, true)) = some (r1, r2) := by rw [if_pos rfl] at H; exact H
        clear H
        have H := H1
        clear H1
        simp only [Option.some.injEq, Prod.mk.injEq] at H
        obtain ⟨rfl, rfl⟩ := H
        obtain ⟨Ao14, co14, eo14⟩ := Kd.V_slice HO_0.out
        subst eo14
        have p152 : 0 ≤ ((ji5) : Int) := of_decide_eq_true (by first | (with_reducible assumption) | assumption)
        have q152 : (ji5) < (x0_1.length : Int) := of_decide_eq_true (by first | (with_reducible assumption) | assumption)
        obtain ⟨ad152, e152, hx152_0⟩ := Kd.at_int (Kd.V_reads' HO_0.out).2.2 (ji5) p152 q152
        cases e152
        replace p152 := eq_true p152
        replace q152 := eq_true q152
        have hcz15 := blkAll2 BK151.out
        go_wp2
        refine bodyPost_ret (results_cell_row rfl _ _ gb151 34 #[.slice (some ad152) x0_1.length co14, .bool true] (0, 0) _ rfl (by (with_reducible repeat (first | apply kb1 | apply kb2 | apply kb3 | apply blkPut2_1 | apply blkPut2_0)); exact BK151.out) Try.underlying34 rfl (by kernel_rfl)) rfl ?_
        exact ⟨_, by first | rfl | (simp [errW_none, errW_some] <;> rfl) | (simp only [← hji5]; first | rfl | (simp [errW_none, errW_some] <;> rfl)) | (simp [*, errW_none, errW_some] <;> rfl), by (with_reducible repeat (first | apply Kd.V_alloc | apply Kd.V_drewN | apply Kd.V_drew)); exact Kd.V_mono (Kd.V_far (p := ⟨gb151, 1, none⟩) (Kd.V_far (p := ⟨gb151, 0, none⟩) (Kd.V_mono HO_0.out (fun k_ hk => (⟨hk, hk.2⟩ : _ ∧ k_ ≠ gb151))) (fun _ hk => hk.2) (.slice (some ad152) x0_1.length co14)) (fun _ hk => hk.2) (.bool true)) (fun _ hk => hk.1.1), by repeat (first | (with_reducible first | exact HB.out | apply kc1 | apply kc2 | apply kc3 | refine kc4 ?_ GE151.out) | exact HB.out)⟩
       ·replace c13 := Bool.eq_false_iff.mpr c13
        subst c13
        have H1 : (some (x0_1, false)) = some (r1, r2) := by rw [if_neg (show ¬ (false = true) by decide)] at H; exact H
        clear H
        have H := H1
        clear H1
        simp only [Option.some.injEq, Prod.mk.injEq] at H
        obtain ⟨rfl, rfl⟩ := H
        obtain ⟨Ao16, co16, eo16⟩ := Kd.V_slice HO_0.out
        subst eo16
        have p152 : 0 ≤ ((ji5) : Int) := of_decide_eq_true (by first | (with_reducible assumption) | assumption)
        have q152 : (ji5) < (x0_1.length : Int) := of_decide_eq_true (by first | (with_reducible assumption) | assumption)
        obtain ⟨ad152, e152, hx152_0⟩ := Kd.at_int (Kd.V_reads' HO_0.out).2.2 (ji5) p152 q152
        cases e152
        replace p152 := eq_true p152
        replace q152 := eq_true q152
        have hcz17 := blkAll2 BK151.out
        go_wp2
        refine bodyPost_ret (results_cell_row rfl _ _ gb151 34 #[.slice (some ad152) x0_1.length co16, .bool false] (0, 0) _ rfl (by (with_reducible repeat (first | apply kb1 | apply kb2 | apply kb3 | apply blkPut2_1 | apply blkPut2_0)); exact BK151.out) Try.underlying34 rfl (by kernel_rfl)) rfl ?_
        exact ⟨_, by first | rfl | (simp [errW_none, errW_some] <;> rfl) | (simp only [← hji5]; first | rfl | (simp [errW_none, errW_some] <;> rfl)) | (simp [*, errW_none, errW_some] <;> rfl), by (with_reducible repeat (first | apply Kd.V_alloc | apply Kd.V_drewN | apply Kd.V_drew)); exact Kd.V_mono (Kd.V_far (p := ⟨gb151, 1, none⟩) (Kd.V_far (p := ⟨gb151, 0, none⟩) (Kd.V_mono HO_0.out (fun k_ hk => (⟨hk, hk.2⟩ : _ ∧ k_ ≠ gb151))) (fun _ hk => hk.2) (.slice (some ad152) x0_1.length co16)) (fun _ hk => hk.2) (.bool false)) (fun _ hk => hk.1.1), by repeat (first | (with_reducible first | exact HB.out | apply kc1 | apply kc2 | apply kc3 | refine kc4 ?_ GE151.out) | exact HB.out)⟩
     ·rw [if_neg c7] at H
      exact absurd H (by simp)
    ·rw [if_neg c6] at H
     exact absurd H (by simp)
   ·rw [if_neg c4] at H
    have c4b0 : decide (0 < (x0_1.length : Int)) = false := decide_eq_false c4
    have c4b1 : decide (0 < x0_1.length) = false := decide_eq_false (by omega)
    clear c4
    by_cases c18 : a1 = true
    ·subst c18
     have H1 : (some (x0_1, false)) = some (r1, r2) := by rw [if_pos rfl] at H; exact H
     clear H
     have H := H1
     clear H1
     simp only [Option.some.injEq, Prod.mk.injEq] at H
     obtain ⟨rfl, rfl⟩ := H
     obtain ⟨Ao19, co19, eo19⟩ := Kd.V_slice HO_0.out
     subst eo19
     have hcz20 := blkAll2 BK151.out
     go_wp2
     refine bodyPost_ret (results_cell_row rfl _ _ gb151 34 #[.slice Ao19 x0_1.length co19, .bool false] (0, 0) _ rfl (by (with_reducible repeat (first | apply kb1 | apply kb2 | apply kb3 | apply blkPut2_1 | apply blkPut2_0)); exact BK151.out) Try.underlying34 rfl (by kernel_rfl)) rfl ?_
     exact ⟨_, by first | rfl | (simp [errW_none, errW_some] <;> rfl) | (simp [*, errW_none, errW_some] <;> rfl), by (with_reducible repeat (first | apply Kd.V_alloc | apply Kd.V_drewN | apply Kd.V_drew)); exact Kd.V_mono (Kd.V_far (p := ⟨gb151, 1, none⟩) (Kd.V_far (p := ⟨gb151, 0, none⟩) (Kd.V_mono HO_0.out (fun k_ hk => (⟨hk, hk.2⟩ : _ ∧ k_ ≠ gb151))) (fun _ hk => hk.2) (.slice Ao19 x0_1.length co19)) (fun _ hk => hk.2) (.bool false)) (fun _ hk => hk.1.1), by repeat (first | (with_reducible first | exact HB.out | apply kc1 | apply kc2 | apply kc3 | refine kc4 ?_ GE151.out) | exact HB.out)⟩
    ·replace c18 := Bool.eq_false_iff.mpr c18
     subst c18
     have H1 : (some (x0_1, false)) = some (r1, r2) := by rw [if_neg (show ¬ (false = true) by decide)] at H; exact H
     clear H
     have H := H1
     clear H1
     simp only [Option.some.injEq, Prod.mk.injEq] at H
     obtain ⟨rfl, rfl⟩ := H
     obtain ⟨Ao21, co21, eo21⟩ := Kd.V_slice HO_0.out
     subst eo21
     have hcz22 := blkAll2 BK151.out
     go_wp2
     refine bodyPost_ret (results_cell_row rfl _ _ gb151 34 #[.slice Ao21 x0_1.length co21, .bool false] (0, 0) _ rfl (by (with_reducible repeat (first | apply kb1 | apply kb2 | apply kb3 | apply blkPut2_1 | apply blkPut2_0)); exact BK151.out) Try.underlying34 rfl (by kernel_rfl)) rfl ?_
     exact ⟨_, by first | rfl | (simp [errW_none, errW_some] <;> rfl) | (simp [*, errW_none, errW_some] <;> rfl), by (with_reducible repeat (first | apply Kd.V_alloc | apply Kd.V_drewN | apply Kd.V_drew)); exact Kd.V_mono (Kd.V_far (p := ⟨gb151, 1, none⟩) (Kd.V_far (p := ⟨gb151, 0, none⟩) (Kd.V_mono HO_0.out (fun k_ hk => (⟨hk, hk.2⟩ : _ ∧ k_ ≠ gb151))) (fun _ hk => hk.2) (.slice Ao21 x0_1.length co21)) (fun _ hk => hk.2) (.bool false)) (fun _ hk => hk.1.1), by repeat (first | (with_reducible first | exact HB.out | apply kc1 | apply kc2 | apply kc3 | refine kc4 ?_ GE151.out) | exact HB.out)⟩

/-! ### trivetref01_norm: function 28, its laws -/
theorem trivetref01_norm.tells (k : Nat) : ∀ (d : List Int) (m : Bool), U.Dg d → d.length < k → (d.length : Int) < 9223372036854775808 → trivetref01_norm.f k d m = some (U.dig (U.val d), m && !(U.dig (U.val d)).isEmpty) := by
 induction k with
 | zero => intro d m _ h _; omega
 | succ k ih =>
  intro d m hd h hl
  unfold trivetref01_norm.f
  simp only [trivetref01_norm.l0]
  rcases List.eq_nil_or_concat d with rfl | ⟨r, x, rfl⟩
  ·rw [if_neg (by simp)]
   simp only [U.val, U.dig_zero]
   cases m <;> simp
  ·rw [List.concat_eq_append] at *
   have hlen : (r ++ [x]).length = r.length + 1 := by simp
   have hw : wrap64 (((r ++ [x]).length : Int) - 1) = r.length := by rw [hlen, M.w64_id (by omega) (by omega)]; omega
   rw [if_pos (by omega), hw, if_pos (by omega), if_pos (by omega)]
   have hr : rd (r ++ [x]) (r.length : Int) = x := by simp [rd]
   rw [hr]
   by_cases hx : x = 0
   ·subst hx
    rw [if_pos rfl, if_pos (by omega)]
    have ht : (r ++ [(0 : Int)]).take ((r.length : Int)).toNat = r := by simp
    rw [ht, U.val_append, U.val_one, Int.mul_zero, Int.add_zero]
    exact ih r m hd.left (by omega) (by omega)
   ·rw [if_neg hx, U.dig_val_top hd hx]
    cases m <;> simp
theorem trivetref01_norm.num (k : Nat) (d : List Int) (m : Bool) (z : Int) (hd : U.Dg d) (h : d.length < k) (hl : (d.length : Int) < 9223372036854775808) (hz : z = if m = true then -U.val d else U.val d) : trivetref01_norm.f k d m = some (U.num z) := by
 rw [trivetref01_norm.tells k d m hd h hl, U.num_of (U.val_nonneg hd) hz]

/-! ### trivetref01_Mul: function 14 -/
mutual
def trivetref01_Mul.l0 : Nat → List Int → Int → List Int → Bool → List Int → Bool → Option (List Int × Bool)
 | 0, _, _, _, _, _, _ => none
 | k + 1, x5, x6, x159000, x159001, x160000, x160001 => if x6 < (x159000.length : Int) then (if 0 ≤ x6 then (if (x6 : Int).toNat ≤ 35184372088832 then (trivetref01_Mul.l1 k x5 x6 (List.replicate (x6 : Int).toNat 0) 0 0 x159000 x159001 x160000 x160001) else (none)) else (none)) else ((trivetref01_norm.f k x5 (!(x159001 == x160001))).bind fun bt161 => (some (bt161.1, bt161.2)))
def trivetref01_Mul.l1 : Nat → List Int → Int → List Int → Int → Int → List Int → Bool → List Int → Bool → Option (List Int × Bool)
 | 0, _, _, _, _, _, _, _, _, _ => none
 | k + 1, x5, x6, x7, x8, x9, x159000, x159001, x160000, x160001 => if x9 < (x160000.length : Int) then (if 0 ≤ x6 then (if x6 < (x159000.length : Int) then (if 0 ≤ x9 then (if x7.length < 17592186044416 then (trivetref01_Mul.l1 k x5 x6 (x7 ++ [Int.tmod (IntKind.u64.wrap ((IntKind.u64.wrap ((rd x159000 x6) * (rd x160000 x9))) + x8)) 65536]) (IntKind.u64.wrap (Int.tdiv (IntKind.u64.wrap ((IntKind.u64.wrap ((rd x159000 x6) * (rd x160000 x9))) + x8)) 65536)) (wrap64 (x9 + 1)) x159000 x159001 x160000 x160001) else (none)) else (none)) else (none)) else (none)) else (if x7.length < 17592186044416 then ((trivetref01_plus.f k x5 (x7 ++ [x8])).bind fun t176 => (trivetref01_Mul.l0 k t176 (wrap64 (x6 + 1)) x159000 x159001 x160000 x160001)) else (none))
end
def trivetref01_Mul.f (k : Nat) (l0_0 : List Int) (a0_1 : Bool) (l1_0 : List Int) (a1_1 : Bool) : Option (List Int × Bool) := trivetref01_Mul.l0 k ([] : List Int) 0 l0_0 a0_1 l1_0 a1_1
theorem trivetref01_Mul.mono_l : ∀ k, (∀ y0 y1 y2 y3 y4 y5, LeO (trivetref01_Mul.l0 k y0 y1 y2 y3 y4 y5) (trivetref01_Mul.l0 (k + 1) y0 y1 y2 y3 y4 y5)) ∧ (∀ y0 y1 y2 y3 y4 y5 y6 y7 y8, LeO (trivetref01_Mul.l1 k y0 y1 y2 y3 y4 y5 y6 y7 y8) (trivetref01_Mul.l1 (k + 1) y0 y1 y2 y3 y4 y5 y6 y7 y8))
 | 0 => ⟨fun _ _ _ _ _ _ r h => by simp [trivetref01_Mul.l0] at h, fun _ _ _ _ _ _ _ _ _ r h => by simp [trivetref01_Mul.l1] at h⟩
 | k + 1 => by
  obtain ⟨ih0, ih1⟩ := trivetref01_Mul.mono_l k
  refine ⟨?_, ?_⟩
  ·intro y0 y1 y2 y3 y4 y5
   unfold trivetref01_Mul.l0
   repeat' first
   | (with_reducible exact ih0 _ _ _ _ _ _)
   | (with_reducible exact ih1 _ _ _ _ _ _ _ _ _)
   | (with_reducible exact trivetref01_norm.mono _ _ _)
   | (with_reducible exact trivetref01_plus.mono _ _ _)
   | (with_reducible exact LeO.refl _)
   | (with_reducible exact LeO.none _)
   | (with_reducible refine LeO.ite ?_ ?_)
   | (with_reducible refine LeO.bind ?_ (fun _ => ?_))
   | exact ih0 _ _ _ _ _ _
   | exact ih1 _ _ _ _ _ _ _ _ _
   | exact trivetref01_norm.mono _ _ _
   | exact trivetref01_plus.mono _ _ _
   | exact LeO.none _
   | refine LeO.ite ?_ ?_
   | refine LeO.bind ?_ (fun _ => ?_)
  ·intro y0 y1 y2 y3 y4 y5 y6 y7 y8
   unfold trivetref01_Mul.l1
   repeat' first
   | (with_reducible exact ih0 _ _ _ _ _ _)
   | (with_reducible exact ih1 _ _ _ _ _ _ _ _ _)
   | (with_reducible exact trivetref01_norm.mono _ _ _)
   | (with_reducible exact trivetref01_plus.mono _ _ _)
   | (with_reducible exact LeO.refl _)
   | (with_reducible exact LeO.none _)
   | (with_reducible refine LeO.ite ?_ ?_)
   | (with_reducible refine LeO.bind ?_ (fun _ => ?_))
   | exact ih0 _ _ _ _ _ _
   | exact ih1 _ _ _ _ _ _ _ _ _
   | exact trivetref01_norm.mono _ _ _
   | exact trivetref01_plus.mono _ _ _
   | exact LeO.none _
   | refine LeO.ite ?_ ?_
   | refine LeO.bind ?_ (fun _ => ?_)
theorem trivetref01_Mul.mono : ∀ a0 a1 a2 a3 k, LeO (trivetref01_Mul.f k a0 a1 a2 a3) (trivetref01_Mul.f (k + 1) a0 a1 a2 a3) := by
 intro a0 a1 a2 a3 k
 obtain ⟨ih0, ih1⟩ := trivetref01_Mul.mono_l k
 unfold trivetref01_Mul.f
 repeat' first
   | (with_reducible exact ih0 _ _ _ _ _ _)
   | (with_reducible exact ih1 _ _ _ _ _ _ _ _ _)
   | (with_reducible exact trivetref01_norm.mono _ _ _)
   | (with_reducible exact trivetref01_plus.mono _ _ _)
   | (with_reducible exact LeO.refl _)
   | (with_reducible exact LeO.none _)
   | (with_reducible refine LeO.ite ?_ ?_)
   | (with_reducible refine LeO.bind ?_ (fun _ => ?_))
   | exact ih0 _ _ _ _ _ _
   | exact ih1 _ _ _ _ _ _ _ _ _
   | exact trivetref01_norm.mono _ _ _
   | exact trivetref01_plus.mono _ _ _
   | exact LeO.none _
   | refine LeO.ite ?_ ?_
   | refine LeO.bind ?_ (fun _ => ?_)
set_option maxHeartbeats 8000000 in
set_option maxRecDepth 100000 in
theorem trivetref01_Mul.calls (k : Nat) (A0_0 : Option Addr) (c0_0 : Nat) (l0_0 : List Int) (a0_1 : Bool) (A1_0 : Option Addr) (c1_0 : Nat) (l1_0 : List Int) (a1_1 : Bool) (r1 : List Int) (r2 : Bool) (w : World) (hr0_0 : Kd.C (Kd.int .u64) w A0_0 l0_0.length l0_0) (hc0_0 : l0_0.length ≤ c0_0) (hr1_0 : Kd.C (Kd.int .u64) w A1_0 l1_0.length l1_0) (hc1_0 : l1_0.length ≤ c1_0) (h : trivetref01_Mul.f k l0_0 a0_1 l1_0 a1_1 = some (r1, r2)) :
  Calls Try.prog 14 #[.agg #[.slice A0_0 l0_0.length c0_0, .bool a0_1], .agg #[.slice A1_0 l1_0.length c1_0, .bool a1_1]] w fun e w' => ∃ v0_ : Value, e = .returned (.agg #[v0_, .bool r2]) ∧ Kd.V (Kd.int .u64) 42 w' w.heap.size (fun k_ => (w.heap.size ≤ k_)) v0_ r1 ∧ Below w.heap.size w w' := by
 have hu34 := Try.underlying34
 have HR0_0 := ka hr0_0
 have HC0_0 := ka hc0_0
 clear hr0_0 hc0_0
 have HR1_0 := ka hr1_0
 have HC1_0 := ka hc1_0
 clear hr1_0 hc1_0
 have HB := ka (Below.refl w.heap.size w)
 have H : (trivetref01_Mul.l0 k ([] : List Int) 0 l0_0 a0_1 l1_0 a1_1) = some (r1, r2) := h
 clear h
 have H' := ka H
 clear H
 go_enter Try.func14, Try.ntmps14
 go_wp2_with (first | ((with_reducible refine gate_dst (N := 2) rfl ?_); refine kx (N := 2) (cs := #[.slice A0_0 l0_0.length c0_0, .bool a0_1]) (t := 34) ?_; intro gb158 hg w3 hbox hb; have n0_ := ka (below_step (kw HB.out) hb); have n1_ := ka (hbox); have n2_ := ka ((by rw [hg]; exact (below_size (kw HB.out)) : w.heap.size ≤ gb158)); have n3_ := n2_; clear HB; have HB := n0_; have BK158 := n1_; have GW158 := n2_; have GE158 := n3_; clear n0_ n1_ n2_ n3_; clear hb hbox hg) | ((with_reducible refine gate_dst (N := 3) rfl ?_); refine kx (N := 3) (cs := #[.slice A1_0 l1_0.length c1_0, .bool a1_1]) (t := 34) ?_; intro gb159 hg w4 hbox hb; have n0_ := ka (blk_below (g := gb158) (kz BK158.out) hb); have n1_ := ka (below_step (kw HB.out) hb); have n2_ := ka (hbox); have n3_ := ka ((by rw [hg]; exact (below_size (kw HB.out)) : w.heap.size ≤ gb159)); have n4_ := n3_; have n5_ := ka ((by rw [hg]; exact Nat.ne_of_lt (blk_lt (g := gb158) (kz BK158.out)) : gb158 ≠ gb159)); have n6_ := ka n5_.out.symm; clear BK158; clear HB; have BK158 := n0_; have HB := n1_; have BK159 := n2_; have GW159 := n3_; have GE159 := n4_; have NB158_159 := n5_; have NB159_158 := n6_; clear n0_ n1_ n2_ n3_ n4_ n5_ n6_; clear hb hbox hg) | ((with_reducible refine gate_dst (N := 4) rfl ?_); refine kx (N := 4) (cs := #[.slice none 0 0, .bool false]) (t := 34) ?_; intro gb160 hg w5 hbox hb; have n0_ := ka (blk_below (g := gb158) (kz BK158.out) hb); have n1_ := ka (blk_below (g := gb159) (kz BK159.out) hb); have n2_ := ka (below_step (kw HB.out) hb); have n3_ := ka (hbox); have n4_ := ka ((by rw [hg]; exact (below_size (kw HB.out)) : w.heap.size ≤ gb160)); have n5_ := n4_; have n6_ := ka ((by rw [hg]; exact Nat.ne_of_lt (blk_lt (g := gb158) (kz BK158.out)) : gb158 ≠ gb160)); have n7_ := ka n6_.out.symm; have n8_ := ka ((by rw [hg]; exact Nat.ne_of_lt (blk_lt (g := gb159) (kz BK159.out)) : gb159 ≠ gb160)); have n9_ := ka n8_.out.symm; clear BK158; clear BK159; clear HB; have BK158 := n0_; have BK159 := n1_; have HB := n2_; have BK160 := n3_; have GW160 := n4_; have GE160 := n5_; have NB158_160 := n6_; have NB160_158 := n7_; have NB159_160 := n8_; have NB160_159 := n9_; clear n0_ n1_ n2_ n3_ n4_ n5_ n6_ n7_ n8_ n9_; clear hb hbox hg))
 repeat (go_quiet (first | ((with_reducible refine gate_dst (N := 2) rfl ?_); refine kx (N := 2) (cs := #[.slice A0_0 l0_0.length c0_0, .bool a0_1]) (t := 34) ?_; intro gb158 hg w3 hbox hb; have n0_ := ka (below_step (kw HB.out) hb); have n1_ := ka (hbox); have n2_ := ka ((by rw [hg]; exact (below_size (kw HB.out)) : w.heap.size ≤ gb158)); have n3_ := n2_; clear HB; have HB := n0_; have BK158 := n1_; have GW158 := n2_; have GE158 := n3_; clear n0_ n1_ n2_ n3_; clear hb hbox hg) | ((with_reducible refine gate_dst (N := 3) rfl ?_); refine kx (N := 3) (cs := #[.slice A1_0 l1_0.length c1_0, .bool a1_1]) (t := 34) ?_; intro gb159 hg w4 hbox hb; have n0_ := ka (blk_below (g := gb158) (kz BK158.out) hb); have n1_ := ka (below_step (kw HB.out) hb); have n2_ := ka (hbox); have n3_ := ka ((by rw [hg]; exact (below_size (kw HB.out)) : w.heap.size ≤ gb159)); have n4_ := n3_; have n5_ := ka ((by rw [hg]; exact Nat.ne_of_lt (blk_lt (g := gb158) (kz BK158.out)) : gb158 ≠ gb159)); have n6_ := ka n5_.out.symm; clear BK158; clear HB; have BK158 := n0_; have HB := n1_; have BK159 := n2_; have GW159 := n3_; have GE159 := n4_; have NB158_159 := n5_; have NB159_158 := n6_; clear n0_ n1_ n2_ n3_ n4_ n5_ n6_; clear hb hbox hg) | ((with_reducible refine gate_dst (N := 4) rfl ?_); refine kx (N := 4) (cs := #[.slice none 0 0, .bool false]) (t := 34) ?_; intro gb160 hg w5 hbox hb; have n0_ := ka (blk_below (g := gb158) (kz BK158.out) hb); have n1_ := ka (blk_below (g := gb159) (kz BK159.out) hb); have n2_ := ka (below_step (kw HB.out) hb); have n3_ := ka (hbox); have n4_ := ka ((by rw [hg]; exact (below_size (kw HB.out)) : w.heap.size ≤ gb160)); have n5_ := n4_; have n6_ := ka ((by rw [hg]; exact Nat.ne_of_lt (blk_lt (g := gb158) (kz BK158.out)) : gb158 ≠ gb160)); have n7_ := ka n6_.out.symm; have n8_ := ka ((by rw [hg]; exact Nat.ne_of_lt (blk_lt (g := gb159) (kz BK159.out)) : gb159 ≠ gb160)); have n9_ := ka n8_.out.symm; clear BK158; clear BK159; clear HB; have BK158 := n0_; have BK159 := n1_; have HB := n2_; have BK160 := n3_; have GW160 := n4_; have GE160 := n5_; have NB158_160 := n6_; have NB160_158 := n7_; have NB159_160 := n8_; have NB160_159 := n9_; clear n0_ n1_ n2_ n3_ n4_ n5_ n6_ n7_ n8_ n9_; clear hb hbox hg)); try go_wp2_with (first | ((with_reducible refine gate_dst (N := 2) rfl ?_); refine kx (N := 2) (cs := #[.slice A0_0 l0_0.length c0_0, .bool a0_1]) (t := 34) ?_; intro gb158 hg w3 hbox hb; have n0_ := ka (below_step (kw HB.out) hb); have n1_ := ka (hbox); have n2_ := ka ((by rw [hg]; exact (below_size (kw HB.out)) : w.heap.size ≤ gb158)); have n3_ := n2_; clear HB; have HB := n0_; have BK158 := n1_; have GW158 := n2_; have GE158 := n3_; clear n0_ n1_ n2_ n3_; clear hb hbox hg) | ((with_reducible refine gate_dst (N := 3) rfl ?_); refine kx (N := 3) (cs := #[.slice A1_0 l1_0.length c1_0, .bool a1_1]) (t := 34) ?_; intro gb159 hg w4 hbox hb; have n0_ := ka (blk_below (g := gb158) (kz BK158.out) hb); have n1_ := ka (below_step (kw HB.out) hb); have n2_ := ka (hbox); have n3_ := ka ((by rw [hg]; exact (below_size (kw HB.out)) : w.heap.size ≤ gb159)); have n4_ := n3_; have n5_ := ka ((by rw [hg]; exact Nat.ne_of_lt (blk_lt (g := gb158) (kz BK158.out)) : gb158 ≠ gb159)); have n6_ := ka n5_.out.symm; clear BK158; clear HB; have BK158 := n0_; have HB := n1_; have BK159 := n2_; have GW159 := n3_; have GE159 := n4_; have NB158_159 := n5_; have NB159_158 := n6_; clear n0_ n1_ n2_ n3_ n4_ n5_ n6_; clear hb hbox hg) | ((with_reducible refine gate_dst (N := 4) rfl ?_); refine kx (N := 4) (cs := #[.slice none 0 0, .bool false]) (t := 34) ?_; intro gb160 hg w5 hbox hb; have n0_ := ka (blk_below (g := gb158) (kz BK158.out) hb); have n1_ := ka (blk_below (g := gb159) (kz BK159.out) hb); have n2_ := ka (below_step (kw HB.out) hb); have n3_ := ka (hbox); have n4_ := ka ((by rw [hg]; exact (below_size (kw HB.out)) : w.heap.size ≤ gb160)); have n5_ := n4_; have n6_ := ka ((by rw [hg]; exact Nat.ne_of_lt (blk_lt (g := gb158) (kz BK158.out)) : gb158 ≠ gb160)); have n7_ := ka n6_.out.symm; have n8_ := ka ((by rw [hg]; exact Nat.ne_of_lt (blk_lt (g := gb159) (kz BK159.out)) : gb159 ≠ gb160)); have n9_ := ka n8_.out.symm; clear BK158; clear BK159; clear HB; have BK158 := n0_; have BK159 := n1_; have HB := n2_; have BK160 := n3_; have GW160 := n4_; have GE160 := n5_; have NB158_160 := n6_; have NB160_158 := n7_; have NB159_160 := n8_; have NB160_159 := n9_; clear n0_ n1_ n2_ n3_ n4_ n5_ n6_ n7_ n8_ n9_; clear hb hbox hg)))
 (try simp only [Act.put, List.setIfInBounds_toArray, List.set_cons_zero, List.set_cons_succ])
 go_loopg [5, 6] k (fun kq v5 v6 w' => ∃ (x5_1 : List Int) (x6_1 : Int), v6 = .int .i64 x6_1 ∧ Aside0 (trivetref01_Mul.l0 kq x5_1 x6_1 l0_0 a0_1 l1_0 a1_1 = some (r1, r2)) ∧ Aside0 (kq ≤ k) ∧ Aside0 (Kd.R (Kd.int .u64) 42 w' w.heap.size (fun k_ => (w.heap.size ≤ k_)) v5 x5_1) ∧ Aside0 (w'.heap[gb158]? = some (.cells #[(.slice A0_0 l0_0.length c0_0), .bool a0_1] 34 (0, 0))) ∧ Aside0 (w'.heap[gb159]? = some (.cells #[(.slice A1_0 l1_0.length c1_0), .bool a1_1] 34 (0, 0))) ∧ Aside0 (w'.heap[gb160]? = some (.cells #[(.slice none 0 0), .bool false] 34 (0, 0))) ∧ Aside0 (Below w.heap.size w w'))
 case atStart => exact ⟨(([] : List Int)), (0), (by first | rfl | (simp; done) | (simp [*]; done)), H', ⟨Nat.le_refl _⟩, ⟨by first | exact Kd.R_nil _ _ _ _ _ | exact Kd.N_nil _ _ _ _ _ | exact Kd.V_nil _ _ _ _ _ | exact Kd.Q_nil _ _ _ _ _ | exact Kd.S_nil _ _ _ _ _⟩, ⟨by (with_reducible repeat (first | apply kb1 | apply kb2 | apply kb3)); exact BK158.out⟩, ⟨by (with_reducible repeat (first | apply kb1 | apply kb2 | apply kb3)); exact BK159.out⟩, ⟨by (with_reducible repeat (first | apply kb1 | apply kb2 | apply kb3)); exact BK160.out⟩, ⟨by repeat (first | (with_reducible first | exact HB.out | apply kc1 | apply kc2 | apply kc3 | refine kc4 ?_ GE158.out | refine kc4 ?_ GE159.out | refine kc4 ?_ GE160.out) | exact HB.out)⟩⟩
 case round =>
  clear H'
  try clear c1
  try clear p2
  obtain ⟨x5_1, x6_1, rfl, HA, HK1, HO_5, BK158, BK159, BK160, HB⟩ := hrel
  cases gk with
  | zero => exact absurd HA.out (by simp [trivetref01_Mul.l0])
  | succ k1 =>
   have H := HA.out
   clear HA
   simp only [trivetref01_Mul.l0] at H
   by_cases c6 : x6_1 < (l0_0.length : Int)
   ·rw [if_pos c6] at H
    have c6b0 : decide (x6_1 < (l0_0.length : Int)) = true := decide_eq_true c6
    clear c6
    by_cases c7 : 0 ≤ x6_1
    ·rw [if_pos c7] at H
     have c7b0 := eq_true c7
     have c7b1 : decide (0 ≤ x6_1) = true := decide_eq_true c7
     clear c7
     by_cases c8 : (x6_1 : Int).toNat ≤ 35184372088832
     ·rw [if_pos c8] at H
      have c8b0 := eq_true c8
      have c8b1 : decide ((x6_1 : Int).toNat ≤ 35184372088832) = true := decide_eq_true c8
      clear c8
      obtain ⟨y165, hy165⟩ : ∃ y_ : List Int, y_ = (List.replicate (x6_1 : Int).toNat 0) := ⟨_, rfl⟩
      replace H : (trivetref01_Mul.l1 k1 x5_1 x6_1 y165 0 0 l0_0 a0_1 l1_0 a1_1) = some (r1, r2) := by first | (rw [hy165]; with_reducible exact H) | (have H2_ := (Option.bind_some _ _).symm.trans H; rw [hy165]; with_reducible exact H2_) | (have H2_ := (Option.bind_some _ _).symm.trans H; with_reducible exact H2_) | with_reducible exact H | (rw [hy165]; exact H) | exact H
      have Ny165 := ka hy165
      clear hy165
      have H' := ka H
      clear H
      have hnb9 := NB158_159.out
      have hnc9 := NB159_158.out
      have hnb10 := NB158_160.out
      have hnc10 := NB160_158.out
      have hcz11 := blkAll2 BK158.out
      go_wp2_with (first | ((with_reducible refine gate_dst (N := 19) rfl ?_); refine Kd.R_make (Kd.int .u64) _ 42 rfl (N := 19) rfl 32 _ _ rfl x6_1 rfl rfl Try.underlying32 (.int .u64 0) 8 info42 rfl (by decide) (by omega) 0 (ok := fun _ => True) (okp := fun _ => True) rfl (fun _ hk => hk) trivial (of_decide_eq_true (by first | (with_reducible assumption) | assumption)) (Nat.le_trans (Nat.mul_le_mul_right _ (of_decide_eq_true (by first | (with_reducible assumption) | assumption) : x6_1.toNat ≤ 35184372088832)) (by omega)) (Below.refl _ _) (Nat.le_refl _) ?_; intro v166 w12 ho13 hb hg_ hnew_; clear hg_ hnew_; (first | rw [← Ny165.out] at ho13 | (simp only [Int.reduceToNat] at ho13; rw [← Ny165.out] at ho13)); have HO167 := ka (Kd.R_lower (Kd.R_new' (Kd.R_newM (M := fun k_ => (w.heap.size ≤ k_)) ho13 (below_size (kw HB.out)) (fun k_ h_ => h_)) (Kd.R_lt (kr HO_5.out))) (below_size (kw HB.out))); replace HO_5 := ka (Kd.R_elder' (kr HO_5.out) (Kd.R_base ho13) hb); replace BK158 := kbb BK158 hb; replace BK159 := kbb BK159 hb; replace BK160 := kbb BK160 hb; replace HB := ka (below_step (kw HB.out) hb); clear hb ho13))
      repeat (go_quiet (first | ((with_reducible refine gate_dst (N := 19) rfl ?_); refine Kd.R_make (Kd.int .u64) _ 42 rfl (N := 19) rfl 32 _ _ rfl x6_1 rfl rfl Try.underlying32 (.int .u64 0) 8 info42 rfl (by decide) (by omega) 0 (ok := fun _ => True) (okp := fun _ => True) rfl (fun _ hk => hk) trivial (of_decide_eq_true (by first | (with_reducible assumption) | assumption)) (Nat.le_trans (Nat.mul_le_mul_right _ (of_decide_eq_true (by first | (with_reducible assumption) | assumption) : x6_1.toNat ≤ 35184372088832)) (by omega)) (Below.refl _ _) (Nat.le_refl _) ?_; intro v166 w12 ho13 hb hg_ hnew_; clear hg_ hnew_; (first | rw [← Ny165.out] at ho13 | (simp only [Int.reduceToNat] at ho13; rw [← Ny165.out] at ho13)); have HO167 := ka (Kd.R_lower (Kd.R_new' (Kd.R_newM (M := fun k_ => (w.heap.size ≤ k_)) ho13 (below_size (kw HB.out)) (fun k_ h_ => h_)) (Kd.R_lt (kr HO_5.out))) (below_size (kw HB.out))); replace HO_5 := ka (Kd.R_elder' (kr HO_5.out) (Kd.R_base ho13) hb); replace BK158 := kbb BK158 hb; replace BK159 := kbb BK159 hb; replace BK160 := kbb BK160 hb; replace HB := ka (below_step (kw HB.out) hb); clear hb ho13)); try go_wp2_with (first | ((with_reducible refine gate_dst (N := 19) rfl ?_); refine Kd.R_make (Kd.int .u64) _ 42 rfl (N := 19) rfl 32 _ _ rfl x6_1 rfl rfl Try.underlying32 (.int .u64 0) 8 info42 rfl (by decide) (by omega) 0 (ok := fun _ => True) (okp := fun _ => True) rfl (fun _ hk => hk) trivial (of_decide_eq_true (by first | (with_reducible assumption) | assumption)) (Nat.le_trans (Nat.mul_le_mul_right _ (of_decide_eq_true (by first | (with_reducible assumption) | assumption) : x6_1.toNat ≤ 35184372088832)) (by omega)) (Below.refl _ _) (Nat.le_refl _) ?_; intro v166 w12 ho13 hb hg_ hnew_; clear hg_ hnew_; (first | rw [← Ny165.out] at ho13 | (simp only [Int.reduceToNat] at ho13; rw [← Ny165.out] at ho13)); have HO167 := ka (Kd.R_lower (Kd.R_new' (Kd.R_newM (M := fun k_ => (w.heap.size ≤ k_)) ho13 (below_size (kw HB.out)) (fun k_ h_ => h_)) (Kd.R_lt (kr HO_5.out))) (below_size (kw HB.out))); replace HO_5 := ka (Kd.R_elder' (kr HO_5.out) (Kd.R_base ho13) hb); replace BK158 := kbb BK158 hb; replace BK159 := kbb BK159 hb; replace BK160 := kbb BK160 hb; replace HB := ka (below_step (kw HB.out) hb); clear hb ho13)))
      (try simp only [Act.put, List.setIfInBounds_toArray, List.set_cons_zero, List.set_cons_succ])
      go_loopg [7, 8, 9] k1 (fun kq v7 v8 v9 w' => ∃ (x7_2 : List Int) (x8_2 : Int) (x9_2 : Int), v8 = .int .u64 x8_2 ∧ v9 = .int .i64 x9_2 ∧ Aside0 (trivetref01_Mul.l1 kq x5_1 x6_1 x7_2 x8_2 x9_2 l0_0 a0_1 l1_0 a1_1 = some (r1, r2)) ∧ Aside0 (kq ≤ k1) ∧ Aside0 (Kd.R (Kd.int .u64) 42 w' w.heap.size (fun k_ => (w.heap.size ≤ k_) ∧ some k_ ≠ (v7 : Value).ownBlock) u5 x5_1) ∧ Aside0 (Kd.R (Kd.int .u64) 42 w' w.heap.size (fun k_ => (w.heap.size ≤ k_) ∧ some k_ ≠ (u5 : Value).ownBlock) v7 x7_2) ∧ Aside0 (w'.heap[gb158]? = some (.cells #[(.slice A0_0 l0_0.length c0_0), .bool a0_1] 34 (0, 0))) ∧ Aside0 (w'.heap[gb159]? = some (.cells #[(.slice A1_0 l1_0.length c1_0), .bool a1_1] 34 (0, 0))) ∧ Aside0 (w'.heap[gb160]? = some (.cells #[(.slice none 0 0), .bool false] 34 (0, 0))) ∧ Aside0 (Below w.heap.size w w'))
      case atStart => exact ⟨(y165), (0), (0), (by first | rfl | (simp; done) | (simp [*]; done)), (by first | rfl | (simp; done) | (simp [*]; done)), H', ⟨Nat.le_refl _⟩, ⟨kr HO_5.out⟩, ⟨kr (Kd.R_mono HO167.out (fun _ hk => ⟨hk.1.1, hk.2⟩))⟩, ⟨by (with_reducible repeat (first | apply kb1 | apply kb2 | apply kb3)); exact BK158.out⟩, ⟨by (with_reducible repeat (first | apply kb1 | apply kb2 | apply kb3)); exact BK159.out⟩, ⟨by (with_reducible repeat (first | apply kb1 | apply kb2 | apply kb3)); exact BK160.out⟩, ⟨by repeat (first | (with_reducible first | exact HB.out | apply kc1 | apply kc2 | apply kc3 | refine kc4 ?_ GE158.out | refine kc4 ?_ GE159.out | refine kc4 ?_ GE160.out) | exact HB.out)⟩⟩
      case round =>
       clear H'
       try clear c1
       try clear p2
       try clear c6
       try clear c6b0
       try clear c7
       try clear c7b0
       try clear c7b1
       try clear c8
       try clear c8b0
       try clear c8b1
       try clear c9
       try clear c10
       try clear hcz11
       try clear p2
       obtain ⟨x7_2, x8_2, x9_2, rfl, rfl, HA, HK2, HO_5, HO_7, BK158, BK159, BK160, HB⟩ := hrel
       cases gk with
       | zero => exact absurd HA.out (by simp [trivetref01_Mul.l1])
       | succ k2 =>
        have H := HA.out
        clear HA
        simp only [trivetref01_Mul.l1] at H
        by_cases c14 : x9_2 < (l1_0.length : Int)
        ·rw [if_pos c14] at H
         have c14b0 : decide (x9_2 < (l1_0.length : Int)) = true := decide_eq_true c14
         clear c14
         by_cases c15 : 0 ≤ x6_1
         ·rw [if_pos c15] at H
          have c15b0 : decide (0 ≤ x6_1) = true := decide_eq_true c15
          clear c15
          by_cases c16 : x6_1 < (l0_0.length : Int)
          ·rw [if_pos c16] at H
           have c16b0 : decide (x6_1 < (l0_0.length : Int)) = true := decide_eq_true c16
           clear c16
           by_cases c17 : 0 ≤ x9_2
           ·rw [if_pos c17] at H
            have c17b0 : decide (0 ≤ x9_2) = true := decide_eq_true c17
            clear c17
            by_cases c18 : x7_2.length < 17592186044416
            ·rw [if_pos c18] at H
             have LMc18 := ka c18
             clear c18
             obtain ⟨y170, hy170⟩ : ∃ y_ : List Int, y_ = (x7_2 ++ [Int.tmod (IntKind.u64.wrap ((IntKind.u64.wrap ((rd l0_0 x6_1) * (rd l1_0 x9_2))) + x8_2)) 65536]) := ⟨_, rfl⟩
             replace H : (trivetref01_Mul.l1 k2 x5_1 x6_1 y170 (IntKind.u64.wrap (Int.tdiv (IntKind.u64.wrap ((IntKind.u64.wrap ((rd l0_0 x6_1) * (rd l1_0 x9_2))) + x8_2)) 65536)) (wrap64 (x9_2 + 1)) l0_0 a0_1 l1_0 a1_1) = some (r1, r2) := by first | (rw [hy170]; with_reducible exact H) | (have H2_ := (Option.bind_some _ _).symm.trans H; rw [hy170]; with_reducible exact H2_) | (have H2_ := (Option.bind_some _ _).symm.trans H; with_reducible exact H2_) | with_reducible exact H | (rw [hy170]; exact H) | exact H
             have Ny170 := ka hy170
             clear hy170
             have H' := ka H
             clear H
             have hnb19 := NB159_158.out
             have hnc19 := NB158_159.out
             have hnb20 := NB159_160.out
             have hnc20 := NB160_159.out
             have hcz21 := blkAll2 BK159.out
             have hnb22 := NB158_160.out
             have hnc22 := NB160_158.out
             have hcz23 := blkAll2 BK158.out
             have p168 : 0 ≤ (x6_1 : Int) := of_decide_eq_true (by first | (with_reducible assumption) | assumption)
             have q168 : x6_1 < (l0_0.length : Int) := of_decide_eq_true (by first | (with_reducible assumption) | assumption)
             obtain ⟨ad168, e168, hx168_0⟩ := Kd.at_int HR0_0.out x6_1 p168 q168
             cases e168
             replace hx168_0 := (HB.out.cell (World.block_lt_of_cell? w _ hx168_0)).trans hx168_0
             replace p168 := eq_true p168
             replace q168 := eq_true q168
             have p169 : 0 ≤ (x9_2 : Int) := of_decide_eq_true (by first | (with_reducible assumption) | assumption)
             have q169 : x9_2 < (l1_0.length : Int) := of_decide_eq_true (by first | (with_reducible assumption) | assumption)
             obtain ⟨ad169, e169, hx169_0⟩ := Kd.at_int HR1_0.out x9_2 p169 q169
             cases e169
             replace hx169_0 := (HB.out.cell (World.block_lt_of_cell? w _ hx169_0)).trans hx169_0
             replace p169 := eq_true p169
             replace q169 := eq_true q169
             go_wp2_with (first | ((with_reducible refine gate_builtin (b := .append) (xs := #[.tmp 40, .tmp 43]) rfl ?_); at_builtin; refine Kd.R_append (Kd.int .u64) (w0 := w) w.heap.size rfl (.tmp 40) (.tmp 43) 32 42 (.int .u64 0) 8 rfl Try.underlying32 info42 rfl (by decide) (by omega) u7 x7_2 (Int.tmod (IntKind.u64.wrap ((IntKind.u64.wrap ((rd l0_0 x6_1) * (rd l1_0 x9_2))) + x8_2)) 65536) [.int .u64 (Int.tmod (IntKind.u64.wrap ((IntKind.u64.wrap ((rd l0_0 x6_1) * (rd l1_0 x9_2))) + x8_2)) 65536)] (fun k_ => (w.heap.size ≤ k_) ∧ some k_ ≠ (u5 : Value).ownBlock) (fun _ => False) rfl rfl ?aP (fun _ hk => hk.elim) ?aF ?aO ?aB ?aS ?aL ?_; (case aP => exact rfl); (case aB => exact (kw HB.out)); (case aF => exact (fun k_ hk => ⟨(Nat.le_trans (below_size (kw HB.out)) hk), Kd.fresh' (Kd.R_lt (kr HO_5.out)) k_ hk⟩)); (case aO => exact (kr HO_7.out)); (case aS => exact (below_size (kw HB.out))); (case aL => have := LMc18.out; omega); intro v171 w24 ho hb hg hat; rw [← Ny170.out] at ho; replace HO_5 := ka (Kd.R_after (ok := (fun k_ => (w.heap.size ≤ k_))) (kr HO_5.out) hg hat); replace BK158 := ka (blk_grown (g := gb158) (kz BK158.out) hg (Kd.R_ne HO_7.out BK158.out (by decide))); replace BK159 := ka (blk_grown (g := gb159) (kz BK159.out) hg (Kd.R_ne HO_7.out BK159.out (by decide))); replace BK160 := ka (blk_grown (g := gb160) (kz BK160.out) hg (Kd.R_ne HO_7.out BK160.out (by decide))); replace HB := ka (hb); have HO172 := ka (ho); clear HO_7; clear ho hb hg hat))
             repeat (go_quiet (first | ((with_reducible refine gate_builtin (b := .append) (xs := #[.tmp 40, .tmp 43]) rfl ?_); at_builtin; refine Kd.R_append (Kd.int .u64) (w0 := w) w.heap.size rfl (.tmp 40) (.tmp 43) 32 42 (.int .u64 0) 8 rfl Try.underlying32 info42 rfl (by decide) (by omega) u7 x7_2 (Int.tmod (IntKind.u64.wrap ((IntKind.u64.wrap ((rd l0_0 x6_1) * (rd l1_0 x9_2))) + x8_2)) 65536) [.int .u64 (Int.tmod (IntKind.u64.wrap ((IntKind.u64.wrap ((rd l0_0 x6_1) * (rd l1_0 x9_2))) + x8_2)) 65536)] (fun k_ => (w.heap.size ≤ k_) ∧ some k_ ≠ (u5 : Value).ownBlock) (fun _ => False) rfl rfl ?aP (fun _ hk => hk.elim) ?aF ?aO ?aB ?aS ?aL ?_; (case aP => exact rfl); (case aB => exact (kw HB.out)); (case aF => exact (fun k_ hk => ⟨(Nat.le_trans (below_size (kw HB.out)) hk), Kd.fresh' (Kd.R_lt (kr HO_5.out)) k_ hk⟩)); (case aO => exact (kr HO_7.out)); (case aS => exact (below_size (kw HB.out))); (case aL => have := LMc18.out; omega); intro v171 w24 ho hb hg hat; rw [← Ny170.out] at ho; replace HO_5 := ka (Kd.R_after (ok := (fun k_ => (w.heap.size ≤ k_))) (kr HO_5.out) hg hat); replace BK158 := ka (blk_grown (g := gb158) (kz BK158.out) hg (Kd.R_ne HO_7.out BK158.out (by decide))); replace BK159 := ka (blk_grown (g := gb159) (kz BK159.out) hg (Kd.R_ne HO_7.out BK159.out (by decide))); replace BK160 := ka (blk_grown (g := gb160) (kz BK160.out) hg (Kd.R_ne HO_7.out BK160.out (by decide))); replace HB := ka (hb); have HO172 := ka (ho); clear HO_7; clear ho hb hg hat)); try go_wp2_with (first | ((with_reducible refine gate_builtin (b := .append) (xs := #[.tmp 40, .tmp 43]) rfl ?_); at_builtin; refine Kd.R_append (Kd.int .u64) (w0 := w) w.heap.size rfl (.tmp 40) (.tmp 43) 32 42 (.int .u64 0) 8 rfl Try.underlying32 info42 rfl (by decide) (by omega) u7 x7_2 (Int.tmod (IntKind.u64.wrap ((IntKind.u64.wrap ((rd l0_0 x6_1) * (rd l1_0 x9_2))) + x8_2)) 65536) [.int .u64 (Int.tmod (IntKind.u64.wrap ((IntKind.u64.wrap ((rd l0_0 x6_1) * (rd l1_0 x9_2))) + x8_2)) 65536)] (fun k_ => (w.heap.size ≤ k_) ∧ some k_ ≠ (u5 : Value).ownBlock) (fun _ => False) rfl rfl ?aP (fun _ hk => hk.elim) ?aF ?aO ?aB ?aS ?aL ?_; (case aP => exact rfl); (case aB => exact (kw HB.out)); (case aF => exact (fun k_ hk => ⟨(Nat.le_trans (below_size (kw HB.out)) hk), Kd.fresh' (Kd.R_lt (kr HO_5.out)) k_ hk⟩)); (case aO => exact (kr HO_7.out)); (case aS => exact (below_size (kw HB.out))); (case aL => have := LMc18.out; omega); intro v171 w24 ho hb hg hat; rw [← Ny170.out] at ho; replace HO_5 := ka (Kd.R_after (ok := (fun k_ => (w.heap.size ≤ k_))) (kr HO_5.out) hg hat); replace BK158 := ka (blk_grown (g := gb158) (kz BK158.out) hg (Kd.R_ne HO_7.out BK158.out (by decide))); replace BK159 := ka (blk_grown (g := gb159) (kz BK159.out) hg (Kd.R_ne HO_7.out BK159.out (by decide))); replace BK160 := ka (blk_grown (g := gb160) (kz BK160.out) hg (Kd.R_ne HO_7.out BK160.out (by decide))); replace HB := ka (hb); have HO172 := ka (ho); clear HO_7; clear ho hb hg hat)))
             go_roundg k2
             case measure => have := HK1.out; have := HK2.out; omega
             case rel => exact ⟨(y170), (IntKind.u64.wrap (Int.tdiv (IntKind.u64.wrap ((IntKind.u64.wrap ((rd l0_0 x6_1) * (rd l1_0 x9_2))) + x8_2)) 65536)), (wrap64 (x9_2 + 1)), (by first | rfl | (simp; done) | (simp [*]; done)), (by first | rfl | (simp; done) | (simp [*]; done)), H', ⟨by have := HK1.out; have := HK2.out; omega⟩, ⟨kr HO_5.out⟩, ⟨kr HO172.out⟩, ⟨by (with_reducible repeat (first | apply kb1 | apply kb2 | apply kb3)); exact BK158.out⟩, ⟨by (with_reducible repeat (first | apply kb1 | apply kb2 | apply kb3)); exact BK159.out⟩, ⟨by (with_reducible repeat (first | apply kb1 | apply kb2 | apply kb3)); exact BK160.out⟩, ⟨by repeat (first | (with_reducible first | exact HB.out | apply kc1 | apply kc2 | apply kc3 | refine kc4 ?_ GE158.out | refine kc4 ?_ GE159.out | refine kc4 ?_ GE160.out) | exact HB.out)⟩⟩
            ·rw [if_neg c18] at H
             exact absurd H (by simp)
           ·rw [if_neg c17] at H
            exact absurd H (by simp)
          ·rw [if_neg c16] at H
           exact absurd H (by simp)
         ·rw [if_neg c15] at H
          exact absurd H (by simp)
        ·rw [if_neg c14] at H
         have c14b0 : decide (x9_2 < (l1_0.length : Int)) = false := decide_eq_false c14
         clear c14
         by_cases c25 : x7_2.length < 17592186044416
         ·rw [if_pos c25] at H
          have LMc25 := ka c25
          clear c25
          obtain ⟨y173, hy173⟩ : ∃ y_ : List Int, y_ = (x7_2 ++ [x8_2]) := ⟨_, rfl⟩
          replace H : ((trivetref01_plus.f k2 x5_1 y173).bind fun t176 => (trivetref01_Mul.l0 k2 t176 (wrap64 (x6_1 + 1)) l0_0 a0_1 l1_0 a1_1)) = some (r1, r2) := by first | (rw [hy173]; with_reducible exact H) | (have H2_ := (Option.bind_some _ _).symm.trans H; rw [hy173]; with_reducible exact H2_) | (have H2_ := (Option.bind_some _ _).symm.trans H; with_reducible exact H2_) | with_reducible exact H | (rw [hy173]; exact H) | exact H
          have Ny173 := ka hy173
          clear hy173
          replace H := Option.bind_eq_some_iff.mp H
          obtain ⟨t176, A260, H⟩ := H
          replace H : (trivetref01_Mul.l0 k2 t176 (wrap64 (x6_1 + 1)) l0_0 a0_1 l1_0 a1_1) = some (r1, r2) := H
          have A26 := ka A260
          clear A260
          have H' := ka H
          clear H
          have hnb27 := NB159_158.out
          have hnc27 := NB158_159.out
          have hnb28 := NB159_160.out
          have hnc28 := NB160_159.out
          have hcz29 := blkAll2 BK159.out
          go_wp2_with (first | ((with_reducible refine gate_builtin (b := .append) (xs := #[.tmp 47, .tmp 49]) rfl ?_); at_builtin; refine Kd.R_append (Kd.int .u64) (w0 := w) w.heap.size rfl (.tmp 47) (.tmp 49) 32 42 (.int .u64 0) 8 rfl Try.underlying32 info42 rfl (by decide) (by omega) u7 x7_2 x8_2 [.int .u64 x8_2] (fun k_ => (w.heap.size ≤ k_) ∧ some k_ ≠ (u5 : Value).ownBlock) (fun _ => False) rfl rfl ?aP (fun _ hk => hk.elim) ?aF ?aO ?aB ?aS ?aL ?_; (case aP => exact rfl); (case aB => exact (kw HB.out)); (case aF => exact (fun k_ hk => ⟨(Nat.le_trans (below_size (kw HB.out)) hk), Kd.fresh' (Kd.R_lt (kr HO_5.out)) k_ hk⟩)); (case aO => exact (kr HO_7.out)); (case aS => exact (below_size (kw HB.out))); (case aL => have := LMc25.out; omega); intro v174 w30 ho hb hg hat; rw [← Ny173.out] at ho; replace HO_5 := ka (Kd.R_after (ok := (fun k_ => (w.heap.size ≤ k_))) (kr HO_5.out) hg hat); replace BK158 := ka (blk_grown (g := gb158) (kz BK158.out) hg (Kd.R_ne HO_7.out BK158.out (by decide))); replace BK159 := ka (blk_grown (g := gb159) (kz BK159.out) hg (Kd.R_ne HO_7.out BK159.out (by decide))); replace BK160 := ka (blk_grown (g := gb160) (kz BK160.out) hg (Kd.R_ne HO_7.out BK160.out (by decide))); replace HB := ka (hb); have HO175 := ka (ho); clear HO_7; clear ho hb hg hat; obtain ⟨Ao31, co31, eo31⟩ := Kd.R_slice HO_5.out; subst eo31; obtain ⟨Ao32, co32, eo32⟩ := Kd.R_slice HO175.out; subst eo32) | (go_at_call 27; (with_reducible refine (trivetref01_plus.calls k2 _ _ x5_1 _ _ y173 t176 _ ?side1 ?side2 ?side3 ?side4 A26.out).mono ?_); (case side1 => repeat (first | exact (Kd.R_reads' HO_5.out).2.2 | (with_reducible refine Kd.C_alloc ?_ _) | (with_reducible refine Kd.C_drewN ?_ _) | (with_reducible refine Kd.C_drew ?_))); (case side2 => exact (Kd.R_reads' HO_5.out).2.1); (case side3 => repeat (first | exact (Kd.R_reads' HO175.out).2.2 | (with_reducible refine Kd.C_alloc ?_ _) | (with_reducible refine Kd.C_drewN ?_ _) | (with_reducible refine Kd.C_drew ?_))); (case side4 => exact (Kd.R_reads' HO175.out).2.1); rintro e w33 ⟨v177, rfl, ho0, hb⟩; have HO178 := ka (Kd.R_lower (Kd.R_new' (Kd.R_new' (Kd.R_newM (M := fun k_ => (w.heap.size ≤ k_)) ho0 (below_size (kw HB.out)) (fun k_ h_ => h_)) (Kd.R_lt (kr HO_5.out))) (Kd.R_lt (kr HO175.out))) (below_size (kw HB.out))); replace HO_5 := ka (Kd.R_elder' (kr HO_5.out) (Kd.R_base ho0) hb); replace HO175 := ka (Kd.R_elder' (kr HO175.out) (Kd.R_base ho0) hb); replace BK158 := kbb BK158 hb; replace BK159 := kbb BK159 hb; replace BK160 := kbb BK160 hb; replace HB := ka (below_step (kw HB.out) hb); (try clear hb); (try clear hb2); (try clear hk); (try clear hi); (try clear ho0)))
          repeat (go_quiet (first | ((with_reducible refine gate_builtin (b := .append) (xs := #[.tmp 47, .tmp 49]) rfl ?_); at_builtin; refine Kd.R_append (Kd.int .u64) (w0 := w) w.heap.size rfl (.tmp 47) (.tmp 49) 32 42 (.int .u64 0) 8 rfl Try.underlying32 info42 rfl (by decide) (by omega) u7 x7_2 x8_2 [.int .u64 x8_2] (fun k_ => (w.heap.size ≤ k_) ∧ some k_ ≠ (u5 : Value).ownBlock) (fun _ => False) rfl rfl ?aP (fun _ hk => hk.elim) ?aF ?aO ?aB ?aS ?aL ?_; (case aP => exact rfl); (case aB => exact (kw HB.out)); (case aF => exact (fun k_ hk => ⟨(Nat.le_trans (below_size (kw HB.out)) hk), Kd.fresh' (Kd.R_lt (kr HO_5.out)) k_ hk⟩)); (case aO => exact (kr HO_7.out)); (case aS => exact (below_size (kw HB.out))); (case aL => have := LMc25.out; omega); intro v174 w30 ho hb hg hat; rw [← Ny173.out] at ho; replace HO_5 := ka (Kd.R_after (ok := (fun k_ => (w.heap.size ≤ k_))) (kr HO_5.out) hg hat); replace BK158 := ka (blk_grown (g := gb158) (kz BK158.out) hg (Kd.R_ne HO_7.out BK158.out (by decide))); replace BK159 := ka (blk_grown (g := gb159) (kz BK159.out) hg (Kd.R_ne HO_7.out BK159.out (by decide))); replace BK160 := ka (blk_grown (g := gb160) (kz BK160.out) hg (Kd.R_ne HO_7.out BK160.out (by decide))); replace HB := ka (hb); have HO175 := ka (ho); clear HO_7; clear ho hb hg hat; obtain ⟨Ao31, co31, eo31⟩ := Kd.R_slice HO_5.out; subst eo31; obtain ⟨Ao32, co32, eo32⟩ := Kd.R_slice HO175.out; subst eo32) | (go_at_call 27; (with_reducible refine (trivetref01_plus.calls k2 _ _ x5_1 _ _ y173 t176 _ ?side1 ?side2 ?side3 ?side4 A26.out).mono ?_); (case side1 => repeat (first | exact (Kd.R_reads' HO_5.out).2.2 | (with_reducible refine Kd.C_alloc ?_ _) | (with_reducible refine Kd.C_drewN ?_ _) | (with_reducible refine Kd.C_drew ?_))); (case side2 => exact (Kd.R_reads' HO_5.out).2.1); (case side3 => repeat (first | exact (Kd.R_reads' HO175.out).2.2 | (with_reducible refine Kd.C_alloc ?_ _) | (with_reducible refine Kd.C_drewN ?_ _) | (with_reducible refine Kd.C_drew ?_))); (case side4 => exact (Kd.R_reads' HO175.out).2.1); rintro e w33 ⟨v177, rfl, ho0, hb⟩; have HO178 := ka (Kd.R_lower (Kd.R_new' (Kd.R_new' (Kd.R_newM (M := fun k_ => (w.heap.size ≤ k_)) ho0 (below_size (kw HB.out)) (fun k_ h_ => h_)) (Kd.R_lt (kr HO_5.out))) (Kd.R_lt (kr HO175.out))) (below_size (kw HB.out))); replace HO_5 := ka (Kd.R_elder' (kr HO_5.out) (Kd.R_base ho0) hb); replace HO175 := ka (Kd.R_elder' (kr HO175.out) (Kd.R_base ho0) hb); replace BK158 := kbb BK158 hb; replace BK159 := kbb BK159 hb; replace BK160 := kbb BK160 hb; replace HB := ka (below_step (kw HB.out) hb); (try clear hb); (try clear hb2); (try clear hk); (try clear hi); (try clear ho0))); try go_wp2_with (first | ((with_reducible refine gate_builtin (b := .append) (xs := #[.tmp 47, .tmp 49]) rfl ?_); at_builtin; refine Kd.R_append (Kd.int .u64) (w0 := w) w.heap.size rfl (.tmp 47) (.tmp 49) 32 42 (.int .u64 0) 8 rfl Try.underlying32 info42 rfl (by decide) (by omega) u7 x7_2 x8_2 [.int .u64 x8_2] (fun k_ => (w.heap.size ≤ k_) ∧ some k_ ≠ (u5 : Value).ownBlock) (fun _ => False) rfl rfl ?aP (fun _ hk => hk.elim) ?aF ?aO ?aB ?aS ?aL ?_; (case aP => exact rfl); (case aB => exact (kw HB.out)); (case aF => exact (fun k_ hk => ⟨(Nat.le_trans (below_size (kw HB.out)) hk), Kd.fresh' (Kd.R_lt (kr HO_5.out)) k_ hk⟩)); (case aO => exact (kr HO_7.out)); (case aS => exact (below_size (kw HB.out))); (case aL => have := LMc25.out; omega); intro v174 w30 ho hb hg hat; rw [← Ny173.out] at ho; replace HO_5 := ka (Kd.R_after (ok := (fun k_ => (w.heap.size ≤ k_))) (kr HO_5.out) hg hat); replace BK158 := ka (blk_grown (g := gb158) (kz BK158.out) hg (Kd.R_ne HO_7.out BK158.out (by decide))); replace BK159 := ka (blk_grown (g := gb159) (kz BK159.out) hg (Kd.R_ne HO_7.out BK159.out (by decide))); replace BK160 := ka (blk_grown (g := gb160) (kz BK160.out) hg (Kd.R_ne HO_7.out BK160.out (by decide))); replace HB := ka (hb); have HO175 := ka (ho); clear HO_7; clear ho hb hg hat; obtain ⟨Ao31, co31, eo31⟩ := Kd.R_slice HO_5.out; subst eo31; obtain ⟨Ao32, co32, eo32⟩ := Kd.R_slice HO175.out; subst eo32) | (go_at_call 27; (with_reducible refine (trivetref01_plus.calls k2 _ _ x5_1 _ _ y173 t176 _ ?side1 ?side2 ?side3 ?side4 A26.out).mono ?_); (case side1 => repeat (first | exact (Kd.R_reads' HO_5.out).2.2 | (with_reducible refine Kd.C_alloc ?_ _) | (with_reducible refine Kd.C_drewN ?_ _) | (with_reducible refine Kd.C_drew ?_))); (case side2 => exact (Kd.R_reads' HO_5.out).2.1); (case side3 => repeat (first | exact (Kd.R_reads' HO175.out).2.2 | (with_reducible refine Kd.C_alloc ?_ _) | (with_reducible refine Kd.C_drewN ?_ _) | (with_reducible refine Kd.C_drew ?_))); (case side4 => exact (Kd.R_reads' HO175.out).2.1); rintro e w33 ⟨v177, rfl, ho0, hb⟩; have HO178 := ka (Kd.R_lower (Kd.R_new' (Kd.R_new' (Kd.R_newM (M := fun k_ => (w.heap.size ≤ k_)) ho0 (below_size (kw HB.out)) (fun k_ h_ => h_)) (Kd.R_lt (kr HO_5.out))) (Kd.R_lt (kr HO175.out))) (below_size (kw HB.out))); replace HO_5 := ka (Kd.R_elder' (kr HO_5.out) (Kd.R_base ho0) hb); replace HO175 := ka (Kd.R_elder' (kr HO175.out) (Kd.R_base ho0) hb); replace BK158 := kbb BK158 hb; replace BK159 := kbb BK159 hb; replace BK160 := kbb BK160 hb; replace HB := ka (below_step (kw HB.out) hb); (try clear hb); (try clear hb2); (try clear hk); (try clear hi); (try clear ho0))))
          go_roundg k2
          case measure => have := HK1.out; have := HK2.out; omega
          case rel => exact ⟨(t176), (wrap64 (x6_1 + 1)), (by first | rfl | (simp; done) | (simp [*]; done)), H', ⟨by have := HK1.out; have := HK2.out; omega⟩, ⟨kr (Kd.R_mono HO178.out (fun _ hk => hk.1.1.1))⟩, ⟨by (with_reducible repeat (first | apply kb1 | apply kb2 | apply kb3)); exact BK158.out⟩, ⟨by (with_reducible repeat (first | apply kb1 | apply kb2 | apply kb3)); exact BK159.out⟩, ⟨by (with_reducible repeat (first | apply kb1 | apply kb2 | apply kb3)); exact BK160.out⟩, ⟨by repeat (first | (with_reducible first | exact HB.out | apply kc1 | apply kc2 | apply kc3 | refine kc4 ?_ GE158.out | refine kc4 ?_ GE159.out | refine kc4 ?_ GE160.out) | exact HB.out)⟩⟩
         ·rw [if_neg c25] at H
          exact absurd H (by simp)
     ·rw [if_neg c8] at H
      exact absurd H (by simp)
    ·rw [if_neg c7] at H
     exact absurd H (by simp)
   ·rw [if_neg c6] at H
    have c6b0 : decide (x6_1 < (l0_0.length : Int)) = false := decide_eq_false c6
    clear c6
    replace H := Option.bind_eq_some_iff.mp H
    obtain ⟨⟨t161, t164⟩, A340, H⟩ := H
    replace H : (some (t161, t164)) = some (r1, r2) := H
    have A34 := ka A340
    clear A340
    simp only [Option.some.injEq, Prod.mk.injEq] at H
    obtain ⟨rfl, rfl⟩ := H
    have hnb35 := NB158_159.out
    have hnc35 := NB159_158.out
    have hnb36 := NB158_160.out
    have hnc36 := NB160_158.out
    have hcz37 := blkAll2 BK158.out
    have hnb38 := NB159_160.out
    have hnc38 := NB160_159.out
    have hcz39 := blkAll2 BK159.out
    obtain ⟨Ao40, co40, eo40⟩ := Kd.R_slice HO_5.out
    subst eo40
    go_wp2_with (first | (go_at_call 28; (with_reducible refine (trivetref01_norm.calls k1 (fun k_ => some k_ = (.slice Ao40 x5_1.length co40 : Value).ownBlock) _ _ x5_1 (!(a0_1 == a1_1)) t161 t164 _ ?side1 A34.out).mono ?_); (case side1 => exact Kd.R_V (Kd.R_tight rfl (Kd.R_types (Kd.R_types (Kd.R_types (HO_5.out) BK158.out (by decide)) BK159.out (by decide)) BK160.out (by decide)))); rintro e w41 ⟨v162, rfl, ho0, hb⟩; have HO163 := ka (Kd.V_lower (Kd.V_mono (ok' := fun k_ => (w.heap.size ≤ k_) ∧ k_ ≠ gb158 ∧ k_ ≠ gb159 ∧ k_ ≠ gb160) ho0 (fun k_ hk_ => ⟨Or.elim hk_ (fun hs_ => ((Kd.R_types (Kd.R_types (Kd.R_types (HO_5.out) BK158.out (by decide)) BK159.out (by decide)) BK160.out (by decide)).1 k_ hs_.symm).1.1.1) (fun hn_ => (Nat.le_trans (below_size (kw HB.out)) hn_)), Or.elim hk_ (fun hs_ => ((Kd.R_types (Kd.R_types (Kd.R_types (HO_5.out) BK158.out (by decide)) BK159.out (by decide)) BK160.out (by decide)).1 k_ hs_.symm).1.1.2) (fun hn_ => (kf BK158 hn_)), Or.elim hk_ (fun hs_ => ((Kd.R_types (Kd.R_types (Kd.R_types (HO_5.out) BK158.out (by decide)) BK159.out (by decide)) BK160.out (by decide)).1 k_ hs_.symm).1.2) (fun hn_ => (kf BK159 hn_)), Or.elim hk_ (fun hs_ => ((Kd.R_types (Kd.R_types (Kd.R_types (HO_5.out) BK158.out (by decide)) BK159.out (by decide)) BK160.out (by decide)).1 k_ hs_.symm).2) (fun hn_ => (kf BK160 hn_))⟩)) (below_size (kw HB.out))); replace HO_5 := ka (Kd.R_below (kr HO_5.out) hb); replace BK158 := kbb BK158 hb; replace BK159 := kbb BK159 hb; replace BK160 := kbb BK160 hb; replace HB := ka (below_step (kw HB.out) hb); (try clear hb); (try clear hb2); (try clear hk); (try clear hi); (try clear ho0); obtain ⟨Ao42, co42, eo42⟩ := Kd.V_slice HO163.out; subst eo42; have hcz43 := blkAll2 BK160.out))
    repeat (go_quiet (first | (go_at_call 28; (with_reducible refine (trivetref01_norm.calls k1 (fun k_ => some k_ = (.slice Ao40 x5_1.length co40 : Value).ownBlock) _ _ x5_1 (!(a0_1 == a1_1)) t161 t164 _ ?side1 A34.out).mono ?_); (case side1 => exact Kd.R_V (Kd.R_tight rfl (Kd.R_types (Kd.R_types (Kd.R_types (HO_5.out) BK158.out (by decide)) BK159.out (by decide)) BK160.out (by decide)))); rintro e w41 ⟨v162, rfl, ho0, hb⟩; have HO163 := ka (Kd.V_lower (Kd.V_mono (ok' := fun k_ => (w.heap.size ≤ k_) ∧ k_ ≠ gb158 ∧ k_ ≠ gb159 ∧ k_ ≠ gb160) ho0 (fun k_ hk_ => ⟨Or.elim hk_ (fun hs_ => ((Kd.R_types (Kd.R_types (Kd.R_types (HO_5.out) BK158.out (by decide)) BK159.out (by decide)) BK160.out (by decide)).1 k_ hs_.symm).1.1.1) (fun hn_ => (Nat.le_trans (below_size (kw HB.out)) hn_)), Or.elim hk_ (fun hs_ => ((Kd.R_types (Kd.R_types (Kd.R_types (HO_5.out) BK158.out (by decide)) BK159.out (by decide)) BK160.out (by decide)).1 k_ hs_.symm).1.1.2) (fun hn_ => (kf BK158 hn_)), Or.elim hk_ (fun hs_ => ((Kd.R_types (Kd.R_types (Kd.R_types (HO_5.out) BK158.out (by decide)) BK159.out (by decide)) BK160.out (by decide)).1 k_ hs_.symm).1.2) (fun hn_ => (kf BK159 hn_)), Or.elim hk_ (fun hs_ => ((Kd.R_types (Kd.R_types (Kd.R_types (HO_5.out) BK158.out (by decide)) BK159.out (by decide)) BK160.out (by decide)).1 k_ hs_.symm).2) (fun hn_ => (kf BK160 hn_))⟩)) (below_size (kw HB.out))); replace HO_5 := ka (Kd.R_below (kr HO_5.out) hb); replace BK158 := kbb BK158 hb; replace BK159 := kbb BK159 hb; replace BK160 := kbb BK160 hb; replace HB := ka (below_step (kw HB.out) hb); (try clear hb); (try clear hb2); (try clear hk); (try clear hi); (try clear ho0); obtain ⟨Ao42, co42, eo42⟩ := Kd.V_slice HO163.out; subst eo42; have hcz43 := blkAll2 BK160.out)); try go_wp2_with (first | (go_at_call 28; (with_reducible refine (trivetref01_norm.calls k1 (fun k_ => some k_ = (.slice Ao40 x5_1.length co40 : Value).ownBlock) _ _ x5_1 (!(a0_1 == a1_1)) t161 t164 _ ?side1 A34.out).mono ?_); (case side1 => exact Kd.R_V (Kd.R_tight rfl (Kd.R_types (Kd.R_types (Kd.R_types (HO_5.out) BK158.out (by decide)) BK159.out (by decide)) BK160.out (by decide)))); rintro e w41 ⟨v162, rfl, ho0, hb⟩; have HO163 := ka (Kd.V_lower (Kd.V_mono (ok' := fun k_ => (w.heap.size ≤ k_) ∧ k_ ≠ gb158 ∧ k_ ≠ gb159 ∧ k_ ≠ gb160) ho0 (fun k_ hk_ => ⟨Or.elim hk_ (fun hs_ => ((Kd.R_types (Kd.R_types (Kd.R_types (HO_5.out) BK158.out (by decide)) BK159.out (by decide)) BK160.out (by decide)).1 k_ hs_.symm).1.1.1) (fun hn_ => (Nat.le_trans (below_size (kw HB.out)) hn_)), Or.elim hk_ (fun hs_ => ((Kd.R_types (Kd.R_types (Kd.R_types (HO_5.out) BK158.out (by decide)) BK159.out (by decide)) BK160.out (by decide)).1 k_ hs_.symm).1.1.2) (fun hn_ => (kf BK158 hn_)), Or.elim hk_ (fun hs_ => ((Kd.R_types (Kd.R_types (Kd.R_types (HO_5.out) BK158.out (by decide)) BK159.out (by decide)) BK160.out (by decide)).1 k_ hs_.symm).1.2) (fun hn_ => (kf BK159 hn_)), Or.elim hk_ (fun hs_ => ((Kd.R_types (Kd.R_types (Kd.R_types (HO_5.out) BK158.out (by decide)) BK159.out (by decide)) BK160.out (by decide)).1 k_ hs_.symm).2) (fun hn_ => (kf BK160 hn_))⟩)) (below_size (kw HB.out))); replace HO_5 := ka (Kd.R_below (kr HO_5.out) hb); replace BK158 := kbb BK158 hb; replace BK159 := kbb BK159 hb; replace BK160 := kbb BK160 hb; replace HB := ka (below_step (kw HB.out) hb); (try clear hb); (try clear hb2); (try clear hk); (try clear hi); (try clear ho0); obtain ⟨Ao42, co42, eo42⟩ := Kd.V_slice HO163.out; subst eo42; have hcz43 := blkAll2 BK160.out)))
    refine bodyPost_ret (results_cell_row rfl _ _ gb160 34 #[.slice Ao42 t161.length co42, .bool t164] (0, 0) _ rfl (by (with_reducible repeat (first | apply kb1 | apply kb2 | apply kb3 | apply blkPut2_1 | apply blkPut2_0)); exact BK160.out) Try.underlying34 rfl (by kernel_rfl)) rfl ?_
    exact ⟨_, by first | rfl | (simp [errW_none, errW_some] <;> rfl) | (simp [*, errW_none, errW_some] <;> rfl), by (with_reducible repeat (first | apply Kd.V_alloc | apply Kd.V_drewN | apply Kd.V_drew)); exact Kd.V_mono (Kd.V_far (p := ⟨gb160, 1, none⟩) (Kd.V_far (p := ⟨gb160, 0, none⟩) (Kd.V_mono HO163.out (fun k_ hk => (⟨hk, hk.2.2.2⟩ : _ ∧ k_ ≠ gb160))) (fun _ hk => hk.2) (.slice Ao42 t161.length co42)) (fun _ hk => hk.2) (.bool t164)) (fun _ hk => hk.1.1), by repeat (first | (with_reducible first | exact HB.out | apply kc1 | apply kc2 | apply kc3 | refine kc4 ?_ GE158.out | refine kc4 ?_ GE159.out | refine kc4 ?_ GE160.out) | exact HB.out)⟩

end Go.Proofs.Ytcpmfdagnchlbaa.P
