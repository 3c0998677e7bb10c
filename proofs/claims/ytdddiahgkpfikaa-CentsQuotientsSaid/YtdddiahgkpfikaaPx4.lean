-- Written by a program of this session out of the translation of the seat: Lean functions and the proofs that the Go functions come to them.
import Derived.Test.YtdddiahgkpfikaaPx0
import Derived.Test.YtdddiahgkpfikaaPx3
namespace Go.Proofs.Ytdddiahgkpfikaa.P
open Go.RowKit Go.Proofs.YtdddiahgkpfikaaW.PrintWords Go.Proofs.YtdddiahgkpfikaaW.PrintLast Go.Proofs.YtdddiahgkpfikaaW.PrintMore
attribute [local go_sem] max2_int min2_int max_two min_two max_three min_three max_four min_four   -- for this text's walks alone
set_option linter.unusedVariables false
set_option linter.unusedSimpArgs false

/-! ### trivetref01_plus: function 32 -/
mutual
def trivetref01_plus.l0 : Nat → List Int → List Int → List Int → Int → Int → Option (List Int)
 | 0, _, _, _, _, _ => none
 | k + 1, x0, x1, x5, x6, x7 => if x7 < (x0.length : Int) then (trivetref01_plus.j1 k x0 x1 x5 x6 x7 true) else (if x7 < (x1.length : Int) then (trivetref01_plus.j1 k x0 x1 x5 x6 x7 true) else (trivetref01_plus.j1 k x0 x1 x5 x6 x7 (decide (x6 > 0))))
def trivetref01_plus.j1 : Nat → List Int → List Int → List Int → Int → Int → Bool → Option (List Int)
 | 0, _, _, _, _, _, _ => none
 | k + 1, x0, x1, x5, x6, x7, x22 => if x22 = true then ((trivetref01_at.f x0 x7).bind fun t443 => ((trivetref01_at.f x1 x7).bind fun t444 => (if x5.length < 17592186044416 then (trivetref01_plus.l0 k x0 x1 (x5 ++ [Int.tmod (IntKind.u64.wrap ((IntKind.u64.wrap (t443 + t444)) + x6)) 65536]) (IntKind.u64.wrap (Int.tdiv (IntKind.u64.wrap ((IntKind.u64.wrap (t443 + t444)) + x6)) 65536)) (wrap64 (x7 + 1))) else (none)))) else (some x5)
end
def trivetref01_plus.f (k : Nat) (l0 : List Int) (l1 : List Int) : Option (List Int) := trivetref01_plus.l0 k l0 l1 ([] : List Int) 0 0
theorem trivetref01_plus.mono_l : ∀ k, (∀ y0 y1 y2 y3 y4, LeO (trivetref01_plus.l0 k y0 y1 y2 y3 y4) (trivetref01_plus.l0 (k + 1) y0 y1 y2 y3 y4)) ∧ (∀ y0 y1 y2 y3 y4 y5, LeO (trivetref01_plus.j1 k y0 y1 y2 y3 y4 y5) (trivetref01_plus.j1 (k + 1) y0 y1 y2 y3 y4 y5))
 | 0 => ⟨fun _ _ _ _ _ r h => by simp [trivetref01_plus.l0] at h, fun _ _ _ _ _ _ r h => by simp [trivetref01_plus.j1] at h⟩
 | k + 1 => by
  obtain ⟨ih0, ih1⟩ := trivetref01_plus.mono_l k
  refine ⟨?_, ?_⟩
  ·intro y0 y1 y2 y3 y4
   unfold trivetref01_plus.l0
   repeat' first
   | (with_reducible exact ih0 _ _ _ _ _)
   | (with_reducible exact ih1 _ _ _ _ _ _)
   | (with_reducible exact LeO.refl _)
   | (with_reducible exact LeO.none _)
   | (with_reducible refine LeO.ite ?_ ?_)
   | (with_reducible refine LeO.bind ?_ (fun _ => ?_))
   | exact ih0 _ _ _ _ _
   | exact ih1 _ _ _ _ _ _
   | exact LeO.none _
   | refine LeO.ite ?_ ?_
   | refine LeO.bind ?_ (fun _ => ?_)
  ·intro y0 y1 y2 y3 y4 y5
   unfold trivetref01_plus.j1
   repeat' first
   | (with_reducible exact ih0 _ _ _ _ _)
   | (with_reducible exact ih1 _ _ _ _ _ _)
   | (with_reducible exact LeO.refl _)
   | (with_reducible exact LeO.none _)
   | (with_reducible refine LeO.ite ?_ ?_)
   | (with_reducible refine LeO.bind ?_ (fun _ => ?_))
   | exact ih0 _ _ _ _ _
   | exact ih1 _ _ _ _ _ _
   | exact LeO.none _
   | refine LeO.ite ?_ ?_
   | refine LeO.bind ?_ (fun _ => ?_)
theorem trivetref01_plus.mono : ∀ a0 a1 k, LeO (trivetref01_plus.f k a0 a1) (trivetref01_plus.f (k + 1) a0 a1) := by
 intro a0 a1 k
 obtain ⟨ih0, ih1⟩ := trivetref01_plus.mono_l k
 unfold trivetref01_plus.f
 repeat' first
   | (with_reducible exact ih0 _ _ _ _ _)
   | (with_reducible exact ih1 _ _ _ _ _ _)
   | (with_reducible exact LeO.refl _)
   | (with_reducible exact LeO.none _)
   | (with_reducible refine LeO.ite ?_ ?_)
   | (with_reducible refine LeO.bind ?_ (fun _ => ?_))
   | exact ih0 _ _ _ _ _
   | exact ih1 _ _ _ _ _ _
   | exact LeO.none _
   | refine LeO.ite ?_ ?_
   | refine LeO.bind ?_ (fun _ => ?_)
set_option maxHeartbeats 8000000 in
set_option maxRecDepth 100000 in
theorem trivetref01_plus.calls (k : Nat) (A0 : Option Addr) (c0 : Nat) (l0 : List Int) (A1 : Option Addr) (c1 : Nat) (l1 : List Int) (r : List Int) (w : World) (hr0 : Kd.C (Kd.int .u64) w A0 l0.length l0) (hc0 : l0.length ≤ c0) (hr1 : Kd.C (Kd.int .u64) w A1 l1.length l1) (hc1 : l1.length ≤ c1) (h : trivetref01_plus.f k l0 l1 = some r) :
  Calls Try.prog 32 #[.slice A0 l0.length c0, .slice A1 l1.length c1] w fun e w' => ∃ v0_ : Value, e = .returned (v0_) ∧ Kd.R (Kd.int .u64) 46 w' w.heap.size (fun _ => True) v0_ r ∧ Below w.heap.size w w' := by
 have HR0 := ka hr0
 have HC0 := ka hc0
 clear hr0 hc0
 have HR1 := ka hr1
 have HC1 := ka hc1
 clear hr1 hc1
 have HB := ka (Below.refl w.heap.size w)
 have H : (trivetref01_plus.l0 k l0 l1 ([] : List Int) 0 0) = some r := h
 clear h
 have H' := ka H
 clear H
 go_enter Try.func32, Try.ntmps32
 go_wp2
 (try simp only [Act.put, List.setIfInBounds_toArray, List.set_cons_zero, List.set_cons_succ])
 go_loopg [5, 6, 7] k (fun kq v5 v6 v7 w' => ∃ (x5_1 : List Int) (x6_1 : Int) (x7_1 : Int), v6 = .int .u64 x6_1 ∧ v7 = .int .i64 x7_1 ∧ Aside0 (trivetref01_plus.l0 kq l0 l1 x5_1 x6_1 x7_1 = some r) ∧ Aside0 (kq ≤ k) ∧ Aside0 (Kd.R (Kd.int .u64) 46 w' w.heap.size (fun _ => True) v5 x5_1) ∧ Aside0 (Below w.heap.size w w'))
 case atStart => exact ⟨(([] : List Int)), (0), (0), (by first | rfl | (simp; done) | (simp [*]; done)), (by first | rfl | (simp; done) | (simp [*]; done)), H', ⟨Nat.le_refl _⟩, ⟨by first | exact Kd.R_nil _ _ _ _ _ | exact Kd.N_nil _ _ _ _ _ | exact Kd.V_nil _ _ _ _ _ | exact Kd.Q_nil _ _ _ _ _ | exact Kd.S_nil _ _ _ _ _⟩, ⟨by repeat (first | (with_reducible first | exact HB.out | apply kc1 | apply kc2 | apply kc3) | exact HB.out)⟩⟩
 case round =>
  clear H'
  try clear c1
  try clear p2
  obtain ⟨x5_1, x6_1, x7_1, rfl, rfl, HA, HK1, HO_5, HB⟩ := hrel
  cases gk with
  | zero => exact absurd HA.out (by simp [trivetref01_plus.l0])
  | succ k1 =>
   have H := HA.out
   clear HA
   simp only [trivetref01_plus.l0] at H
   have HC3 := ka H
   clear H
   go_upto_region 4 with (fail)
   go_cut [22] (fun v22 wc => ∃ (kq : Nat) (x22_2 : Bool), v22 = .bool x22_2 ∧ Aside0 (trivetref01_plus.j1 kq l0 l1 x5_1 x6_1 x7_1 x22_2 = some r) ∧ Aside0 (kq ≤ k1) ∧ Aside0 (Kd.R (Kd.int .u64) 46 wc w.heap.size (fun _ => True) u5 x5_1) ∧ Aside0 (Below w.heap.size w wc))
   case first =>
    have H := HC3.out
    clear HC3
    by_cases c4 : x7_1 < (l0.length : Int)
    ·rw [if_pos c4] at H
     have c4b0 : decide (x7_1 < (l0.length : Int)) = true := decide_eq_true c4
     clear c4
     (first | rw [c4b0] | (simp only [i64_w, i32_w]; rw [c4b0]) | skip)
     have H' := ka H
     clear H
     go_wp2
     go_meet
     case rel => exact ⟨_, (true), (by first | rfl | (simp; done) | (simp [*]; done)), H', ⟨by have := HK1.out; first | omega | exact Nat.le_refl _⟩, ⟨kr HO_5.out⟩, ⟨by repeat (first | (with_reducible first | exact HB.out | apply kc1 | apply kc2 | apply kc3) | exact HB.out)⟩⟩
    ·rw [if_neg c4] at H
     have c4b0 : decide (x7_1 < (l0.length : Int)) = false := decide_eq_false c4
     clear c4
     (first | rw [c4b0] | (simp only [i64_w, i32_w]; rw [c4b0]) | skip)
     by_cases c5 : x7_1 < (l1.length : Int)
     ·rw [if_pos c5] at H
      have c5b0 : decide (x7_1 < (l1.length : Int)) = true := decide_eq_true c5
      clear c5
      have H' := ka H
      clear H
      go_wp2
      go_meet
      case rel => exact ⟨_, (true), (by first | rfl | (simp; done) | (simp [*]; done)), H', ⟨by have := HK1.out; first | omega | exact Nat.le_refl _⟩, ⟨kr HO_5.out⟩, ⟨by repeat (first | (with_reducible first | exact HB.out | apply kc1 | apply kc2 | apply kc3) | exact HB.out)⟩⟩
     ·rw [if_neg c5] at H
      have c5b0 : decide (x7_1 < (l1.length : Int)) = false := decide_eq_false c5
      clear c5
      have H' := ka H
      clear H
      go_wp2
      go_meet
      case rel => exact ⟨_, (decide (x6_1 > 0)), (by first | rfl | (simp; done) | (simp [*]; done)), H', ⟨by have := HK1.out; first | omega | exact Nat.le_refl _⟩, ⟨kr HO_5.out⟩, ⟨by repeat (first | (with_reducible first | exact HB.out | apply kc1 | apply kc2 | apply kc3) | exact HB.out)⟩⟩
   case rest =>
    clear HC3
    try clear c1
    try clear p2
    try clear c3
    try clear c4
    try clear c4b0
    try clear c5
    try clear c5b0
    try clear p2
    obtain ⟨kq, x22_2, rfl, HA, HJ2, HO_5, HB⟩ := hcut
    cases kq with
    | zero => exact absurd HA.out (by simp [trivetref01_plus.j1])
    | succ kj2 =>
     have H := HA.out
     clear HA
     simp only [trivetref01_plus.j1] at H
     by_cases c6 : x22_2 = true
     ·subst c6
      have H1 : ((trivetref01_at.f l0 x7_1).bind fun t443 => ((trivetref01_at.f l1 x7_1).bind fun t444 => (if x5_1.length < 17592186044416 then (trivetref01_plus.l0 kj2 l0 l1 (x5_1 ++ [Int.tmod (IntKind.u64.wrap ((IntKind.u64.wrap (t443 + t444)) + x6_1)) 65536]) (IntKind.u64.wrap (Int.tdiv (IntKind.u64.wrap ((IntKind.u64.wrap (t443 + t444)) + x6_1)) 65536)) (wrap64 (x7_1 + 1))) else (none)))) = some r := by rw [if_pos rfl] at H; exact H
      clear H
      have H := H1
      clear H1
      replace H := Option.bind_eq_some_iff.mp H
      obtain ⟨t443, A70, H⟩ := H
      replace H : ((trivetref01_at.f l1 x7_1).bind fun t444 => (if x5_1.length < 17592186044416 then (trivetref01_plus.l0 kj2 l0 l1 (x5_1 ++ [Int.tmod (IntKind.u64.wrap ((IntKind.u64.wrap (t443 + t444)) + x6_1)) 65536]) (IntKind.u64.wrap (Int.tdiv (IntKind.u64.wrap ((IntKind.u64.wrap (t443 + t444)) + x6_1)) 65536)) (wrap64 (x7_1 + 1))) else (none))) = some r := H
      have A7 := ka A70
      clear A70
      replace H := Option.bind_eq_some_iff.mp H
      obtain ⟨t444, A80, H⟩ := H
      replace H : (if x5_1.length < 17592186044416 then (trivetref01_plus.l0 kj2 l0 l1 (x5_1 ++ [Int.tmod (IntKind.u64.wrap ((IntKind.u64.wrap (t443 + t444)) + x6_1)) 65536]) (IntKind.u64.wrap (Int.tdiv (IntKind.u64.wrap ((IntKind.u64.wrap (t443 + t444)) + x6_1)) 65536)) (wrap64 (x7_1 + 1))) else (none)) = some r := H
      have A8 := ka A80
      clear A80
      by_cases c9 : x5_1.length < 17592186044416
      ·rw [if_pos c9] at H
       have LMc9 := ka c9
       clear c9
       obtain ⟨y445, hy445⟩ : ∃ y_ : List Int, y_ = (x5_1 ++ [Int.tmod (IntKind.u64.wrap ((IntKind.u64.wrap (t443 + t444)) + x6_1)) 65536]) := ⟨_, rfl⟩
       replace H : (trivetref01_plus.l0 kj2 l0 l1 y445 (IntKind.u64.wrap (Int.tdiv (IntKind.u64.wrap ((IntKind.u64.wrap (t443 + t444)) + x6_1)) 65536)) (wrap64 (x7_1 + 1))) = some r := by first | (rw [hy445]; with_reducible exact H) | (have H2_ := (Option.bind_some _ _).symm.trans H; rw [hy445]; with_reducible exact H2_) | (have H2_ := (Option.bind_some _ _).symm.trans H; with_reducible exact H2_) | with_reducible exact H | (rw [hy445]; exact H) | exact H
       have Ny445 := ka hy445
       clear hy445
       have H' := ka H
       clear H
       go_wp2_with (first | ((with_reducible refine gate_callee (f := 39) rfl ?_); refine kg (some 27) rfl rfl Try.func39 (by kernel_rfl) rfl #[.slice A0 l0.length c0, .int .i64 x7_1] rfl ?_; (with_reducible refine (trivetref01_at.calls _ _ l0 x7_1 t443 _ ?side1 ?side2 A7.out).mono ?_); (case side1 => repeat (first | exact (Kd.C_below HR0.out HB.out) | (with_reducible refine Kd.C_alloc ?_ _) | (with_reducible refine Kd.C_drewN ?_ _) | (with_reducible refine Kd.C_drew ?_))); (case side2 => exact HC0.out); rintro e w' ⟨rfl, ⟨nd, rfl⟩⟩; refine ⟨_, rfl, ?_⟩) | ((with_reducible refine gate_callee (f := 39) rfl ?_); refine kg (some 30) rfl rfl Try.func39 (by kernel_rfl) rfl #[.slice A1 l1.length c1, .int .i64 x7_1] rfl ?_; (with_reducible refine (trivetref01_at.calls _ _ l1 x7_1 t444 _ ?side1 ?side2 A8.out).mono ?_); (case side1 => repeat (first | exact (Kd.C_below HR1.out (kw HB.out)) | (with_reducible refine Kd.C_alloc ?_ _) | (with_reducible refine Kd.C_drewN ?_ _) | (with_reducible refine Kd.C_drew ?_))); (case side2 => exact HC1.out); rintro e w' ⟨rfl, ⟨nd, rfl⟩⟩; refine ⟨_, rfl, ?_⟩) | ((with_reducible refine gate_builtin (b := .append) (xs := #[.tmp 34, .tmp 37]) rfl ?_); (try (refine gate_guard (by rfl) ?_; dsimp only)); at_builtin; refine Kd.R_append (Kd.int .u64) (w0 := w) w.heap.size rfl (.tmp 34) (.tmp 37) 35 46 (.int .u64 0) 8 rfl Try.underlying35 info46 rfl (by decide) (by omega) u5 x5_1 (Int.tmod (IntKind.u64.wrap ((IntKind.u64.wrap (t443 + t444)) + x6_1)) 65536) [.int .u64 (Int.tmod (IntKind.u64.wrap ((IntKind.u64.wrap (t443 + t444)) + x6_1)) 65536)] (fun _ => True) (fun _ => False) rfl rfl ?aP (fun _ hk => hk.elim) ?aF ?aO ?aB ?aS ?aL ?_; (case aP => exact rfl); (case aB => exact (kw HB.out)); (case aF => exact (fun _ _ => trivial)); (case aO => exact (kr HO_5.out)); (case aS => exact (below_size (kw HB.out))); (case aL => have := LMc9.out; omega); intro v446 w10 ho hb hg hat; rw [← Ny445.out] at ho; replace HB := ka (hb); have HO447 := ka (ho); clear HO_5; clear ho hb hg hat))
       go_roundg kj2
       case measure => have := HK1.out; have := HJ2.out; omega
       case rel => exact ⟨(y445), (IntKind.u64.wrap (Int.tdiv (IntKind.u64.wrap ((IntKind.u64.wrap (t443 + t444)) + x6_1)) 65536)), (wrap64 (x7_1 + 1)), (by first | rfl | (simp; done) | (simp [*]; done)), (by first | rfl | (simp; done) | (simp [*]; done)), H', ⟨by have := HK1.out; have := HJ2.out; omega⟩, ⟨kr HO447.out⟩, ⟨by repeat (first | (with_reducible first | exact HB.out | apply kc1 | apply kc2 | apply kc3) | exact HB.out)⟩⟩
      ·rw [if_neg c9] at H
       exact absurd H (by simp)
     ·replace c6 := Bool.eq_false_iff.mpr c6
      subst c6
      have H1 : (some x5_1) = some r := by rw [if_neg (show ¬ (false = true) by decide)] at H; exact H
      clear H
      have H := H1
      clear H1
      obtain rfl := Option.some.inj H
      go_wp2
      go_ret
      exact ⟨_, by first | rfl | (simp [errW_none, errW_some] <;> rfl) | (simp [*, errW_none, errW_some] <;> rfl), by (with_reducible repeat (first | apply Kd.R_alloc | apply Kd.R_drewN | apply Kd.R_drew)); exact HO_5.out, by repeat (first | (with_reducible first | exact HB.out | apply kc1 | apply kc2 | apply kc3) | exact HB.out)⟩

/-! ### trivetref01_plus: function 32, its laws -/
theorem trivetref01_plus.step (k : Nat) (a b acc : List Int) (c : Int) (i : Nat) (ha : U.Dg a) (hb : U.Dg b) (hc : 0 ≤ c ∧ c ≤ 1) (hi : i < 1000000) (hl : acc.length < 1000000) : trivetref01_plus.j1 (k + 1) a b acc c i true = trivetref01_plus.l0 k a b (acc ++ [(a.getD i 0 + b.getD i 0 + c) % 65536]) ((a.getD i 0 + b.getD i 0 + c) / 65536) ((i + 1 : Nat) : Int) := by
 have ga := ha.get i
 have gb := hb.get i
 simp only [trivetref01_plus.j1]
 rw [if_pos trivial, trivetref01_at.num, Option.bind_some, trivetref01_at.num, Option.bind_some, if_pos (by omega)]
 generalize a.getD i 0 = x at *
 generalize b.getD i 0 = y at *
 rw [M.wrapu_id (n := x + y) (by omega) (by omega), M.wrapu_id (n := x + y + c) (by omega) (by omega), M.tdivu (show 0 ≤ x + y + c by omega), M.tmodu (show 0 ≤ x + y + c by omega), M.wrapu_id (n := (x + y + c) / 65536) (by omega) (by omega), M.w64_id (n := (i : Int) + 1) (by omega) (by omega)]
 rfl
theorem trivetref01_plus.loop (n : Nat) : ∀ (k : Nat) (a b acc : List Int) (c : Int) (i : Nat), U.Dg a → U.Dg b → U.Dg acc → 0 ≤ c ∧ c ≤ 1 → a.length ≤ i + n → b.length ≤ i + n → (a.length = i + n ∨ b.length = i + n) → acc.length = i → i + n < 500000 → 2 * n + 4 ≤ k →
  ∃ out, trivetref01_plus.l0 k a b acc c i = some out ∧ U.Dg out ∧ U.val out = U.val acc + 65536 ^ i * (U.val (a.drop i) + U.val (b.drop i) + c) ∧ out.length ≤ i + n + 1 := by
 induction n with
 | zero =>
  intro k a b acc c i ha hb hacc hc la lb lab hl hi hk
  obtain ⟨j, rfl⟩ : ∃ j, k = j + 2 + 2 := ⟨k - 4, by omega⟩
  rw [List.drop_eq_nil_of_le (by omega), List.drop_eq_nil_of_le (by omega)]
  simp only [trivetref01_plus.l0]
  rw [if_neg (by omega), if_neg (by omega)]
  by_cases h : c > 0
  ·rw [decide_eq_true h, show j + 2 + 1 = (j + 2) + 1 from rfl, trivetref01_plus.step _ _ _ _ _ _ ha hb hc (by omega) (by omega)]
   have e1 : a.getD i 0 = 0 := by rw [List.getD_eq_getElem?_getD, List.getElem?_eq_none (by omega)]; rfl
   have e2 : b.getD i 0 = 0 := by rw [List.getD_eq_getElem?_getD, List.getElem?_eq_none (by omega)]; rfl
   have ec : c = 1 := by omega
   subst ec
   rw [e1, e2]
   simp only [trivetref01_plus.l0]
   rw [if_neg (by omega), if_neg (by omega), decide_eq_false (by decide)]
   simp only [trivetref01_plus.j1]
   rw [if_neg (by decide)]
   refine ⟨_, rfl, hacc.add (U.Dg.one (by decide)), ?_, by simp; omega⟩
   rw [U.val_append, U.val_one, hl]
   simp [U.val]
  ·have ec : c = 0 := by omega
   subst ec
   rw [decide_eq_false h]
   simp only [trivetref01_plus.j1]
   rw [if_neg (by decide)]
   exact ⟨_, rfl, hacc, by simp [U.val], by omega⟩
 | succ n ih =>
  intro k a b acc c i ha hb hacc hc la lb lab hl hi hk
  obtain ⟨j, rfl⟩ : ∃ j, k = j + 1 + 1 := ⟨k - 2, by omega⟩
  have e : trivetref01_plus.l0 (j + 1 + 1) a b acc c i = trivetref01_plus.j1 (j + 1) a b acc c i true := by
   simp only [trivetref01_plus.l0]
   by_cases h : (i : Int) < a.length
   ·rw [if_pos h]
   ·rw [if_neg h, if_pos (by omega)]
  have ga := ha.get i
  have gb := hb.get i
  obtain ⟨out, o1, o2, o3, o4⟩ := ih j a b (acc ++ [(a.getD i 0 + b.getD i 0 + c) % 65536]) ((a.getD i 0 + b.getD i 0 + c) / 65536) (i + 1) ha hb (hacc.add (U.Dg.one (by omega))) (by omega) (by omega) (by omega) (by omega) (by simp; omega) (by omega) (by omega)
  refine ⟨out, ?_, o2, ?_, by omega⟩
  ·rw [e, trivetref01_plus.step _ _ _ _ _ _ ha hb hc (by omega) (by omega), o1]
  ·rw [o3, U.val_append, U.val_one, hl, U.pow_succ, U.drop_step a i, U.drop_step b i]
   generalize a.getD i 0 = x at *
   generalize b.getD i 0 = y at *
   have hx : (x + y + c) % 65536 + 65536 * ((x + y + c) / 65536) = x + y + c := by omega
   generalize (x + y + c) % 65536 = r at *
   generalize (x + y + c) / 65536 = q at *
   generalize U.val (a.drop (i + 1)) = u
   generalize U.val (b.drop (i + 1)) = v
   have : x + 65536 * u + (y + 65536 * v) + c = r + 65536 * (u + v + q) := by omega
   rw [this]
   generalize u + v + q = s
   generalize (65536 : Int) ^ i = p
   rw [Int.mul_add, Int.mul_comm 65536 p, Int.mul_assoc, Int.add_assoc]
theorem trivetref01_plus.num (k : Nat) (a b : List Int) (ha : U.Dg a) (hb : U.Dg b) (la : a.length ≤ 1000) (lb : b.length ≤ 1000) (hk : 2 * a.length + 2 * b.length + 4 ≤ k) :
  ∃ out, trivetref01_plus.f k a b = some out ∧ U.Dg out ∧ U.val out = U.val a + U.val b ∧ out.length ≤ max a.length b.length + 1 := by
 obtain ⟨out, o1, o2, o3, o4⟩ := trivetref01_plus.loop (max a.length b.length) k a b [] 0 0 ha hb U.Dg.nil (by omega) (by omega) (by omega) (by omega) rfl (by omega) (by omega)
 refine ⟨out, o1, o2, ?_, by omega⟩
 rw [o3]
 simp [U.val]

/-! ### trivetref01_Mul: function 22 -/
mutual
def trivetref01_Mul.l0 : Nat → List Int → Int → List Int → Bool → List Int → Bool → Option (List Int × Bool)
 | 0, _, _, _, _, _, _ => none
 | k + 1, x5, x6, x449000, x449001, x450000, x450001 => if x6 < (x449000.length : Int) then (if 0 ≤ x6 then (if (x6 : Int).toNat ≤ 35184372088832 then (trivetref01_Mul.l1 k x5 x6 (List.replicate (x6 : Int).toNat 0) 0 0 x449000 x449001 x450000 x450001) else (none)) else (none)) else ((trivetref01_norm.f k x5 (!(x449001 == x450001))).bind fun bt451 => (some (bt451.1, bt451.2)))
def trivetref01_Mul.l1 : Nat → List Int → Int → List Int → Int → Int → List Int → Bool → List Int → Bool → Option (List Int × Bool)
 | 0, _, _, _, _, _, _, _, _, _ => none
 | k + 1, x5, x6, x7, x8, x9, x449000, x449001, x450000, x450001 => if x9 < (x450000.length : Int) then (if 0 ≤ x6 then (if x6 < (x449000.length : Int) then (if 0 ≤ x9 then (if x7.length < 17592186044416 then (trivetref01_Mul.l1 k x5 x6 (x7 ++ [Int.tmod (IntKind.u64.wrap ((IntKind.u64.wrap ((rd x449000 x6) * (rd x450000 x9))) + x8)) 65536]) (IntKind.u64.wrap (Int.tdiv (IntKind.u64.wrap ((IntKind.u64.wrap ((rd x449000 x6) * (rd x450000 x9))) + x8)) 65536)) (wrap64 (x9 + 1)) x449000 x449001 x450000 x450001) else (none)) else (none)) else (none)) else (none)) else (if x7.length < 17592186044416 then ((trivetref01_plus.f k x5 (x7 ++ [x8])).bind fun t466 => (trivetref01_Mul.l0 k t466 (wrap64 (x6 + 1)) x449000 x449001 x450000 x450001)) else (none))
end
def trivetref01_Mul.f (k : Nat) (l0_0 : List Int) (a0_1 : Bool) (l1_0 : List Int) (a1_1 : Bool) : Option (List Int × Bool) := trivetref01_Mul.l0 k ([] : List Int) 0 l0_0 a0_1 l1_0 a1_1
theorem trivetref01_Mul.mono_l : ∀ k, (∀ y0 y1 y2 y3 y4 y5, LeO (trivetref01_Mul.l0 k y0 y1 y2 y3 y4 y5) (trivetref01_Mul.l0 (k + 1) y0 y1 y2 y3 y4 y5)) ∧ (∀ y0 y1 y2 y3 y4 y5 y6 y7 y8, LeO (trivetref01_Mul.l1 k y0 y1 y2 y3 y4 y5 y6 y7 y8) (trivetref01_Mul.l1 (k + 1) y0 y1 y2 y3 y4 y5 y6 y7 y8))
 | 0 => ⟨fun _ _ _ _ _ _ r h => by simp [trivetref01_Mul.l0] at h, fun _ _ _ _ _ _ _ _ _ r h => by simp [trivetref01_Mul.l1] at h⟩
 | k + 1 => by
  obtain ⟨ih0, ih1⟩ := trivetref01_Mul.mono_l k
  refine ⟨?_, ?_⟩
  ·intro y0 y1 y2 y3 y4 y5
   unfold trivetref01_Mul.l0
   repeat' first
   | (with_reducible exact ih0 _ _ _ _ _ _)
   | (with_reducible exact ih1 _ _ _ _ _ _ _ _ _)
   | (with_reducible exact trivetref01_norm.mono _ _ _)
   | (with_reducible exact trivetref01_plus.mono _ _ _)
   | (with_reducible exact LeO.refl _)
   | (with_reducible exact LeO.none _)
   | (with_reducible refine LeO.ite ?_ ?_)
   | (with_reducible refine LeO.bind ?_ (fun _ => ?_))
   | exact ih0 _ _ _ _ _ _
   | exact ih1 _ _ _ _ _ _ _ _ _
   | exact trivetref01_norm.mono _ _ _
   | exact trivetref01_plus.mono _ _ _
   | exact LeO.none _
   | refine LeO.ite ?_ ?_
   | refine LeO.bind ?_ (fun _ => ?_)
  ·intro y0 y1 y2 y3 y4 y5 y6 y7 y8
   unfold trivetref01_Mul.l1
   repeat' first
   | (with_reducible exact ih0 _ _ _ _ _ _)
   | (with_reducible exact ih1 _ _ _ _ _ _ _ _ _)
   | (with_reducible exact trivetref01_norm.mono _ _ _)
   | (with_reducible exact trivetref01_plus.mono _ _ _)
   | (with_reducible exact LeO.refl _)
   | (with_reducible exact LeO.none _)
   | (with_reducible refine LeO.ite ?_ ?_)
   | (with_reducible refine LeO.bind ?_ (fun _ => ?_))
   | exact ih0 _ _ _ _ _ _
   | exact ih1 _ _ _ _ _ _ _ _ _
   | exact trivetref01_norm.mono _ _ _
   | exact trivetref01_plus.mono _ _ _
   | exact LeO.none _
   | refine LeO.ite ?_ ?_
   | refine LeO.bind ?_ (fun _ => ?_)
theorem trivetref01_Mul.mono : ∀ a0 a1 a2 a3 k, LeO (trivetref01_Mul.f k a0 a1 a2 a3) (trivetref01_Mul.f (k + 1) a0 a1 a2 a3) := by
 intro a0 a1 a2 a3 k
 obtain ⟨ih0, ih1⟩ := trivetref01_Mul.mono_l k
 unfold trivetref01_Mul.f
 repeat' first
   | (with_reducible exact ih0 _ _ _ _ _ _)
   | (with_reducible exact ih1 _ _ _ _ _ _ _ _ _)
   | (with_reducible exact trivetref01_norm.mono _ _ _)
   | (with_reducible exact trivetref01_plus.mono _ _ _)
   | (with_reducible exact LeO.refl _)
   | (with_reducible exact LeO.none _)
   | (with_reducible refine LeO.ite ?_ ?_)
   | (with_reducible refine LeO.bind ?_ (fun _ => ?_))
   | exact ih0 _ _ _ _ _ _
   | exact ih1 _ _ _ _ _ _ _ _ _
   | exact trivetref01_norm.mono _ _ _
   | exact trivetref01_plus.mono _ _ _
   | exact LeO.none _
   | refine LeO.ite ?_ ?_
   | refine LeO.bind ?_ (fun _ => ?_)
set_option maxHeartbeats 8000000 in
set_option maxRecDepth 100000 in
theorem trivetref01_Mul.calls (k : Nat) (A0_0 : Option Addr) (c0_0 : Nat) (l0_0 : List Int) (a0_1 : Bool) (A1_0 : Option Addr) (c1_0 : Nat) (l1_0 : List Int) (a1_1 : Bool) (r1 : List Int) (r2 : Bool) (w : World) (hr0_0 : Kd.C (Kd.int .u64) w A0_0 l0_0.length l0_0) (hc0_0 : l0_0.length ≤ c0_0) (hr1_0 : Kd.C (Kd.int .u64) w A1_0 l1_0.length l1_0) (hc1_0 : l1_0.length ≤ c1_0) (h : trivetref01_Mul.f k l0_0 a0_1 l1_0 a1_1 = some (r1, r2)) :
  Calls Try.prog 22 #[.agg #[.slice A0_0 l0_0.length c0_0, .bool a0_1], .agg #[.slice A1_0 l1_0.length c1_0, .bool a1_1]] w fun e w' => ∃ v0_ : Value, e = .returned (.agg #[v0_, .bool r2]) ∧ Kd.V (Kd.int .u64) 46 w' w.heap.size (fun k_ => (w.heap.size ≤ k_)) v0_ r1 ∧ Below w.heap.size w w' := by
 have hu37 := Try.underlying37
 have HR0_0 := ka hr0_0
 have HC0_0 := ka hc0_0
 clear hr0_0 hc0_0
 have HR1_0 := ka hr1_0
 have HC1_0 := ka hc1_0
 clear hr1_0 hc1_0
 have HB := ka (Below.refl w.heap.size w)
 have H : (trivetref01_Mul.l0 k ([] : List Int) 0 l0_0 a0_1 l1_0 a1_1) = some (r1, r2) := h
 clear h
 have H' := ka H
 clear H
 go_enter Try.func22, Try.ntmps22
 go_wp2_with (first | ((with_reducible refine gate_dst (N := 2) rfl ?_); refine kx (N := 2) (cs := #[.slice A0_0 l0_0.length c0_0, .bool a0_1]) (t := 37) ?_; intro gb448 hg w3 hbox hb; have n0_ := ka (below_step (kw HB.out) hb); have n1_ := ka (hbox); have n2_ := ka ((by rw [hg]; exact (below_size (kw HB.out)) : w.heap.size ≤ gb448)); have n3_ := n2_; clear HB; have HB := n0_; have BK448 := n1_; have GW448 := n2_; have GE448 := n3_; clear n0_ n1_ n2_ n3_; clear hb hbox hg) | ((with_reducible refine gate_dst (N := 3) rfl ?_); refine kx (N := 3) (cs := #[.slice A1_0 l1_0.length c1_0, .bool a1_1]) (t := 37) ?_; intro gb449 hg w4 hbox hb; have n0_ := ka (blk_below (g := gb448) (kz BK448.out) hb); have n1_ := ka (below_step (kw HB.out) hb); have n2_ := ka (hbox); have n3_ := ka ((by rw [hg]; exact (below_size (kw HB.out)) : w.heap.size ≤ gb449)); have n4_ := n3_; have n5_ := ka ((by rw [hg]; exact Nat.ne_of_lt (blk_lt (g := gb448) (kz BK448.out)) : gb448 ≠ gb449)); have n6_ := ka n5_.out.symm; clear BK448; clear HB; have BK448 := n0_; have HB := n1_; have BK449 := n2_; have GW449 := n3_; have GE449 := n4_; have NB448_449 := n5_; have NB449_448 := n6_; clear n0_ n1_ n2_ n3_ n4_ n5_ n6_; clear hb hbox hg) | ((with_reducible refine gate_dst (N := 4) rfl ?_); refine kx (N := 4) (cs := #[.slice none 0 0, .bool false]) (t := 37) ?_; intro gb450 hg w5 hbox hb; have n0_ := ka (blk_below (g := gb448) (kz BK448.out) hb); have n1_ := ka (blk_below (g := gb449) (kz BK449.out) hb); have n2_ := ka (below_step (kw HB.out) hb); have n3_ := ka (hbox); have n4_ := ka ((by rw [hg]; exact (below_size (kw HB.out)) : w.heap.size ≤ gb450)); have n5_ := n4_; have n6_ := ka ((by rw [hg]; exact Nat.ne_of_lt (blk_lt (g := gb448) (kz BK448.out)) : gb448 ≠ gb450)); have n7_ := ka n6_.out.symm; have n8_ := ka ((by rw [hg]; exact Nat.ne_of_lt (blk_lt (g := gb449) (kz BK449.out)) : gb449 ≠ gb450)); have n9_ := ka n8_.out.symm; clear BK448; clear BK449; clear HB; have BK448 := n0_; have BK449 := n1_; have HB := n2_; have BK450 := n3_; have GW450 := n4_; have GE450 := n5_; have NB448_450 := n6_; have NB450_448 := n7_; have NB449_450 := n8_; have NB450_449 := n9_; clear n0_ n1_ n2_ n3_ n4_ n5_ n6_ n7_ n8_ n9_; clear hb hbox hg))
 repeat (go_quiet (first | ((with_reducible refine gate_dst (N := 2) rfl ?_); refine kx (N := 2) (cs := #[.slice A0_0 l0_0.length c0_0, .bool a0_1]) (t := 37) ?_; intro gb448 hg w3 hbox hb; have n0_ := ka (below_step (kw HB.out) hb); have n1_ := ka (hbox); have n2_ := ka ((by rw [hg]; exact (below_size (kw HB.out)) : w.heap.size ≤ gb448)); have n3_ := n2_; clear HB; have HB := n0_; have BK448 := n1_; have GW448 := n2_; have GE448 := n3_; clear n0_ n1_ n2_ n3_; clear hb hbox hg) | ((with_reducible refine gate_dst (N := 3) rfl ?_); refine kx (N := 3) (cs := #[.slice A1_0 l1_0.length c1_0, .bool a1_1]) (t := 37) ?_; intro gb449 hg w4 hbox hb; have n0_ := ka (blk_below (g := gb448) (kz BK448.out) hb); have n1_ := ka (below_step (kw HB.out) hb); have n2_ := ka (hbox); have n3_ := ka ((by rw [hg]; exact (below_size (kw HB.out)) : w.heap.size ≤ gb449)); have n4_ := n3_; have n5_ := ka ((by rw [hg]; exact Nat.ne_of_lt (blk_lt (g := gb448) (kz BK448.out)) : gb448 ≠ gb449)); have n6_ := ka n5_.out.symm; clear BK448; clear HB; have BK448 := n0_; have HB := n1_; have BK449 := n2_; have GW449 := n3_; have GE449 := n4_; have NB448_449 := n5_; have NB449_448 := n6_; clear n0_ n1_ n2_ n3_ n4_ n5_ n6_; clear hb hbox hg) | ((with_reducible refine gate_dst (N := 4) rfl ?_); refine kx (N := 4) (cs := #[.slice none 0 0, .bool false]) (t := 37) ?_; intro gb450 hg w5 hbox hb; have n0_ := ka (blk_below (g := gb448) (kz BK448.out) hb); have n1_ := ka (blk_below (g := gb449) (kz BK449.out) hb); have n2_ := ka (below_step (kw HB.out) hb); have n3_ := ka (hbox); have n4_ := ka ((by rw [hg]; exact (below_size (kw HB.out)) : w.heap.size ≤ gb450)); have n5_ := n4_; have n6_ := ka ((by rw [hg]; exact Nat.ne_of_lt (blk_lt (g := gb448) (kz BK448.out)) : gb448 ≠ gb450)); have n7_ := ka n6_.out.symm; have n8_ := ka ((by rw [hg]; exact Nat.ne_of_lt (blk_lt (g := gb449) (kz BK449.out)) : gb449 ≠ gb450)); have n9_ := ka n8_.out.symm; clear BK448; clear BK449; clear HB; have BK448 := n0_; have BK449 := n1_; have HB := n2_; have BK450 := n3_; have GW450 := n4_; have GE450 := n5_; have NB448_450 := n6_; have NB450_448 := n7_; have NB449_450 := n8_; have NB450_449 := n9_; clear n0_ n1_ n2_ n3_ n4_ n5_ n6_ n7_ n8_ n9_; clear hb hbox hg)); try go_wp2_with (first | ((with_reducible refine gate_dst (N := 2) rfl ?_); refine kx (N := 2) (cs := #[.slice A0_0 l0_0.length c0_0, .bool a0_1]) (t := 37) ?_; intro gb448 hg w3 hbox hb; have n0_ := ka (below_step (kw HB.out) hb); have n1_ := ka (hbox); have n2_ := ka ((by rw [hg]; exact (below_size (kw HB.out)) : w.heap.size ≤ gb448)); have n3_ := n2_; clear HB; have HB := n0_; have BK448 := n1_; have GW448 := n2_; have GE448 := n3_; clear n0_ n1_ n2_ n3_; clear hb hbox hg) | ((with_reducible refine gate_dst (N := 3) rfl ?_); refine kx (N := 3) (cs := #[.slice A1_0 l1_0.length c1_0, .bool a1_1]) (t := 37) ?_; intro gb449 hg w4 hbox hb; have n0_ := ka (blk_below (g := gb448) (kz BK448.out) hb); have n1_ := ka (below_step (kw HB.out) hb); have n2_ := ka (hbox); have n3_ := ka ((by rw [hg]; exact (below_size (kw HB.out)) : w.heap.size ≤ gb449)); have n4_ := n3_; have n5_ := ka ((by rw [hg]; exact Nat.ne_of_lt (blk_lt (g := gb448) (kz BK448.out)) : gb448 ≠ gb449)); have n6_ := ka n5_.out.symm; clear BK448; clear HB; have BK448 := n0_; have HB := n1_; have BK449 := n2_; have GW449 := n3_; have GE449 := n4_; have NB448_449 := n5_; have NB449_448 := n6_; clear n0_ n1_ n2_ n3_ n4_ n5_ n6_; clear hb hbox hg) | ((with_reducible refine gate_dst (N := 4) rfl ?_); refine kx (N := 4) (cs := #[.slice none 0 0, .bool false]) (t := 37) ?_; intro gb450 hg w5 hbox hb; have n0_ := ka (blk_below (g := gb448) (kz BK448.out) hb); have n1_ := ka (blk_below (g := gb449) (kz BK449.out) hb); have n2_ := ka (below_step (kw HB.out) hb); have n3_ := ka (hbox); have n4_ := ka ((by rw [hg]; exact (below_size (kw HB.out)) : w.heap.size ≤ gb450)); have n5_ := n4_; have n6_ := ka ((by rw [hg]; exact Nat.ne_of_lt (blk_lt (g := gb448) (kz BK448.out)) : gb448 ≠ gb450)); have n7_ := ka n6_.out.symm; have n8_ := ka ((by rw [hg]; exact Nat.ne_of_lt (blk_lt (g := gb449) (kz BK449.out)) : gb449 ≠ gb450)); have n9_ := ka n8_.out.symm; clear BK448; clear BK449; clear HB; have BK448 := n0_; have BK449 := n1_; have HB := n2_; have BK450 := n3_; have GW450 := n4_; have GE450 := n5_; have NB448_450 := n6_; have NB450_448 := n7_; have NB449_450 := n8_; have NB450_449 := n9_; clear n0_ n1_ n2_ n3_ n4_ n5_ n6_ n7_ n8_ n9_; clear hb hbox hg)))
 (try simp only [Act.put, List.setIfInBounds_toArray, List.set_cons_zero, List.set_cons_succ])
 go_loopg [5, 6] k (fun kq v5 v6 w' => ∃ (x5_1 : List Int) (x6_1 : Int), v6 = .int .i64 x6_1 ∧ Aside0 (trivetref01_Mul.l0 kq x5_1 x6_1 l0_0 a0_1 l1_0 a1_1 = some (r1, r2)) ∧ Aside0 (kq ≤ k) ∧ Aside0 (Kd.R (Kd.int .u64) 46 w' w.heap.size (fun k_ => (w.heap.size ≤ k_)) v5 x5_1) ∧ Aside0 (w'.heap[gb448]? = some (.cells #[(.slice A0_0 l0_0.length c0_0), .bool a0_1] 37 (0, 0))) ∧ Aside0 (w'.heap[gb449]? = some (.cells #[(.slice A1_0 l1_0.length c1_0), .bool a1_1] 37 (0, 0))) ∧ Aside0 (w'.heap[gb450]? = some (.cells #[(.slice none 0 0), .bool false] 37 (0, 0))) ∧ Aside0 (Below w.heap.size w w'))
 case atStart => exact ⟨(([] : List Int)), (0), (by first | rfl | (simp; done) | (simp [*]; done)), H', ⟨Nat.le_refl _⟩, ⟨by first | exact Kd.R_nil _ _ _ _ _ | exact Kd.N_nil _ _ _ _ _ | exact Kd.V_nil _ _ _ _ _ | exact Kd.Q_nil _ _ _ _ _ | exact Kd.S_nil _ _ _ _ _⟩, ⟨by (with_reducible repeat (first | apply kb1 | apply kb2 | apply kb3)); exact BK448.out⟩, ⟨by (with_reducible repeat (first | apply kb1 | apply kb2 | apply kb3)); exact BK449.out⟩, ⟨by (with_reducible repeat (first | apply kb1 | apply kb2 | apply kb3)); exact BK450.out⟩, ⟨by repeat (first | (with_reducible first | exact HB.out | apply kc1 | apply kc2 | apply kc3 | refine kc4 ?_ GE448.out | refine kc4 ?_ GE449.out | refine kc4 ?_ GE450.out) | exact HB.out)⟩⟩
 case round =>
  clear H'
  try clear c1
  try clear c2
  try clear p2
  obtain ⟨x5_1, x6_1, rfl, HA, HK1, HO_5, BK448, BK449, BK450, HB⟩ := hrel
  cases gk with
  | zero => exact absurd HA.out (by simp [trivetref01_Mul.l0])
  | succ k1 =>
   have H := HA.out
   clear HA
   simp only [trivetref01_Mul.l0] at H
   by_cases c6 : x6_1 < (l0_0.length : Int)
   ·rw [if_pos c6] at H
    have c6b0 : decide (x6_1 < (l0_0.length : Int)) = true := decide_eq_true c6
    clear c6
    by_cases c7 : 0 ≤ x6_1
    ·rw [if_pos c7] at H
     have c7b0 := eq_true c7
     have c7b1 : decide (0 ≤ x6_1) = true := decide_eq_true c7
     clear c7
     by_cases c8 : (x6_1 : Int).toNat ≤ 35184372088832
     ·rw [if_pos c8] at H
      have c8b0 := eq_true c8
      have c8b1 : decide ((x6_1 : Int).toNat ≤ 35184372088832) = true := decide_eq_true c8
      clear c8
      obtain ⟨y455, hy455⟩ : ∃ y_ : List Int, y_ = (List.replicate (x6_1 : Int).toNat 0) := ⟨_, rfl⟩
      replace H : (trivetref01_Mul.l1 k1 x5_1 x6_1 y455 0 0 l0_0 a0_1 l1_0 a1_1) = some (r1, r2) := by first | (rw [hy455]; with_reducible exact H) | (have H2_ := (Option.bind_some _ _).symm.trans H; rw [hy455]; with_reducible exact H2_) | (have H2_ := (Option.bind_some _ _).symm.trans H; with_reducible exact H2_) | with_reducible exact H | (rw [hy455]; exact H) | exact H
      have Ny455 := ka hy455
      clear hy455
      have H' := ka H
      clear H
      have hnb9 := NB448_449.out
      have hnc9 := NB449_448.out
      have hnb10 := NB448_450.out
      have hnc10 := NB450_448.out
      have hcz11 := blkAll2 BK448.out
      go_wp2_with (first | ((with_reducible refine gate_dst (N := 19) rfl ?_); refine Kd.R_make (Kd.int .u64) _ 46 rfl (N := 19) rfl 35 _ _ rfl x6_1 rfl rfl Try.underlying35 (.int .u64 0) 8 info46 rfl (by decide) (by omega) 0 (ok := fun _ => True) (okp := fun _ => True) rfl (fun _ hk => hk) trivial (of_decide_eq_true (by first | (with_reducible assumption) | assumption)) (Nat.le_trans (Nat.mul_le_mul_right _ (of_decide_eq_true (by first | (with_reducible assumption) | assumption) : x6_1.toNat ≤ 35184372088832)) (by omega)) (Below.refl _ _) (Nat.le_refl _) ?_; intro v456 w12 ho13 hb hg_ hnew_; clear hg_ hnew_; (first | rw [← Ny455.out] at ho13 | (simp only [Int.reduceToNat] at ho13; rw [← Ny455.out] at ho13)); have HO457 := ka (Kd.R_lower (Kd.R_new' (Kd.R_newM (M := fun k_ => (w.heap.size ≤ k_)) ho13 (below_size (kw HB.out)) (fun k_ h_ => h_)) (Kd.R_lt (kr HO_5.out))) (below_size (kw HB.out))); replace HO_5 := ka (Kd.R_elder' (kr HO_5.out) (Kd.R_base ho13) hb); replace BK448 := kbb BK448 hb; replace BK449 := kbb BK449 hb; replace BK450 := kbb BK450 hb; replace HB := ka (below_step (kw HB.out) hb); clear hb ho13))
      repeat (go_quiet (first | ((with_reducible refine gate_dst (N := 19) rfl ?_); refine Kd.R_make (Kd.int .u64) _ 46 rfl (N := 19) rfl 35 _ _ rfl x6_1 rfl rfl Try.underlying35 (.int .u64 0) 8 info46 rfl (by decide) (by omega) 0 (ok := fun _ => True) (okp := fun _ => True) rfl (fun _ hk => hk) trivial (of_decide_eq_true (by first | (with_reducible assumption) | assumption)) (Nat.le_trans (Nat.mul_le_mul_right _ (of_decide_eq_true (by first | (with_reducible assumption) | assumption) : x6_1.toNat ≤ 35184372088832)) (by omega)) (Below.refl _ _) (Nat.le_refl _) ?_; intro v456 w12 ho13 hb hg_ hnew_; clear hg_ hnew_; (first | rw [← Ny455.out] at ho13 | (simp only [Int.reduceToNat] at ho13; rw [← Ny455.out] at ho13)); have HO457 := ka (Kd.R_lower (Kd.R_new' (Kd.R_newM (M := fun k_ => (w.heap.size ≤ k_)) ho13 (below_size (kw HB.out)) (fun k_ h_ => h_)) (Kd.R_lt (kr HO_5.out))) (below_size (kw HB.out))); replace HO_5 := ka (Kd.R_elder' (kr HO_5.out) (Kd.R_base ho13) hb); replace BK448 := kbb BK448 hb; replace BK449 := kbb BK449 hb; replace BK450 := kbb BK450 hb; replace HB := ka (below_step (kw HB.out) hb); clear hb ho13)); try go_wp2_with (first | ((with_reducible refine gate_dst (N := 19) rfl ?_); refine Kd.R_make (Kd.int .u64) _ 46 rfl (N := 19) rfl 35 _ _ rfl x6_1 rfl rfl Try.underlying35 (.int .u64 0) 8 info46 rfl (by decide) (by omega) 0 (ok := fun _ => True) (okp := fun _ => True) rfl (fun _ hk => hk) trivial (of_decide_eq_true (by first | (with_reducible assumption) | assumption)) (Nat.le_trans (Nat.mul_le_mul_right _ (of_decide_eq_true (by first | (with_reducible assumption) | assumption) : x6_1.toNat ≤ 35184372088832)) (by omega)) (Below.refl _ _) (Nat.le_refl _) ?_; intro v456 w12 ho13 hb hg_ hnew_; clear hg_ hnew_; (first | rw [← Ny455.out] at ho13 | (simp only [Int.reduceToNat] at ho13; rw [← Ny455.out] at ho13)); have HO457 := ka (Kd.R_lower (Kd.R_new' (Kd.R_newM (M := fun k_ => (w.heap.size ≤ k_)) ho13 (below_size (kw HB.out)) (fun k_ h_ => h_)) (Kd.R_lt (kr HO_5.out))) (below_size (kw HB.out))); replace HO_5 := ka (Kd.R_elder' (kr HO_5.out) (Kd.R_base ho13) hb); replace BK448 := kbb BK448 hb; replace BK449 := kbb BK449 hb; replace BK450 := kbb BK450 hb; replace HB := ka (below_step (kw HB.out) hb); clear hb ho13)))
      (try simp only [Act.put, List.setIfInBounds_toArray, List.set_cons_zero, List.set_cons_succ])
      go_loopg [7, 8, 9] k1 (fun kq v7 v8 v9 w' => ∃ (x7_2 : List Int) (x8_2 : Int) (x9_2 : Int), v8 = .int .u64 x8_2 ∧ v9 = .int .i64 x9_2 ∧ Aside0 (trivetref01_Mul.l1 kq x5_1 x6_1 x7_2 x8_2 x9_2 l0_0 a0_1 l1_0 a1_1 = some (r1, r2)) ∧ Aside0 (kq ≤ k1) ∧ Aside0 (Kd.R (Kd.int .u64) 46 w' w.heap.size (fun k_ => (w.heap.size ≤ k_) ∧ some k_ ≠ (v7 : Value).ownBlock) u5 x5_1) ∧ Aside0 (Kd.R (Kd.int .u64) 46 w' w.heap.size (fun k_ => (w.heap.size ≤ k_) ∧ some k_ ≠ (u5 : Value).ownBlock) v7 x7_2) ∧ Aside0 (w'.heap[gb448]? = some (.cells #[(.slice A0_0 l0_0.length c0_0), .bool a0_1] 37 (0, 0))) ∧ Aside0 (w'.heap[gb449]? = some (.cells #[(.slice A1_0 l1_0.length c1_0), .bool a1_1] 37 (0, 0))) ∧ Aside0 (w'.heap[gb450]? = some (.cells #[(.slice none 0 0), .bool false] 37 (0, 0))) ∧ Aside0 (Below w.heap.size w w'))
      case atStart => exact ⟨(y455), (0), (0), (by first | rfl | (simp; done) | (simp [*]; done)), (by first | rfl | (simp; done) | (simp [*]; done)), H', ⟨Nat.le_refl _⟩, ⟨kr HO_5.out⟩, ⟨kr (Kd.R_mono HO457.out (fun _ hk => ⟨hk.1.1, hk.2⟩))⟩, ⟨by (with_reducible repeat (first | apply kb1 | apply kb2 | apply kb3)); exact BK448.out⟩, ⟨by (with_reducible repeat (first | apply kb1 | apply kb2 | apply kb3)); exact BK449.out⟩, ⟨by (with_reducible repeat (first | apply kb1 | apply kb2 | apply kb3)); exact BK450.out⟩, ⟨by repeat (first | (with_reducible first | exact HB.out | apply kc1 | apply kc2 | apply kc3 | refine kc4 ?_ GE448.out | refine kc4 ?_ GE449.out | refine kc4 ?_ GE450.out) | exact HB.out)⟩⟩
      case round =>
       clear H'
       try clear c1
       try clear c2
       try clear p2
       try clear c6
       try clear c6b0
       try clear c7
       try clear c7b0
       try clear c7b1
       try clear c8
       try clear c8b0
       try clear c8b1
       try clear c9
       try clear c10
       try clear hcz11
       try clear p2
       obtain ⟨x7_2, x8_2, x9_2, rfl, rfl, HA, HK2, HO_5, HO_7, BK448, BK449, BK450, HB⟩ := hrel
       cases gk with
       | zero => exact absurd HA.out (by simp [trivetref01_Mul.l1])
       | succ k2 =>
        have H := HA.out
        clear HA
        simp only [trivetref01_Mul.l1] at H
        by_cases c14 : x9_2 < (l1_0.length : Int)
        ·rw [if_pos c14] at H
         have c14b0 : decide (x9_2 < (l1_0.length : Int)) = true := decide_eq_true c14
         clear c14
         by_cases c15 : 0 ≤ x6_1
         ·rw [if_pos c15] at H
          have c15b0 : decide (0 ≤ x6_1) = true := decide_eq_true c15
          clear c15
          by_cases c16 : x6_1 < (l0_0.length : Int)
          ·rw [if_pos c16] at H
           have c16b0 : decide (x6_1 < (l0_0.length : Int)) = true := decide_eq_true c16
           clear c16
           by_cases c17 : 0 ≤ x9_2
           ·rw [if_pos c17] at H
            have c17b0 : decide (0 ≤ x9_2) = true := decide_eq_true c17
            clear c17
            by_cases c18 : x7_2.length < 17592186044416
            ·rw [if_pos c18] at H
             have LMc18 := ka c18
             clear c18
             obtain ⟨y460, hy460⟩ : ∃ y_ : List Int, y_ = (x7_2 ++ [Int.tmod (IntKind.u64.wrap ((IntKind.u64.wrap ((rd l0_0 x6_1) * (rd l1_0 x9_2))) + x8_2)) 65536]) := ⟨_, rfl⟩
             replace H : (trivetref01_Mul.l1 k2 x5_1 x6_1 y460 (IntKind.u64.wrap (Int.tdiv (IntKind.u64.wrap ((IntKind.u64.wrap ((rd l0_0 x6_1) * (rd l1_0 x9_2))) + x8_2)) 65536)) (wrap64 (x9_2 + 1)) l0_0 a0_1 l1_0 a1_1) = some (r1, r2) := by first | (rw [hy460]; with_reducible exact H) | (have H2_ := (Option.bind_some _ _).symm.trans H; rw [hy460]; with_reducible exact H2_) | (have H2_ := (Option.bind_some _ _).symm.trans H; with_reducible exact H2_) | with_reducible exact H | (rw [hy460]; exact H) | exact H
             have Ny460 := ka hy460
             clear hy460
             have H' := ka H
             clear H
             have hnb19 := NB449_448.out
             have hnc19 := NB448_449.out
             have hnb20 := NB449_450.out
             have hnc20 := NB450_449.out
             have hcz21 := blkAll2 BK449.out
             have hnb22 := NB448_450.out
             have hnc22 := NB450_448.out
             have hcz23 := blkAll2 BK448.out
             have p458 : 0 ≤ (x6_1 : Int) := of_decide_eq_true (by first | (with_reducible assumption) | assumption)
             have q458 : x6_1 < (l0_0.length : Int) := of_decide_eq_true (by first | (with_reducible assumption) | assumption)
             obtain ⟨ad458, e458, hx458_0⟩ := Kd.at_int HR0_0.out x6_1 p458 q458
             cases e458
             replace hx458_0 := (HB.out.cell (World.block_lt_of_cell? w _ hx458_0)).trans hx458_0
             replace p458 := eq_true p458
             replace q458 := eq_true q458
             have p459 : 0 ≤ (x9_2 : Int) := of_decide_eq_true (by first | (with_reducible assumption) | assumption)
             have q459 : x9_2 < (l1_0.length : Int) := of_decide_eq_true (by first | (with_reducible assumption) | assumption)
             obtain ⟨ad459, e459, hx459_0⟩ := Kd.at_int HR1_0.out x9_2 p459 q459
             cases e459
             replace hx459_0 := (HB.out.cell (World.block_lt_of_cell? w _ hx459_0)).trans hx459_0
             replace p459 := eq_true p459
             replace q459 := eq_true q459
             go_wp2_with (first | ((with_reducible refine gate_builtin (b := .append) (xs := #[.tmp 40, .tmp 43]) rfl ?_); at_builtin; refine Kd.R_append (Kd.int .u64) (w0 := w) w.heap.size rfl (.tmp 40) (.tmp 43) 35 46 (.int .u64 0) 8 rfl Try.underlying35 info46 rfl (by decide) (by omega) u7 x7_2 (Int.tmod (IntKind.u64.wrap ((IntKind.u64.wrap ((rd l0_0 x6_1) * (rd l1_0 x9_2))) + x8_2)) 65536) [.int .u64 (Int.tmod (IntKind.u64.wrap ((IntKind.u64.wrap ((rd l0_0 x6_1) * (rd l1_0 x9_2))) + x8_2)) 65536)] (fun k_ => (w.heap.size ≤ k_) ∧ some k_ ≠ (u5 : Value).ownBlock) (fun _ => False) rfl rfl ?aP (fun _ hk => hk.elim) ?aF ?aO ?aB ?aS ?aL ?_; (case aP => exact rfl); (case aB => exact (kw HB.out)); (case aF => exact (fun k_ hk => ⟨(Nat.le_trans (below_size (kw HB.out)) hk), Kd.fresh' (Kd.R_lt (kr HO_5.out)) k_ hk⟩)); (case aO => exact (kr HO_7.out)); (case aS => exact (below_size (kw HB.out))); (case aL => have := LMc18.out; omega); intro v461 w24 ho hb hg hat; rw [← Ny460.out] at ho; replace HO_5 := ka (Kd.R_after (ok := (fun k_ => (w.heap.size ≤ k_))) (kr HO_5.out) hg hat); replace BK448 := ka (blk_grown (g := gb448) (kz BK448.out) hg (Kd.R_ne HO_7.out BK448.out (by decide))); replace BK449 := ka (blk_grown (g := gb449) (kz BK449.out) hg (Kd.R_ne HO_7.out BK449.out (by decide))); replace BK450 := ka (blk_grown (g := gb450) (kz BK450.out) hg (Kd.R_ne HO_7.out BK450.out (by decide))); replace HB := ka (hb); have HO462 := ka (ho); clear HO_7; clear ho hb hg hat))
             repeat (go_quiet (first | ((with_reducible refine gate_builtin (b := .append) (xs := #[.tmp 40, .tmp 43]) rfl ?_); at_builtin; refine Kd.R_append (Kd.int .u64) (w0 := w) w.heap.size rfl (.tmp 40) (.tmp 43) 35 46 (.int .u64 0) 8 rfl Try.underlying35 info46 rfl (by decide) (by omega) u7 x7_2 (Int.tmod (IntKind.u64.wrap ((IntKind.u64.wrap ((rd l0_0 x6_1) * (rd l1_0 x9_2))) + x8_2)) 65536) [.int .u64 (Int.tmod (IntKind.u64.wrap ((IntKind.u64.wrap ((rd l0_0 x6_1) * (rd l1_0 x9_2))) + x8_2)) 65536)] (fun k_ => (w.heap.size ≤ k_) ∧ some k_ ≠ (u5 : Value).ownBlock) (fun _ => False) rfl rfl ?aP (fun _ hk => hk.elim) ?aF ?aO ?aB ?aS ?aL ?_; (case aP => exact rfl); (case aB => exact (kw HB.out)); (case aF => exact (fun k_ hk => ⟨(Nat.le_trans (below_size (kw HB.out)) hk), Kd.fresh' (Kd.R_lt (kr HO_5.out)) k_ hk⟩)); (case aO => exact (kr HO_7.out)); (case aS => exact (below_size (kw HB.out))); (case aL => have := LMc18.out; omega); intro v461 w24 ho hb hg hat; rw [← Ny460.out] at ho; replace HO_5 := ka (Kd.R_after (ok := (fun k_ => (w.heap.size ≤ k_))) (kr HO_5.out) hg hat); replace BK448 := ka (blk_grown (g := gb448) (kz BK448.out) hg (Kd.R_ne HO_7.out BK448.out (by decide))); replace BK449 := ka (blk_grown (g := gb449) (kz BK449.out) hg (Kd.R_ne HO_7.out BK449.out (by decide))); replace BK450 := ka (blk_grown (g := gb450) (kz BK450.out) hg (Kd.R_ne HO_7.out BK450.out (by decide))); replace HB := ka (hb); have HO462 := ka (ho); clear HO_7; clear ho hb hg hat)); try go_wp2_with (first | ((with_reducible refine gate_builtin (b := .append) (xs := #[.tmp 40, .tmp 43]) rfl ?_); at_builtin; refine Kd.R_append (Kd.int .u64) (w0 := w) w.heap.size rfl (.tmp 40) (.tmp 43) 35 46 (.int .u64 0) 8 rfl Try.underlying35 info46 rfl (by decide) (by omega) u7 x7_2 (Int.tmod (IntKind.u64.wrap ((IntKind.u64.wrap ((rd l0_0 x6_1) * (rd l1_0 x9_2))) + x8_2)) 65536) [.int .u64 (Int.tmod (IntKind.u64.wrap ((IntKind.u64.wrap ((rd l0_0 x6_1) * (rd l1_0 x9_2))) + x8_2)) 65536)] (fun k_ => (w.heap.size ≤ k_) ∧ some k_ ≠ (u5 : Value).ownBlock) (fun _ => False) rfl rfl ?aP (fun _ hk => hk.elim) ?aF ?aO ?aB ?aS ?aL ?_; (case aP => exact rfl); (case aB => exact (kw HB.out)); (case aF => exact (fun k_ hk => ⟨(Nat.le_trans (below_size (kw HB.out)) hk), Kd.fresh' (Kd.R_lt (kr HO_5.out)) k_ hk⟩)); (case aO => exact (kr HO_7.out)); (case aS => exact (below_size (kw HB.out))); (case aL => have := LMc18.out; omega); intro v461 w24 ho hb hg hat; rw [← Ny460.out] at ho; replace HO_5 := ka (Kd.R_after (ok := (fun k_ => (w.heap.size ≤ k_))) (kr HO_5.out) hg hat); replace BK448 := ka (blk_grown (g := gb448) (kz BK448.out) hg (Kd.R_ne HO_7.out BK448.out (by decide))); replace BK449 := ka (blk_grown (g := gb449) (kz BK449.out) hg (Kd.R_ne HO_7.out BK449.out (by decide))); replace BK450 := ka (blk_grown (g := gb450) (kz BK450.out) hg (Kd.R_ne HO_7.out BK450.out (by decide))); replace HB := ka (hb); have HO462 := ka (ho); clear HO_7; clear ho hb hg hat)))
             go_roundg k2
             case measure => have := HK1.out; have := HK2.out; omega
             case rel => exact ⟨(y460), (IntKind.u64.wrap (Int.tdiv (IntKind.u64.wrap ((IntKind.u64.wrap ((rd l0_0 x6_1) * (rd l1_0 x9_2))) + x8_2)) 65536)), (wrap64 (x9_2 + 1)), (by first | rfl | (simp; done) | (simp [*]; done)), (by first | rfl | (simp; done) | (simp [*]; done)), H', ⟨by have := HK1.out; have := HK2.out; omega⟩, ⟨kr HO_5.out⟩, ⟨kr HO462.out⟩, ⟨by (with_reducible repeat (first | apply kb1 | apply kb2 | apply kb3)); exact BK448.out⟩, ⟨by (with_reducible repeat (first | apply kb1 | apply kb2 | apply kb3)); exact BK449.out⟩, ⟨by (with_reducible repeat (first | apply kb1 | apply kb2 | apply kb3)); exact BK450.out⟩, ⟨by repeat (first | (with_reducible first | exact HB.out | apply kc1 | apply kc2 | apply kc3 | refine kc4 ?_ GE448.out | refine kc4 ?_ GE449.out | refine kc4 ?_ GE450.out) | exact HB.out)⟩⟩
            ·rw [if_neg c18] at H
             exact absurd H (by simp)
           ·rw [if_neg c17] at H
            exact absurd H (by simp)
          ·rw [if_neg c16] at H
           exact absurd H (by simp)
         ·rw [if_neg c15] at H
          exact absurd H (by simp)
        ·rw [if_neg c14] at H
         have c14b0 : decide (x9_2 < (l1_0.length : Int)) = false := decide_eq_false c14
         clear c14
         by_cases c25 : x7_2.length < 17592186044416
         ·rw [if_pos c25] at H
          have LMc25 := ka c25
          clear c25
          obtain ⟨y463, hy463⟩ : ∃ y_ : List Int, y_ = (x7_2 ++ [x8_2]) := ⟨_, rfl⟩
          replace H : ((trivetref01_plus.f k2 x5_1 y463).bind fun t466 => (trivetref01_Mul.l0 k2 t466 (wrap64 (x6_1 + 1)) l0_0 a0_1 l1_0 a1_1)) = some (r1, r2) := by first | (rw [hy463]; with_reducible exact H) | (have H2_ := (Option.bind_some _ _).symm.trans H; rw [hy463]; with_reducible exact H2_) | (have H2_ := (Option.bind_some _ _).symm.trans H; with_reducible exact H2_) | with_reducible exact H | (rw [hy463]; exact H) | exact H
          have Ny463 := ka hy463
          clear hy463
          replace H := Option.bind_eq_some_iff.mp H
          obtain ⟨t466, A260, H⟩ := H
          replace H : (trivetref01_Mul.l0 k2 t466 (wrap64 (x6_1 + 1)) l0_0 a0_1 l1_0 a1_1) = some (r1, r2) := H
          have A26 := ka A260
          clear A260
          have H' := ka H
          clear H
          have hnb27 := NB449_448.out
          have hnc27 := NB448_449.out
          have hnb28 := NB449_450.out
          have hnc28 := NB450_449.out
          have hcz29 := blkAll2 BK449.out
          go_wp2_with (first | ((with_reducible refine gate_builtin (b := .append) (xs := #[.tmp 47, .tmp 49]) rfl ?_); at_builtin; refine Kd.R_append (Kd.int .u64) (w0 := w) w.heap.size rfl (.tmp 47) (.tmp 49) 35 46 (.int .u64 0) 8 rfl Try.underlying35 info46 rfl (by decide) (by omega) u7 x7_2 x8_2 [.int .u64 x8_2] (fun k_ => (w.heap.size ≤ k_) ∧ some k_ ≠ (u5 : Value).ownBlock) (fun _ => False) rfl rfl ?aP (fun _ hk => hk.elim) ?aF ?aO ?aB ?aS ?aL ?_; (case aP => exact rfl); (case aB => exact (kw HB.out)); (case aF => exact (fun k_ hk => ⟨(Nat.le_trans (below_size (kw HB.out)) hk), Kd.fresh' (Kd.R_lt (kr HO_5.out)) k_ hk⟩)); (case aO => exact (kr HO_7.out)); (case aS => exact (below_size (kw HB.out))); (case aL => have := LMc25.out; omega); intro v464 w30 ho hb hg hat; rw [← Ny463.out] at ho; replace HO_5 := ka (Kd.R_after (ok := (fun k_ => (w.heap.size ≤ k_))) (kr HO_5.out) hg hat); replace BK448 := ka (blk_grown (g := gb448) (kz BK448.out) hg (Kd.R_ne HO_7.out BK448.out (by decide))); replace BK449 := ka (blk_grown (g := gb449) (kz BK449.out) hg (Kd.R_ne HO_7.out BK449.out (by decide))); replace BK450 := ka (blk_grown (g := gb450) (kz BK450.out) hg (Kd.R_ne HO_7.out BK450.out (by decide))); replace HB := ka (hb); have HO465 := ka (ho); clear HO_7; clear ho hb hg hat; obtain ⟨Ao31, co31, eo31⟩ := Kd.R_slice HO_5.out; subst eo31; obtain ⟨Ao32, co32, eo32⟩ := Kd.R_slice HO465.out; subst eo32) | (go_at_call 32; (with_reducible refine (trivetref01_plus.calls k2 _ _ x5_1 _ _ y463 t466 _ ?side1 ?side2 ?side3 ?side4 A26.out).mono ?_); (case side1 => repeat (first | exact (Kd.R_reads' HO_5.out).2.2 | (with_reducible refine Kd.C_alloc ?_ _) | (with_reducible refine Kd.C_drewN ?_ _) | (with_reducible refine Kd.C_drew ?_))); (case side2 => exact (Kd.R_reads' HO_5.out).2.1); (case side3 => repeat (first | exact (Kd.R_reads' HO465.out).2.2 | (with_reducible refine Kd.C_alloc ?_ _) | (with_reducible refine Kd.C_drewN ?_ _) | (with_reducible refine Kd.C_drew ?_))); (case side4 => exact (Kd.R_reads' HO465.out).2.1); rintro e w33 ⟨v467, rfl, ho0, hb⟩; have HO468 := ka (Kd.R_lower (Kd.R_new' (Kd.R_new' (Kd.R_newM (M := fun k_ => (w.heap.size ≤ k_)) ho0 (below_size (kw HB.out)) (fun k_ h_ => h_)) (Kd.R_lt (kr HO_5.out))) (Kd.R_lt (kr HO465.out))) (below_size (kw HB.out))); replace HO_5 := ka (Kd.R_elder' (kr HO_5.out) (Kd.R_base ho0) hb); replace HO465 := ka (Kd.R_elder' (kr HO465.out) (Kd.R_base ho0) hb); replace BK448 := kbb BK448 hb; replace BK449 := kbb BK449 hb; replace BK450 := kbb BK450 hb; replace HB := ka (below_step (kw HB.out) hb); (try clear hb); (try clear hb2); (try clear hk); (try clear hi); (try clear ho0)))
          repeat (go_quiet (first | ((with_reducible refine gate_builtin (b := .append) (xs := #[.tmp 47, .tmp 49]) rfl ?_); at_builtin; refine Kd.R_append (Kd.int .u64) (w0 := w) w.heap.size rfl (.tmp 47) (.tmp 49) 35 46 (.int .u64 0) 8 rfl Try.underlying35 info46 rfl (by decide) (by omega) u7 x7_2 x8_2 [.int .u64 x8_2] (fun k_ => (w.heap.size ≤ k_) ∧ some k_ ≠ (u5 : Value).ownBlock) (fun _ => False) rfl rfl ?aP (fun _ hk => hk.elim) ?aF ?aO ?aB ?aS ?aL ?_; (case aP => exact rfl); (case aB => exact (kw HB.out)); (case aF => exact (fun k_ hk => ⟨(Nat.le_trans (below_size (kw HB.out)) hk), Kd.fresh' (Kd.R_lt (kr HO_5.out)) k_ hk⟩)); (case aO => exact (kr HO_7.out)); (case aS => exact (below_size (kw HB.out))); (case aL => have := LMc25.out; omega); intro v464 w30 ho hb hg hat; rw [← Ny463.out] at ho; replace HO_5 := ka (Kd.R_after (ok := (fun k_ => (w.heap.size ≤ k_))) (kr HO_5.out) hg hat); replace BK448 := ka (blk_grown (g := gb448) (kz BK448.out) hg (Kd.R_ne HO_7.out BK448.out (by decide))); replace BK449 := ka (blk_grown (g := gb449) (kz BK449.out) hg (Kd.R_ne HO_7.out BK449.out (by decide))); replace BK450 := ka (blk_grown (g := gb450) (kz BK450.out) hg (Kd.R_ne HO_7.out BK450.out (by decide))); replace HB := ka (hb); have HO465 := ka (ho); clear HO_7; clear ho hb hg hat; obtain ⟨Ao31, co31, eo31⟩ := Kd.R_slice HO_5.out; subst eo31; obtain ⟨Ao32, co32, eo32⟩ := Kd.R_slice HO465.out; subst eo32) | (go_at_call 32; (with_reducible refine (trivetref01_plus.calls k2 _ _ x5_1 _ _ y463 t466 _ ?side1 ?side2 ?side3 ?side4 A26.out).mono ?_); (case side1 => repeat (first | exact (Kd.R_reads' HO_5.out).2.2 | (with_reducible refine Kd.C_alloc ?_ _) | (with_reducible refine Kd.C_drewN ?_ _) | (with_reducible refine Kd.C_drew ?_))); (case side2 => exact (Kd.R_reads' HO_5.out).2.1); (case side3 => repeat (first | exact (Kd.R_reads' HO465.out).2.2 | (with_reducible refine Kd.C_alloc ?_ _) | (with_reducible refine Kd.C_drewN ?_ _) | (with_reducible refine Kd.C_drew ?_))); (case side4 => exact (Kd.R_reads' HO465.out).2.1); rintro e w33 ⟨v467, rfl, ho0, hb⟩; have HO468 := ka (Kd.R_lower (Kd.R_new' (Kd.R_new' (Kd.R_newM (M := fun k_ => (w.heap.size ≤ k_)) ho0 (below_size (kw HB.out)) (fun k_ h_ => h_)) (Kd.R_lt (kr HO_5.out))) (Kd.R_lt (kr HO465.out))) (below_size (kw HB.out))); replace HO_5 := ka (Kd.R_elder' (kr HO_5.out) (Kd.R_base ho0) hb); replace HO465 := ka (Kd.R_elder' (kr HO465.out) (Kd.R_base ho0) hb); replace BK448 := kbb BK448 hb; replace BK449 := kbb BK449 hb; replace BK450 := kbb BK450 hb; replace HB := ka (below_step (kw HB.out) hb); (try clear hb); (try clear hb2); (try clear hk); (try clear hi); (try clear ho0))); try go_wp2_with (first | ((with_reducible refine gate_builtin (b := .append) (xs := #[.tmp 47, .tmp 49]) rfl ?_); at_builtin; refine Kd.R_append (Kd.int .u64) (w0 := w) w.heap.size rfl (.tmp 47) (.tmp 49) 35 46 (.int .u64 0) 8 rfl Try.underlying35 info46 rfl (by decide) (by omega) u7 x7_2 x8_2 [.int .u64 x8_2] (fun k_ => (w.heap.size ≤ k_) ∧ some k_ ≠ (u5 : Value).ownBlock) (fun _ => False) rfl rfl ?aP (fun _ hk => hk.elim) ?aF ?aO ?aB ?aS ?aL ?_; (case aP => exact rfl); (case aB => exact (kw HB.out)); (case aF => exact (fun k_ hk => ⟨(Nat.le_trans (below_size (kw HB.out)) hk), Kd.fresh' (Kd.R_lt (kr HO_5.out)) k_ hk⟩)); (case aO => exact (kr HO_7.out)); (case aS => exact (below_size (kw HB.out))); (case aL => have := LMc25.out; omega); intro v464 w30 ho hb hg hat; rw [← Ny463.out] at ho; replace HO_5 := ka (Kd.R_after (ok := (fun k_ => (w.heap.size ≤ k_))) (kr HO_5.out) hg hat); replace BK448 := ka (blk_grown (g := gb448) (kz BK448.out) hg (Kd.R_ne HO_7.out BK448.out (by decide))); replace BK449 := ka (blk_grown (g := gb449) (kz BK449.out) hg (Kd.R_ne HO_7.out BK449.out (by decide))); replace BK450 := ka (blk_grown (g := gb450) (kz BK450.out) hg (Kd.R_ne HO_7.out BK450.out (by decide))); replace HB := ka (hb); have HO465 := ka (ho); clear HO_7; clear ho hb hg hat; obtain ⟨Ao31, co31, eo31⟩ := Kd.R_slice HO_5.out; subst eo31; obtain ⟨Ao32, co32, eo32⟩ := Kd.R_slice HO465.out; subst eo32) | (go_at_call 32; (with_reducible refine (trivetref01_plus.calls k2 _ _ x5_1 _ _ y463 t466 _ ?side1 ?side2 ?side3 ?side4 A26.out).mono ?_); (case side1 => repeat (first | exact (Kd.R_reads' HO_5.out).2.2 | (with_reducible refine Kd.C_alloc ?_ _) | (with_reducible refine Kd.C_drewN ?_ _) | (with_reducible refine Kd.C_drew ?_))); (case side2 => exact (Kd.R_reads' HO_5.out).2.1); (case side3 => repeat (first | exact (Kd.R_reads' HO465.out).2.2 | (with_reducible refine Kd.C_alloc ?_ _) | (with_reducible refine Kd.C_drewN ?_ _) | (with_reducible refine Kd.C_drew ?_))); (case side4 => exact (Kd.R_reads' HO465.out).2.1); rintro e w33 ⟨v467, rfl, ho0, hb⟩; have HO468 := ka (Kd.R_lower (Kd.R_new' (Kd.R_new' (Kd.R_newM (M := fun k_ => (w.heap.size ≤ k_)) ho0 (below_size (kw HB.out)) (fun k_ h_ => h_)) (Kd.R_lt (kr HO_5.out))) (Kd.R_lt (kr HO465.out))) (below_size (kw HB.out))); replace HO_5 := ka (Kd.R_elder' (kr HO_5.out) (Kd.R_base ho0) hb); replace HO465 := ka (Kd.R_elder' (kr HO465.out) (Kd.R_base ho0) hb); replace BK448 := kbb BK448 hb; replace BK449 := kbb BK449 hb; replace BK450 := kbb BK450 hb; replace HB := ka (below_step (kw HB.out) hb); (try clear hb); (try clear hb2); (try clear hk); (try clear hi); (try clear ho0))))
          go_roundg k2
          case measure => have := HK1.out; have := HK2.out; omega
          case rel => exact ⟨(t466), (wrap64 (x6_1 + 1)), (by first | rfl | (simp; done) | (simp [*]; done)), H', ⟨by have := HK1.out; have := HK2.out; omega⟩, ⟨kr (Kd.R_mono HO468.out (fun _ hk => hk.1.1.1))⟩, ⟨by (with_reducible repeat (first | apply kb1 | apply kb2 | apply kb3)); exact BK448.out⟩, ⟨by (with_reducible repeat (first | apply kb1 | apply kb2 | apply kb3)); exact BK449.out⟩, ⟨by (with_reducible repeat (first | apply kb1 | apply kb2 | apply kb3)); exact BK450.out⟩, ⟨by repeat (first | (with_reducible first | exact HB.out | apply kc1 | apply kc2 | apply kc3 | refine kc4 ?_ GE448.out | refine kc4 ?_ GE449.out | refine kc4 ?_ GE450.out) | exact HB.out)⟩⟩
         ·rw [if_neg c25] at H
          exact absurd H (by simp)
     ·rw [if_neg c8] at H
      exact absurd H (by simp)
    ·rw [if_neg c7] at H
     exact absurd H (by simp)
   ·rw [if_neg c6] at H
    have c6b0 : decide (x6_1 < (l0_0.length : Int)) = false := decide_eq_false c6
    clear c6
    replace H := Option.bind_eq_some_iff.mp H
    obtain ⟨⟨t451, t454⟩, A340, H⟩ := H
    replace H : (some (t451, t454)) = some (r1, r2) := H
    have A34 := ka A340
    clear A340
    simp only [Option.some.injEq, Prod.mk.injEq] at H
    obtain ⟨rfl, rfl⟩ := H
    have hnb35 := NB448_449.out
    have hnc35 := NB449_448.out
    have hnb36 := NB448_450.out
    have hnc36 := NB450_448.out
    have hcz37 := blkAll2 BK448.out
    have hnb38 := NB449_450.out
    have hnc38 := NB450_449.out
    have hcz39 := blkAll2 BK449.out
    obtain ⟨Ao40, co40, eo40⟩ := Kd.R_slice HO_5.out
    subst eo40
    go_wp2_with (first | (go_at_call 31; (with_reducible refine (trivetref01_norm.calls k1 (fun k_ => some k_ = (.slice Ao40 x5_1.length co40 : Value).ownBlock) _ _ x5_1 (!(a0_1 == a1_1)) t451 t454 _ ?side1 A34.out).mono ?_); (case side1 => exact Kd.R_V (Kd.R_tight rfl (Kd.R_types (Kd.R_types (Kd.R_types (HO_5.out) BK448.out (by decide)) BK449.out (by decide)) BK450.out (by decide)))); rintro e w41 ⟨v452, rfl, ho0, hb⟩; have HO453 := ka (Kd.V_lower (Kd.V_mono (ok' := fun k_ => (w.heap.size ≤ k_) ∧ k_ ≠ gb448 ∧ k_ ≠ gb449 ∧ k_ ≠ gb450) ho0 (fun k_ hk_ => ⟨Or.elim hk_ (fun hs_ => ((Kd.R_types (Kd.R_types (Kd.R_types (HO_5.out) BK448.out (by decide)) BK449.out (by decide)) BK450.out (by decide)).1 k_ hs_.symm).1.1.1) (fun hn_ => (Nat.le_trans (below_size (kw HB.out)) hn_)), Or.elim hk_ (fun hs_ => ((Kd.R_types (Kd.R_types (Kd.R_types (HO_5.out) BK448.out (by decide)) BK449.out (by decide)) BK450.out (by decide)).1 k_ hs_.symm).1.1.2) (fun hn_ => (kf BK448 hn_)), Or.elim hk_ (fun hs_ => ((Kd.R_types (Kd.R_types (Kd.R_types (HO_5.out) BK448.out (by decide)) BK449.out (by decide)) BK450.out (by decide)).1 k_ hs_.symm).1.2) (fun hn_ => (kf BK449 hn_)), Or.elim hk_ (fun hs_ => ((Kd.R_types (Kd.R_types (Kd.R_types (HO_5.out) BK448.out (by decide)) BK449.out (by decide)) BK450.out (by decide)).1 k_ hs_.symm).2) (fun hn_ => (kf BK450 hn_))⟩)) (below_size (kw HB.out))); replace HO_5 := ka (Kd.R_below (kr HO_5.out) hb); replace BK448 := kbb BK448 hb; replace BK449 := kbb BK449 hb; replace BK450 := kbb BK450 hb; replace HB := ka (below_step (kw HB.out) hb); (try clear hb); (try clear hb2); (try clear hk); (try clear hi); (try clear ho0); obtain ⟨Ao42, co42, eo42⟩ := Kd.V_slice HO453.out; subst eo42; have hcz43 := blkAll2 BK450.out))
    repeat (go_quiet (first | (go_at_call 31; (with_reducible refine (trivetref01_norm.calls k1 (fun k_ => some k_ = (.slice Ao40 x5_1.length co40 : Value).ownBlock) _ _ x5_1 (!(a0_1 == a1_1)) t451 t454 _ ?side1 A34.out).mono ?_); (case side1 => exact Kd.R_V (Kd.R_tight rfl (Kd.R_types (Kd.R_types (Kd.R_types (HO_5.out) BK448.out (by decide)) BK449.out (by decide)) BK450.out (by decide)))); rintro e w41 ⟨v452, rfl, ho0, hb⟩; have HO453 := ka (Kd.V_lower (Kd.V_mono (ok' := fun k_ => (w.heap.size ≤ k_) ∧ k_ ≠ gb448 ∧ k_ ≠ gb449 ∧ k_ ≠ gb450) ho0 (fun k_ hk_ => ⟨Or.elim hk_ (fun hs_ => ((Kd.R_types (Kd.R_types (Kd.R_types (HO_5.out) BK448.out (by decide)) BK449.out (by decide)) BK450.out (by decide)).1 k_ hs_.symm).1.1.1) (fun hn_ => (Nat.le_trans (below_size (kw HB.out)) hn_)), Or.elim hk_ (fun hs_ => ((Kd.R_types (Kd.R_types (Kd.R_types (HO_5.out) BK448.out (by decide)) BK449.out (by decide)) BK450.out (by decide)).1 k_ hs_.symm).1.1.2) (fun hn_ => (kf BK448 hn_)), Or.elim hk_ (fun hs_ => ((Kd.R_types (Kd.R_types (Kd.R_types (HO_5.out) BK448.out (by decide)) BK449.out (by decide)) BK450.out (by decide)).1 k_ hs_.symm).1.2) (fun hn_ => (kf BK449 hn_)), Or.elim hk_ (fun hs_ => ((Kd.R_types (Kd.R_types (Kd.R_types (HO_5.out) BK448.out (by decide)) BK449.out (by decide)) BK450.out (by decide)).1 k_ hs_.symm).2) (fun hn_ => (kf BK450 hn_))⟩)) (below_size (kw HB.out))); replace HO_5 := ka (Kd.R_below (kr HO_5.out) hb); replace BK448 := kbb BK448 hb; replace BK449 := kbb BK449 hb; replace BK450 := kbb BK450 hb; replace HB := ka (below_step (kw HB.out) hb); (try clear hb); (try clear hb2); (try clear hk); (try clear hi); (try clear ho0); obtain ⟨Ao42, co42, eo42⟩ := Kd.V_slice HO453.out; subst eo42; have hcz43 := blkAll2 BK450.out)); try go_wp2_with (first | (go_at_call 31; (with_reducible refine (trivetref01_norm.calls k1 (fun k_ => some k_ = (.slice Ao40 x5_1.length co40 : Value).ownBlock) _ _ x5_1 (!(a0_1 == a1_1)) t451 t454 _ ?side1 A34.out).mono ?_); (case side1 => exact Kd.R_V (Kd.R_tight rfl (Kd.R_types (Kd.R_types (Kd.R_types (HO_5.out) BK448.out (by decide)) BK449.out (by decide)) BK450.out (by decide)))); rintro e w41 ⟨v452, rfl, ho0, hb⟩; have HO453 := ka (Kd.V_lower (Kd.V_mono (ok' := fun k_ => (w.heap.size ≤ k_) ∧ k_ ≠ gb448 ∧ k_ ≠ gb449 ∧ k_ ≠ gb450) ho0 (fun k_ hk_ => ⟨Or.elim hk_ (fun hs_ => ((Kd.R_types (Kd.R_types (Kd.R_types (HO_5.out) BK448.out (by decide)) BK449.out (by decide)) BK450.out (by decide)).1 k_ hs_.symm).1.1.1) (fun hn_ => (Nat.le_trans (below_size (kw HB.out)) hn_)), Or.elim hk_ (fun hs_ => ((Kd.R_types (Kd.R_types (Kd.R_types (HO_5.out) BK448.out (by decide)) BK449.out (by decide)) BK450.out (by decide)).1 k_ hs_.symm).1.1.2) (fun hn_ => (kf BK448 hn_)), Or.elim hk_ (fun hs_ => ((Kd.R_types (Kd.R_types (Kd.R_types (HO_5.out) BK448.out (by decide)) BK449.out (by decide)) BK450.out (by decide)).1 k_ hs_.symm).1.2) (fun hn_ => (kf BK449 hn_)), Or.elim hk_ (fun hs_ => ((Kd.R_types (Kd.R_types (Kd.R_types (HO_5.out) BK448.out (by decide)) BK449.out (by decide)) BK450.out (by decide)).1 k_ hs_.symm).2) (fun hn_ => (kf BK450 hn_))⟩)) (below_size (kw HB.out))); replace HO_5 := ka (Kd.R_below (kr HO_5.out) hb); replace BK448 := kbb BK448 hb; replace BK449 := kbb BK449 hb; replace BK450 := kbb BK450 hb; replace HB := ka (below_step (kw HB.out) hb); (try clear hb); (try clear hb2); (try clear hk); (try clear hi); (try clear ho0); obtain ⟨Ao42, co42, eo42⟩ := Kd.V_slice HO453.out; subst eo42; have hcz43 := blkAll2 BK450.out)))
    refine bodyPost_ret (results_cell_row rfl _ _ gb450 37 #[.slice Ao42 t451.length co42, .bool t454] (0, 0) _ rfl (by (with_reducible repeat (first | apply kb1 | apply kb2 | apply kb3 | apply blkPut2_1 | apply blkPut2_0)); exact BK450.out) Try.underlying37 rfl (by kernel_rfl)) rfl ?_
    exact ⟨_, by first | rfl | (simp [errW_none, errW_some] <;> rfl) | (simp [*, errW_none, errW_some] <;> rfl), by (with_reducible repeat (first | apply Kd.V_alloc | apply Kd.V_drewN | apply Kd.V_drew)); exact Kd.V_mono (Kd.V_far (p := ⟨gb450, 1, none⟩) (Kd.V_far (p := ⟨gb450, 0, none⟩) (Kd.V_mono HO453.out (fun k_ hk => (⟨hk, hk.2.2.2⟩ : _ ∧ k_ ≠ gb450))) (fun _ hk => hk.2) (.slice Ao42 t451.length co42)) (fun _ hk => hk.2) (.bool t454)) (fun _ hk => hk.1.1), by repeat (first | (with_reducible first | exact HB.out | apply kc1 | apply kc2 | apply kc3 | refine kc4 ?_ GE448.out | refine kc4 ?_ GE449.out | refine kc4 ?_ GE450.out) | exact HB.out)⟩

/-! ### trivetref01_Mul: function 22, its laws -/
theorem trivetref01_Mul.row (n : Nat) : ∀ (k : Nat) (a b out row : List Int) (c : Int) (i j : Nat) (am bm : Bool), U.Dg a → U.Dg b → U.Dg row → 0 ≤ c ∧ c < 65536 → i < a.length → a.length ≤ 1000 → b.length = j + n → b.length ≤ 1000 → row.length = i + j →
  ∃ row', trivetref01_Mul.l1 (k + n + 1) out i row c j a am b bm = (trivetref01_plus.f k out row').bind (fun t => trivetref01_Mul.l0 k t ((i + 1 : Nat) : Int) a am b bm) ∧ U.Dg row' ∧ U.val row' = U.val row + 65536 ^ (i + j) * (c + a.getD i 0 * U.val (b.drop j)) ∧ row'.length = i + b.length + 1 := by
 induction n with
 | zero =>
  intro k a b out row c i j am bm ha hb hr hc hi la lb lb2 hl
  refine ⟨row ++ [c], ?_, hr.add (U.Dg.one hc), ?_, by simp; omega⟩
  ·rw [Nat.add_zero]
   simp only [trivetref01_Mul.l1]
   rw [if_neg (by omega), if_pos (by omega), M.w64_id (n := (i : Int) + 1) (by omega) (by omega)]
   rfl
  ·rw [U.val_append, U.val_one, hl, List.drop_eq_nil_of_le (by omega)]
   simp [U.val]
 | succ n ih =>
  intro k a b out row c i j am bm ha hb hr hc hi la lb lb2 hl
  have ga := ha.get i
  have gb := hb.get j
  have hp0 : 0 ≤ a.getD i 0 * b.getD j 0 := Int.mul_nonneg ga.1 gb.1
  have hp1 : a.getD i 0 * b.getD j 0 ≤ 65535 * 65535 := Int.mul_le_mul (by omega) (by omega) gb.1 (by decide)
  have ih' := fun q r => ih k a b out (row ++ [r]) q i (j + 1) am bm ha hb
  have e : trivetref01_Mul.l1 (k + (n + 1) + 1) out i row c j a am b bm = trivetref01_Mul.l1 (k + n + 1) out i (row ++ [(a.getD i 0 * b.getD j 0 + c) % 65536]) ((a.getD i 0 * b.getD j 0 + c) / 65536) ((j + 1 : Nat) : Int) a am b bm := by
   have ra : rd a (i : Int) = a.getD i 0 := rfl
   have rb : rd b (j : Int) = b.getD j 0 := rfl
   rw [show k + (n + 1) + 1 = (k + n + 1) + 1 by omega]
   conv => lhs; simp only [trivetref01_Mul.l1]
   rw [if_pos (by omega), if_pos (by omega), if_pos (by omega), if_pos (by omega), if_pos (by omega), ra, rb]
   generalize a.getD i 0 * b.getD j 0 = p at *
   rw [M.wrapu_id (n := p) (by omega) (by omega), M.wrapu_id (n := p + c) (by omega) (by omega), M.tdivu (show 0 ≤ p + c by omega), M.tmodu (show 0 ≤ p + c by omega), M.wrapu_id (n := (p + c) / 65536) (by omega) (by omega), M.w64_id (n := (j : Int) + 1) (by omega) (by omega)]
   rfl
  obtain ⟨row', r1, r2, r3, r4⟩ := ih' ((a.getD i 0 * b.getD j 0 + c) / 65536) ((a.getD i 0 * b.getD j 0 + c) % 65536) (hr.add (U.Dg.one (by omega))) (by omega) hi la (by omega) lb2 (by simp; omega)
  refine ⟨row', by rw [e, r1], r2, ?_, r4⟩
  rw [r3, U.val_append, U.val_one, hl, show i + (j + 1) = (i + j) + 1 by omega, U.pow_succ, U.drop_step b j, Int.mul_add (a.getD i 0)]
  generalize a.getD i 0 * b.getD j 0 = p at *
  have hm : a.getD i 0 * (65536 * U.val (b.drop (j + 1))) = 65536 * (a.getD i 0 * U.val (b.drop (j + 1))) := by rw [← Int.mul_assoc, Int.mul_comm _ 65536, Int.mul_assoc]
  rw [hm]
  generalize a.getD i 0 * U.val (b.drop (j + 1)) = u
  have : c + (p + 65536 * u) = (p + c) % 65536 + 65536 * ((p + c) / 65536 + u) := by omega
  rw [this]
  generalize (p + c) % 65536 = r
  generalize (p + c) / 65536 + u = s
  generalize (65536 : Int) ^ (i + j) = z
  rw [Int.mul_add, Int.mul_comm 65536 z, Int.mul_assoc, Int.add_assoc]
theorem trivetref01_Mul.loop (n : Nat) : ∀ (k : Nat) (a b out : List Int) (i : Nat) (am bm : Bool), U.Dg a → U.Dg b → U.Dg out → a.length = i + n → a.length ≤ 100 → b.length ≤ 100 → out.length ≤ i + b.length + 1 → n * 110 + 2000 ≤ k →
  ∃ d, trivetref01_Mul.l0 k out i a am b bm = trivetref01_norm.f (k - 1 - n * (b.length + 2)) d (!(am == bm)) ∧ U.Dg d ∧ U.val d = U.val out + 65536 ^ i * (U.val (a.drop i) * U.val b) ∧ d.length ≤ a.length + b.length + 1 := by
 induction n with
 | zero =>
  intro k a b out i am bm ha hb ho la la2 lb lo hk
  obtain ⟨j, rfl⟩ : ∃ j, k = j + 1 := ⟨k - 1, by omega⟩
  refine ⟨out, ?_, ho, ?_, by omega⟩
  ·simp only [trivetref01_Mul.l0]
   rw [if_neg (by omega), show j + 1 - 1 - 0 * (b.length + 2) = j by omega]
   cases trivetref01_norm.f j out (!(am == bm)) <;> rfl
  ·rw [List.drop_eq_nil_of_le (by omega)]; simp [U.val]
 | succ n ih =>
  intro k a b out i am bm ha hb ho la la2 lb lo hk
  obtain ⟨j, rfl⟩ : ∃ j, k = (j + b.length + 1) + 1 := ⟨k - b.length - 2, by omega⟩
  obtain ⟨row, r1, r2, r3, r4⟩ := trivetref01_Mul.row b.length j a b out (List.replicate i 0) 0 i 0 am bm ha hb (U.Dg.zeros i) (by decide) (by omega) (by omega) (by omega) (by omega) (by simp)
  obtain ⟨t, t1, t2, t3, t4⟩ := trivetref01_plus.num j out row ho r2 (by omega) (by omega) (by omega)
  obtain ⟨d, d1, d2, d3, d4⟩ := ih j a b t (i + 1) am bm ha hb t2 (by omega) la2 lb (by omega) (by omega)
  have r1' : trivetref01_Mul.l1 (j + b.length + 1) out i (List.replicate i 0) 0 0 a am b bm = _ := r1
  refine ⟨d, ?_, d2, ?_, d4⟩
  ·conv => lhs; simp only [trivetref01_Mul.l0]
   rw [if_pos (by omega), if_pos (by omega), if_pos (by omega), show ((i : Int)).toNat = i from rfl, r1', t1, Option.bind_some, d1]
   congr 1
   rw [Nat.add_mul]
   omega
  ·rw [d3, t3, r3, U.val_zeros, U.drop_step a i, U.pow_succ]
   simp only [Nat.add_zero, Int.zero_add, List.drop_zero]
   generalize a.getD i 0 = x
   generalize U.val (a.drop (i + 1)) = u
   generalize U.val b = v
   generalize (65536 : Int) ^ i = p
   rw [Int.add_mul, Int.mul_add, Int.add_assoc, Int.mul_comm 65536 p, Int.mul_assoc p 65536, Int.mul_assoc 65536 u]
theorem trivetref01_Mul.num (k : Nat) (x y : Int) (hx : M.abs x < 65536 ^ 32) (hy : M.abs y < 65536 ^ 32) (hk : 6000 ≤ k) : trivetref01_Mul.f k (U.num x).1 (U.num x).2 (U.num y).1 (U.num y).2 = some (U.num (x * y)) := by
 have lx := U.len_dig 32 _ hx
 have ly := U.len_dig 32 _ hy
 have x0 := U.abs_nonneg x
 have y0 := U.abs_nonneg y
 have vx := U.val_dig x0
 have vy := U.val_dig y0
 have hmul : (U.dig (M.abs x)).length * ((U.dig (M.abs y)).length + 2) ≤ 32 * 34 := Nat.mul_le_mul lx (by omega)
 obtain ⟨d, d1, d2, d3, d4⟩ := trivetref01_Mul.loop (U.dig (M.abs x)).length k (U.dig (M.abs x)) (U.dig (M.abs y)) [] 0 (decide (x < 0)) (decide (y < 0)) (U.dig_dg _) (U.dig_dg _) U.Dg.nil (by omega) (by omega) (by omega) (by simp) (by omega)
 have d1' : trivetref01_Mul.l0 k [] 0 (U.dig (M.abs x)) (decide (x < 0)) (U.dig (M.abs y)) (decide (y < 0)) = _ := d1
 show trivetref01_Mul.f k (U.dig (M.abs x)) (decide (x < 0)) (U.dig (M.abs y)) (decide (y < 0)) = _
 unfold trivetref01_Mul.f
 rw [d1', trivetref01_norm.num _ d _ (x * y) d2 (by omega) (by omega)]
 ·rw [d3, List.drop_zero, vx, vy]
  unfold M.abs
  by_cases c : x < 0 <;> by_cases c2 : y < 0 <;> simp [c, c2, U.val, Int.neg_mul, Int.mul_neg]

/-! ### trivetref01_To: function 29 -/
def trivetref01_To.l0 : Nat → Int → Int → List Int → Bool → Option (Int × Bool)
 | 0, _, _, _, _ => none
 | k + 1, x4, x5, x470000, x470001 => if x5 ≥ 0 then (if 0 ≤ x5 then (if x5 < (x470000.length : Int) then (trivetref01_To.l0 k (IntKind.u64.wrap ((IntKind.u64.wrap (x4 * 65536)) + (rd x470000 x5))) (wrap64 (x5 - 1)) x470000 x470001) else (none)) else (none)) else (if x470001 = true then (some (wrap64 (IntKind.u64.wrap ((Go.bits .xor .u64 18446744073709551615 x4) + 1)), decide (x4 ≤ 9223372036854775808))) else (some (wrap64 (x4), decide (x4 < 9223372036854775808))))
def trivetref01_To.f (k : Nat) (l0_0 : List Int) (a0_1 : Bool) : Option (Int × Bool) := if (l0_0.length : Int) > 4 then (some (0, false)) else (trivetref01_To.l0 k 0 (wrap64 ((l0_0.length : Int) - 1)) l0_0 a0_1)
theorem trivetref01_To.mono_l : ∀ k, (∀ y0 y1 y2 y3, LeO (trivetref01_To.l0 k y0 y1 y2 y3) (trivetref01_To.l0 (k + 1) y0 y1 y2 y3))
 | 0 => fun _ _ _ _ r h => by simp [trivetref01_To.l0] at h
 | k + 1 => by
  have ih0 := trivetref01_To.mono_l k
  ·intro y0 y1 y2 y3
   unfold trivetref01_To.l0
   repeat' first
   | (with_reducible exact ih0 _ _ _ _)
   | (with_reducible exact LeO.refl _)
   | (with_reducible exact LeO.none _)
   | (with_reducible refine LeO.ite ?_ ?_)
   | (with_reducible refine LeO.bind ?_ (fun _ => ?_))
   | exact ih0 _ _ _ _
   | exact LeO.none _
   | refine LeO.ite ?_ ?_
   | refine LeO.bind ?_ (fun _ => ?_)
theorem trivetref01_To.mono : ∀ a0 a1 k, LeO (trivetref01_To.f k a0 a1) (trivetref01_To.f (k + 1) a0 a1) := by
 intro a0 a1 k
 have ih0 := trivetref01_To.mono_l k
 unfold trivetref01_To.f
 repeat' first
   | (with_reducible exact ih0 _ _ _ _)
   | (with_reducible exact LeO.refl _)
   | (with_reducible exact LeO.none _)
   | (with_reducible refine LeO.ite ?_ ?_)
   | (with_reducible refine LeO.bind ?_ (fun _ => ?_))
   | exact ih0 _ _ _ _
   | exact LeO.none _
   | refine LeO.ite ?_ ?_
   | refine LeO.bind ?_ (fun _ => ?_)
set_option maxHeartbeats 8000000 in
set_option maxRecDepth 100000 in
theorem trivetref01_To.calls (k : Nat) (A0_0 : Option Addr) (c0_0 : Nat) (l0_0 : List Int) (a0_1 : Bool) (r1 : Int) (r2 : Bool) (w : World) (hr0_0 : Kd.C (Kd.int .u64) w A0_0 l0_0.length l0_0) (hc0_0 : l0_0.length ≤ c0_0) (h : trivetref01_To.f k l0_0 a0_1 = some (r1, r2)) :
  Calls Try.prog 29 #[.agg #[.slice A0_0 l0_0.length c0_0, .bool a0_1]] w fun e w' => e = .returned (.tuple #[.int .i64 r1, .bool r2]) ∧ Below w.heap.size w w' := by
 have hu37 := Try.underlying37
 have HR0_0 := ka hr0_0
 have HC0_0 := ka hc0_0
 clear hr0_0 hc0_0
 have HB := ka (Below.refl w.heap.size w)
 have H : (if (l0_0.length : Int) > 4 then (some (0, false)) else (trivetref01_To.l0 k 0 (wrap64 ((l0_0.length : Int) - 1)) l0_0 a0_1)) = some (r1, r2) := h
 clear h
 by_cases c2 : (l0_0.length : Int) > 4
 ·rw [if_pos c2] at H
  have c2b0 : decide (4 < (l0_0.length : Int)) = true := decide_eq_true c2
  have c2b1 : decide (4 < l0_0.length) = true := decide_eq_true (by omega)
  clear c2
  simp only [Option.some.injEq, Prod.mk.injEq] at H
  obtain ⟨rfl, rfl⟩ := H
  go_enter Try.func29, Try.ntmps29
  go_wp2_with (first | ((with_reducible refine gate_dst (N := 1) rfl ?_); refine kx (N := 1) (cs := #[.slice A0_0 l0_0.length c0_0, .bool a0_1]) (t := 37) ?_; intro gb469 hg w3 hbox hb; have n0_ := ka (below_step (kw HB.out) hb); have n1_ := ka (hbox); have n2_ := ka ((by rw [hg]; exact (below_size (kw HB.out)) : w.heap.size ≤ gb469)); have n3_ := n2_; clear HB; have HB := n0_; have BK469 := n1_; have GW469 := n2_; have GE469 := n3_; clear n0_ n1_ n2_ n3_; clear hb hbox hg; have hcz4 := blkAll2 BK469.out))
  go_ret2
  exact ⟨by first | rfl | (simp [errW_none, errW_some] <;> rfl) | (simp [*, errW_none, errW_some] <;> rfl), by repeat (first | (with_reducible first | exact HB.out | apply kc1 | apply kc2 | apply kc3 | refine kc4 ?_ GE469.out) | exact HB.out)⟩
 ·rw [if_neg c2] at H
  have c2b0 : decide (4 < (l0_0.length : Int)) = false := decide_eq_false c2
  have c2b1 : decide (4 < l0_0.length) = false := decide_eq_false (by omega)
  clear c2
  have H' := ka H
  clear H
  go_enter Try.func29, Try.ntmps29
  go_wp2_with (first | ((with_reducible refine gate_dst (N := 1) rfl ?_); refine kx (N := 1) (cs := #[.slice A0_0 l0_0.length c0_0, .bool a0_1]) (t := 37) ?_; intro gb469 hg w5 hbox hb; have n0_ := ka (below_step (kw HB.out) hb); have n1_ := ka (hbox); have n2_ := ka ((by rw [hg]; exact (below_size (kw HB.out)) : w.heap.size ≤ gb469)); have n3_ := n2_; clear HB; have HB := n0_; have BK469 := n1_; have GW469 := n2_; have GE469 := n3_; clear n0_ n1_ n2_ n3_; clear hb hbox hg; have hcz6 := blkAll2 BK469.out))
  (try simp only [Act.put, List.setIfInBounds_toArray, List.set_cons_zero, List.set_cons_succ])
  go_loopg [4, 5] k (fun kq v4 v5 w' => ∃ (x4_1 : Int) (x5_1 : Int), v4 = .int .u64 x4_1 ∧ v5 = .int .i64 x5_1 ∧ Aside0 (trivetref01_To.l0 kq x4_1 x5_1 l0_0 a0_1 = some (r1, r2)) ∧ Aside0 (kq ≤ k) ∧ Aside0 (w'.heap[gb469]? = some (.cells #[(.slice A0_0 l0_0.length c0_0), .bool a0_1] 37 (0, 0))) ∧ Aside0 (Below w.heap.size w w'))
  case atStart => exact ⟨(0), (wrap64 ((l0_0.length : Int) - 1)), (by first | rfl | (simp; done) | (simp [*]; done)), (by first | rfl | (simp; done) | (simp [*]; done)), H', ⟨Nat.le_refl _⟩, ⟨by (with_reducible repeat (first | apply kb1 | apply kb2 | apply kb3)); exact BK469.out⟩, ⟨by repeat (first | (with_reducible first | exact HB.out | apply kc1 | apply kc2 | apply kc3 | refine kc4 ?_ GE469.out) | exact HB.out)⟩⟩
  case round =>
   clear H'
   try clear c2
   try clear c2b0
   try clear c2b1
   try clear p2
   try clear p6
   try clear hcz4
   try clear hcz6
   obtain ⟨x4_1, x5_1, rfl, rfl, HA, HK1, BK469, HB⟩ := hrel
   cases gk with
   | zero => exact absurd HA.out (by simp [trivetref01_To.l0])
   | succ k1 =>
    have H := HA.out
    clear HA
    simp only [trivetref01_To.l0] at H
    by_cases c7 : x5_1 ≥ 0
    ·rw [if_pos c7] at H
     have c7b0 : decide (0 ≤ x5_1) = true := decide_eq_true c7
     clear c7
     by_cases c8 : 0 ≤ x5_1
     ·rw [if_pos c8] at H
      have c8b0 : decide (0 ≤ x5_1) = true := decide_eq_true c8
      clear c8
      by_cases c9 : x5_1 < (l0_0.length : Int)
      ·rw [if_pos c9] at H
       have c9b0 : decide (x5_1 < (l0_0.length : Int)) = true := decide_eq_true c9
       clear c9
       have H' := ka H
       clear H
       have hcz10 := blkAll2 BK469.out
       have p470 : 0 ≤ (x5_1 : Int) := of_decide_eq_true (by first | (with_reducible assumption) | assumption)
       have q470 : x5_1 < (l0_0.length : Int) := of_decide_eq_true (by first | (with_reducible assumption) | assumption)
       obtain ⟨ad470, e470, hx470_0⟩ := Kd.at_int HR0_0.out x5_1 p470 q470
       cases e470
       replace hx470_0 := (HB.out.cell (World.block_lt_of_cell? w _ hx470_0)).trans hx470_0
       replace p470 := eq_true p470
       replace q470 := eq_true q470
       go_wp2
       go_roundg k1
       case measure => have := HK1.out; omega
       case rel => exact ⟨(IntKind.u64.wrap ((IntKind.u64.wrap (x4_1 * 65536)) + (rd l0_0 x5_1))), (wrap64 (x5_1 - 1)), (by first | rfl | (simp; done) | (simp [*]; done)), (by first | rfl | (simp; done) | (simp [*]; done)), H', ⟨by have := HK1.out; omega⟩, ⟨by (with_reducible repeat (first | apply kb1 | apply kb2 | apply kb3)); exact BK469.out⟩, ⟨by repeat (first | (with_reducible first | exact HB.out | apply kc1 | apply kc2 | apply kc3 | refine kc4 ?_ GE469.out) | exact HB.out)⟩⟩
      ·rw [if_neg c9] at H
       exact absurd H (by simp)
     ·rw [if_neg c8] at H
      exact absurd H (by simp)
    ·rw [if_neg c7] at H
     have c7b0 : decide (0 ≤ x5_1) = false := decide_eq_false c7
     clear c7
     by_cases c11 : a0_1 = true
     ·subst c11
      have H1 : (some (wrap64 (IntKind.u64.wrap ((Go.bits .xor .u64 18446744073709551615 x4_1) + 1)), decide (x4_1 ≤ 9223372036854775808))) = some (r1, r2) := by rw [if_pos rfl] at H; exact H
      clear H
      have H := H1
      clear H1
      simp only [Option.some.injEq, Prod.mk.injEq] at H
      obtain ⟨rfl, rfl⟩ := H
      have hcz12 := blkAll2 BK469.out
      go_wp2
      go_ret2
      exact ⟨by first | rfl | (simp [errW_none, errW_some] <;> rfl) | (simp [*, errW_none, errW_some] <;> rfl), by repeat (first | (with_reducible first | exact HB.out | apply kc1 | apply kc2 | apply kc3 | refine kc4 ?_ GE469.out) | exact HB.out)⟩
     ·replace c11 := Bool.eq_false_iff.mpr c11
      subst c11
      have H1 : (some (wrap64 (x4_1), decide (x4_1 < 9223372036854775808))) = some (r1, r2) := by rw [if_neg (show ¬ (false = true) by decide)] at H; exact H
      clear H
      have H := H1
      clear H1
      simp only [Option.some.injEq, Prod.mk.injEq] at H
      obtain ⟨rfl, rfl⟩ := H
      have hcz13 := blkAll2 BK469.out
      go_wp2
      go_ret2
      exact ⟨by first | rfl | (simp [errW_none, errW_some] <;> rfl) | (simp [*, errW_none, errW_some] <;> rfl), by repeat (first | (with_reducible first | exact HB.out | apply kc1 | apply kc2 | apply kc3 | refine kc4 ?_ GE469.out) | exact HB.out)⟩

/-! ### trivetref01_To: function 29, its laws -/
theorem trivetref01_To.loop (i : Nat) : ∀ (k : Nat) (d : List Int) (m : Bool), U.Dg d → d.length ≤ 4 → i ≤ d.length → i < k → trivetref01_To.l0 k (U.val (d.drop i)) ((i : Int) - 1) d m = trivetref01_To.l0 (k - i) (U.val d) (-1) d m := by
 induction i with
 | zero => intro k d m hd h4 hi hk; rfl
 | succ i ih =>
  intro k d m hd h4 hi hk
  obtain ⟨j, rfl⟩ : ∃ j, k = j + 1 := ⟨k - 1, by omega⟩
  have hv : U.val (d.drop (i + 1)) < 281474976710656 := by
   have := U.val_lt (d := d.drop (i + 1)) (fun x hx => hd x (List.mem_of_mem_drop hx))
   have hl : (d.drop (i + 1)).length ≤ 3 := by simp; omega
   have : (65536 : Int) ^ (d.drop (i + 1)).length ≤ 65536 ^ 3 := U.pow_le hl
   have e3 : (65536 : Int) ^ 3 = 281474976710656 := by decide
   omega
  have hv0 := U.val_nonneg (d := d.drop (i + 1)) (fun x hx => hd x (List.mem_of_mem_drop hx))
  have hg := hd.get i
  have hs := U.drop_step d i
  have hr : rd d ((i + 1 : Nat) - 1 : Int) = d.getD i 0 := by unfold rd; congr 1; omega
  generalize hV : U.val (d.drop (i + 1)) = v at *
  generalize hG : d.getD i 0 = g at *
  have key : trivetref01_To.l0 (j + 1) v ((i + 1 : Nat) - 1 : Int) d m = trivetref01_To.l0 j (U.val (d.drop i)) ((i : Int) - 1) d m := by
   simp only [trivetref01_To.l0]
   rw [if_pos (show ((i + 1 : Nat) - 1 : Int) ≥ 0 by omega), if_pos (show 0 ≤ ((i + 1 : Nat) - 1 : Int) by omega), if_pos (show ((i + 1 : Nat) - 1 : Int) < (d.length : Int) by omega), hr, M.wrapu_id (n := v * 65536) (by omega) (by omega), M.wrapu_id (n := v * 65536 + g) (by omega) (by omega), M.w64_id (by omega) (by omega), hs]
   congr 1 <;> omega
  rw [key, ih j d m hd h4 (by omega) (by omega)]
  congr 1
  omega
theorem trivetref01_To.num (k : Nat) (z : Int) (hk : 12 ≤ k) (hz : M.abs z < 65536 ^ 64) : ∃ v, trivetref01_To.f k (U.num z).1 (U.num z).2 = some (v, decide (M.In z)) ∧ (M.In z → v = z) := by
 have a0 := U.abs_nonneg z
 have e4 : (65536 : Int) ^ 4 = 18446744073709551616 := by decide
 have hd := U.dig_dg (M.abs z)
 have hv := U.val_dig a0
 unfold U.num trivetref01_To.f
 have a1 : M.abs z = z ∧ 0 ≤ z ∨ M.abs z = -z ∧ z < 0 := by unfold M.abs; split <;> omega
 by_cases h : (((U.dig (M.abs z)).length : Nat) : Int) > 4
 ·rw [if_pos h]
  have : ¬ M.abs z < 65536 ^ 4 := fun g => by have := U.len_dig 4 _ g; omega
  refine ⟨0, ?_, ?_⟩
  ·congr 2
   rw [decide_eq_false]
   unfold M.In; omega
  ·unfold M.In; omega
 ·rw [if_neg h]
  have hl : (U.dig (M.abs z)).length ≤ 4 := by omega
  have hlt := U.val_lt hd
  rw [hv] at hlt
  have : (65536 : Int) ^ (U.dig (M.abs z)).length ≤ 65536 ^ 4 := U.pow_le hl
  have key := trivetref01_To.loop (U.dig (M.abs z)).length k (U.dig (M.abs z)) (decide (z < 0)) hd hl (Nat.le_refl _) (by omega)
  rw [List.drop_length, hv] at key
  have hw : wrap64 (((U.dig (M.abs z)).length : Int) - 1) = ((U.dig (M.abs z)).length : Int) - 1 := M.w64_id (by omega) (by omega)
  rw [hw]
  simp only [U.val] at key
  rw [key]
  obtain ⟨j, hj⟩ : ∃ j, k - (U.dig (M.abs z)).length = j + 1 := ⟨k - (U.dig (M.abs z)).length - 1, by omega⟩
  rw [hj]
  simp only [trivetref01_To.l0]
  rw [if_neg (by decide)]
  by_cases hz0 : z < 0
  ·rw [if_pos (decide_eq_true hz0)]
   refine ⟨_, congrArg some (Prod.ext rfl (decide_eq_decide.mpr (by unfold M.In; omega))), ?_⟩
   intro hin
   unfold M.In at hin
   rw [M.xor_all _ (by omega) (by omega), M.wrapu]
   unfold wrap64
   omega
  ·rw [if_neg (by simpa using hz0)]
   refine ⟨_, congrArg some (Prod.ext rfl (decide_eq_decide.mpr (by unfold M.In; omega))), ?_⟩
   intro hin
   unfold M.In at hin
   rw [M.w64_id (by omega) (by omega)]
   omega

end Go.Proofs.Ytdddiahgkpfikaa.P
