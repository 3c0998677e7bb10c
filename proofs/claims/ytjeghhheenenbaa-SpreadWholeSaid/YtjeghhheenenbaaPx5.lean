-- Written by a program of this session out of the translation of the seat: Lean functions and the proofs that the Go functions come to them.
import Derived.Test.YtjeghhheenenbaaPx0
import Derived.Test.YtjeghhheenenbaaPx4
namespace Go.Proofs.Ytjeghhheenenbaa.P
open Go.RowKit Go.Proofs.YtjeghhheenenbaaW.PrintWords Go.Proofs.YtjeghhheenenbaaW.PrintLast Go.Proofs.YtjeghhheenenbaaW.PrintMore
attribute [local go_sem] max2_int min2_int max_two min_two max_three min_three max_four min_four   -- for this text's walks alone
set_option linter.unusedVariables false
set_option linter.unusedSimpArgs false

/-! ### spread_add: function 15 -/
def spread_add.l0 : Nat → List Int → Int → List Int → Int → Int → Option (Option Int × List Int)
 | 0, _, _, _, _, _ => none
 | k + 1, x0, x3, x22, x23, x24 => if x24 < x23 then (if 0 ≤ x24 then (if x24 < (x22.length : Int) then (if x24 < (x0.length : Int) then (spread_add.l0 k (x0.set (x24 : Int).toNat (wrap64 ((rd x0 x24) + (wrap64 (x3 * (rd x22 x24)))))) x3 x22 x23 (wrap64 (x24 + 1))) else (none)) else (none)) else (none)) else (some (none, x0))
def spread_add.f (k : Nat) (l0 : List Int) (a1 : Int) (a2 : Int) (a3 : Int) : Option (Option Int × List Int) := (split_Even.f k a1 a2).bind fun bt444 => (if bt444.2.isNone = true then (spread_add.l0 k l0 a3 bt444.1 (bt444.1.length : Int) 0) else (some (some (bt444.2.getD 0), l0)))
theorem spread_add.mono_l : ∀ k, (∀ y0 y1 y2 y3 y4, LeO (spread_add.l0 k y0 y1 y2 y3 y4) (spread_add.l0 (k + 1) y0 y1 y2 y3 y4))
 | 0 => fun _ _ _ _ _ r h => by simp [spread_add.l0] at h
 | k + 1 => by
  have ih0 := spread_add.mono_l k
  ·intro y0 y1 y2 y3 y4
   unfold spread_add.l0
   repeat' first
   | (with_reducible exact ih0 _ _ _ _ _)
   | (with_reducible exact split_Even.mono _ _ _)
   | (with_reducible exact LeO.refl _)
   | (with_reducible exact LeO.none _)
   | (with_reducible refine LeO.ite ?_ ?_)
   | (with_reducible refine LeO.bind ?_ (fun _ => ?_))
   | exact ih0 _ _ _ _ _
   | exact split_Even.mono _ _ _
   | exact LeO.none _
   | refine LeO.ite ?_ ?_
   | refine LeO.bind ?_ (fun _ => ?_)
theorem spread_add.mono : ∀ a0 a1 a2 a3 k, LeO (spread_add.f k a0 a1 a2 a3) (spread_add.f (k + 1) a0 a1 a2 a3) := by
 intro a0 a1 a2 a3 k
 have ih0 := spread_add.mono_l k
 unfold spread_add.f
 repeat' first
   | (with_reducible exact ih0 _ _ _ _ _)
   | (with_reducible exact split_Even.mono _ _ _)
   | (with_reducible exact LeO.refl _)
   | (with_reducible exact LeO.none _)
   | (with_reducible refine LeO.ite ?_ ?_)
   | (with_reducible refine LeO.bind ?_ (fun _ => ?_))
   | exact ih0 _ _ _ _ _
   | exact split_Even.mono _ _ _
   | exact LeO.none _
   | refine LeO.ite ?_ ?_
   | refine LeO.bind ?_ (fun _ => ?_)
set_option maxHeartbeats 8000000 in
set_option maxRecDepth 100000 in
theorem spread_add.calls (k : Nat) (P0_ : Nat → Prop) (u9000_ : Value) (l0 : List Int) (a1 : Int) (a2 : Int) (a3 : Int) (r1 : Option Int) (r2 : List Int) (w0 w : World) (hB : Below w0.heap.size w0 w) (ho0 : Kd.R (Kd.int .i64) 2 w w0.heap.size P0_ u9000_ l0) (h : spread_add.f k l0 a1 a2 a3 = some (r1, r2)) :
  Calls Try.prog 15 #[u9000_, .int .i64 a1, .int .i64 a2, .int .i64 a3] w fun e w' => e = .returned (errW r1) ∧ Kd.R (Kd.int .i64) 2 w' w0.heap.size (fun k_ => (P0_ k_ ∨ w.heap.size ≤ k_)) u9000_ r2 ∧ Below w0.heap.size w0 w' ∧ Kept w w' (fun k_ => P0_ k_) := by
 have hu29 := Try.underlying29
 have hu34 := Try.underlying34
 have HO0 := ka (show Kd.R (Kd.int .i64) 2 w w0.heap.size (fun k_ => (P0_ k_ ∨ w.heap.size ≤ k_)) u9000_ l0 from Kd.R_mono ho0 (fun k_ hk => (.inl hk)))
 have HK := ka (Kept.refl w (fun k_ => P0_ k_))
 have HW0 := ka hB.size
 have HB := ka hB
 clear hB
 have H : ((split_Even.f k a1 a2).bind fun bt444 => (if bt444.2.isNone = true then (spread_add.l0 k l0 a3 bt444.1 (bt444.1.length : Int) 0) else (some (some (bt444.2.getD 0), l0)))) = some (r1, r2) := h
 clear h
 replace H := Option.bind_eq_some_iff.mp H
 obtain ⟨⟨t444, t445⟩, A50, H⟩ := H
 replace H : (if t445.isNone = true then (spread_add.l0 k l0 a3 t444 (t444.length : Int) 0) else (some (some (t445.getD 0), l0))) = some (r1, r2) := H
 have A5 := ka A50
 clear A50
 rcases t445 with _ | q448
 ·have H1 : (spread_add.l0 k l0 a3 t444 (t444.length : Int) 0) = some (r1, r2) := by rw [if_pos (show (none : Option Int).isNone = true by rfl)] at H; exact H
  clear H
  have H := H1
  clear H1
  try simp only [errW_none, errW_some]
  have H' := ka H
  clear H
  go_enter Try.func15, Try.ntmps15
  go_wp2_with (first | ((with_reducible refine gate_callee (f := 18) rfl ?_); refine kg (some 16) rfl rfl Try.func18 (by kernel_rfl) rfl #[.int .i64 a1, .int .i64 a2] rfl ?_; (with_reducible refine (split_Even.calls k a1 a2 t444 none _ A5.out).mono ?_); rintro e w6 ⟨v446, rfl, ho0, hb⟩; refine ⟨_, rfl, ?_⟩; have HO447 := ka (Kd.R_lower (Kd.R_new' (Kd.R_newM (M := fun k_ => (P0_ k_ ∨ w.heap.size ≤ k_)) ho0 (by first | exact HK.out.1 | exact (show Kept w _ (fun k_ => P0_ k_) from by repeat (first | (with_reducible first | exact HK.out | apply Kept.alloc | apply Kept.drewN | apply Kept.drew) | exact HK.out)).1) (fun k_ h_ => .inr h_)) (Kd.R_lt (kr HO0.out))) (below_size (kw HB.out))); replace HO0 := ka (Kd.R_elder' (kr HO0.out) (Kd.R_base ho0) hb); replace HK := ka (Kept.below (S := (fun k_ => P0_ k_)) (by repeat (first | (with_reducible first | exact HK.out | apply Kept.alloc | apply Kept.drewN | apply Kept.drew) | exact HK.out)) hb); replace HB := ka (below_step (kw HB.out) hb); (try clear hb); (try clear hb2); (try clear hk); (try clear hi); (try clear ho0); (try simp only [errW_none, errW_some]); obtain ⟨Ao7, co7, eo7⟩ := Kd.R_slice HO447.out; subst eo7))
  (try simp only [Act.put, List.setIfInBounds_toArray, List.set_cons_zero, List.set_cons_succ])
  go_loopg [24] k (fun kq v24 w' => ∃ (x0_1 : List Int) (x24_1 : Int), v24 = .int .i64 x24_1 ∧ Aside0 (spread_add.l0 kq x0_1 a3 t444 (t444.length : Int) x24_1 = some (r1, r2)) ∧ Aside0 (kq ≤ k) ∧ Aside0 (Kd.R (Kd.int .i64) 2 w' w0.heap.size (fun k_ => (P0_ k_ ∨ w.heap.size ≤ k_) ∧ some k_ ≠ ((.slice Ao7 t444.length co7) : Value).ownBlock) u9000_ x0_1) ∧ Aside0 (Kd.R (Kd.int .i64) 2 w' w0.heap.size (fun k_ => (P0_ k_ ∨ w.heap.size ≤ k_) ∧ some k_ ≠ (u9000_ : Value).ownBlock) (.slice Ao7 t444.length co7) t444) ∧ Aside0 (Kept w w' (fun k_ => P0_ k_)) ∧ Aside0 (Below w0.heap.size w0 w'))
  case atStart => exact ⟨(l0), (0), (by first | rfl | (simp; done) | (simp [*]; done)), H', ⟨Nat.le_refl _⟩, ⟨kr HO0.out⟩, ⟨kr (Kd.R_mono HO447.out (fun _ hk => ⟨hk.1.1, hk.2⟩))⟩, ⟨by repeat (first | (with_reducible first | exact HK.out | apply Kept.alloc | apply Kept.drewN | apply Kept.drew) | exact HK.out)⟩, ⟨by repeat (first | (with_reducible first | exact HB.out | apply kc1 | apply kc2 | apply kc3) | exact HB.out)⟩⟩
  case round =>
   clear H'
   try clear c1
   try clear p2
   try clear q4
   try clear q448
   obtain ⟨x0_1, x24_1, rfl, HA, HK1, HO_0, HO_22, HK, HB⟩ := hrel
   cases gk with
   | zero => exact absurd HA.out (by simp [spread_add.l0])
   | succ k1 =>
    have H := HA.out
    clear HA
    simp only [spread_add.l0] at H
    by_cases c8 : x24_1 < (t444.length : Int)
    ·rw [if_pos c8] at H
     have c8b0 : decide (x24_1 < (t444.length : Int)) = true := decide_eq_true c8
     clear c8
     by_cases c9 : 0 ≤ x24_1
     ·rw [if_pos c9] at H
      have c9b0 : decide (0 ≤ x24_1) = true := decide_eq_true c9
      clear c9
      by_cases c10 : x24_1 < (t444.length : Int)
      ·rw [if_pos c10] at H
       have c10b0 : decide (x24_1 < (t444.length : Int)) = true := decide_eq_true c10
       clear c10
       by_cases c11 : x24_1 < (x0_1.length : Int)
       ·rw [if_pos c11] at H
        have c11b0 : decide (x24_1 < (x0_1.length : Int)) = true := decide_eq_true c11
        clear c11
        obtain ⟨y451, hy451⟩ : ∃ y_ : List Int, y_ = (x0_1.set (x24_1 : Int).toNat (wrap64 ((rd x0_1 x24_1) + (wrap64 (a3 * (rd t444 x24_1)))))) := ⟨_, rfl⟩
        replace H : (spread_add.l0 k1 y451 a3 t444 (t444.length : Int) (wrap64 (x24_1 + 1))) = some (r1, r2) := by first | (rw [hy451]; with_reducible exact H) | (have H2_ := (Option.bind_some _ _).symm.trans H; rw [hy451]; with_reducible exact H2_) | (have H2_ := (Option.bind_some _ _).symm.trans H; with_reducible exact H2_) | with_reducible exact H | (rw [hy451]; exact H) | exact H
        have Ny451 := ka hy451
        clear hy451
        have H' := ka H
        clear H
        have p449 : 0 ≤ (x24_1 : Int) := of_decide_eq_true (by first | (with_reducible assumption) | assumption)
        have q449 : x24_1 < (t444.length : Int) := of_decide_eq_true (by first | (with_reducible assumption) | assumption)
        obtain ⟨ad449, e449, hx449_0⟩ := Kd.at_int (Kd.R_reads' HO_22.out).2.2 x24_1 p449 q449
        cases e449
        replace p449 := eq_true p449
        replace q449 := eq_true q449
        obtain ⟨Ao13, co13, eo13⟩ := Kd.R_slice HO_0.out
        subst eo13
        have p450 : 0 ≤ (x24_1 : Int) := of_decide_eq_true (by first | (with_reducible assumption) | assumption)
        have q450 : x24_1 < (x0_1.length : Int) := of_decide_eq_true (by first | (with_reducible assumption) | assumption)
        obtain ⟨ad450, e450, hx450_0⟩ := Kd.at_int (Kd.R_reads' HO_0.out).2.2 x24_1 p450 q450
        cases e450
        replace p450 := eq_true p450
        replace q450 := eq_true q450
        have p12 : 0 ≤ (x24_1 : Int) := of_decide_eq_true (by first | (with_reducible assumption) | assumption)
        have q12 : (x24_1 : Int) < ((x0_1.length : Int) : Int) := of_decide_eq_true (by first | (with_reducible assumption) | assumption)
        obtain ⟨go12, co12, eo12, gb12, gl12, cl12, HG12⟩ := Kd.R_form HO_0.out (by omega)
        (first | cases eo12 | (injection eo12 with ea_ en_ ec_; (first | subst ea_ | (injection ea_ with ea_; subst ea_)); subst ec_; clear en_))
        have GB12 := ka gb12
        have GG12 := ka HG12
        clear gb12 gl12 HG12
        have HMgo12 := ka (show (P0_ go12 ∨ w.heap.size ≤ go12) from (HO_0.out.1 _ rfl).1)
        (first | simp only [add_plain] at hx450_0 | skip)
        obtain ⟨hx12_0, hf12_0⟩ := Kd.R_celln 0 HO_0.out (x24_1 : Int) p12 q12
        replace p12 := eq_true p12
        replace q12 := eq_true q12
        have HP14 := Kd.R_putg HO_0.out (x24_1 : Int) (wrap64 ((rd x0_1 x24_1) + (wrap64 (a3 * (rd t444 x24_1)))))
        go_wp2_with (first | ((with_reducible refine gate_store (t := 2) (p := 37) rfl ?_); refine store_event (t := 2) (p := 37) (v := ?vo_w15) (w1 := (wr.setCell ⟨go12, (x24_1 : Int).toNat, none⟩ (.int .i64 (wrap64 ((rd x0_1 x24_1) + (wrap64 (a3 * (rd t444 x24_1)))))))) ?hg ?ho ?hn ?hr ?_; (case ho => rfl); (case hg => rfl); (case hn => rfl); (case hr => first | (go_simp; done) | (go_simp; rfl)); intro w15 hw; have hg : wr.grownBy w15 (some go12) := (by rw [hw]; exact HP14.2); have hp_ : Kd.R (Kd.int .i64) 2 w15 w0.heap.size (fun k_ => (P0_ k_ ∨ w.heap.size ≤ k_) ∧ some k_ ≠ (.slice (some ad449) t444.length co7 : Value).ownBlock) (.slice (some ⟨go12, 0, none⟩) x0_1.length co13) y451 := (by rw [hw, Ny451.out]; exact HP14.1); clear HP14; replace HO_22 := ka (Kd.R_after (v := (.slice (some ⟨go12, 0, none⟩) x0_1.length co13)) (v1 := (.slice (some ⟨go12, 0, none⟩) x0_1.length co13)) (ok := (fun k_ => (P0_ k_ ∨ w.heap.size ≤ k_))) (kr HO_22.out) hg (.inl rfl)); replace HB := ka ((by rw [hw]; exact below_set (HB.out) GB12.out : Below w0.heap.size w0 w15)); replace HK := ka (Kept.of_grown (S := (fun k_ => P0_ k_)) hg (by repeat (first | (with_reducible first | exact HK.out | apply Kept.alloc | apply Kept.drewN | apply Kept.drew) | exact HK.out)) (fun k_ e_ => (HO_0.out.1 k_ e_).1)); replace HO_0 := ka (hp_); clear hg hw hp_))
        go_roundg k1
        case measure => have := HK1.out; omega
        case rel => exact ⟨(y451), (wrap64 (x24_1 + 1)), (by first | rfl | (simp; done) | (simp [*]; done)), H', ⟨by have := HK1.out; omega⟩, ⟨kr HO_0.out⟩, ⟨kr HO_22.out⟩, ⟨by repeat (first | (with_reducible first | exact HK.out | apply Kept.alloc | apply Kept.drewN | apply Kept.drew) | exact HK.out)⟩, ⟨by repeat (first | (with_reducible first | exact HB.out | apply kc1 | apply kc2 | apply kc3) | exact HB.out)⟩⟩
       ·rw [if_neg c11] at H
        exact absurd H (by simp)
      ·rw [if_neg c10] at H
       exact absurd H (by simp)
     ·rw [if_neg c9] at H
      exact absurd H (by simp)
    ·rw [if_neg c8] at H
     have c8b0 : decide (x24_1 < (t444.length : Int)) = false := decide_eq_false c8
     clear c8
     simp only [Option.some.injEq, Prod.mk.injEq] at H
     obtain ⟨rfl, rfl⟩ := H
     go_wp2
     go_ret
     exact ⟨by first | rfl | (simp [errW_none, errW_some] <;> rfl) | (simp [*, errW_none, errW_some] <;> rfl), by (with_reducible repeat (first | apply Kd.R_alloc | apply Kd.R_drewN | apply Kd.R_drew)); exact Kd.R_mono HO_0.out (fun _ hk => hk.1), by repeat (first | (with_reducible first | exact HB.out | apply kc1 | apply kc2 | apply kc3) | exact HB.out), by repeat (first | (with_reducible first | exact HK.out | apply Kept.alloc | apply Kept.drewN | apply Kept.drew) | exact HK.out)⟩
 ·have H1 : (some (some q448, l0)) = some (r1, r2) := by rw [if_neg (show ¬ (some q448).isNone = true by simp)] at H; exact H
  clear H
  have H := H1
  clear H1
  try simp only [errW_none, errW_some]
  simp only [Option.some.injEq, Prod.mk.injEq] at H
  obtain ⟨rfl, rfl⟩ := H
  go_enter Try.func15, Try.ntmps15
  go_wp2_with (first | ((with_reducible refine gate_callee (f := 18) rfl ?_); refine kg (some 16) rfl rfl Try.func18 (by kernel_rfl) rfl #[.int .i64 a1, .int .i64 a2] rfl ?_; (with_reducible refine (split_Even.calls k a1 a2 t444 (some q448) _ A5.out).mono ?_); rintro e w16 ⟨v446, rfl, ho0, hb⟩; refine ⟨_, rfl, ?_⟩; have HO447 := ka (Kd.R_lower (Kd.R_new' (Kd.R_newM (M := fun k_ => (P0_ k_ ∨ w.heap.size ≤ k_)) ho0 (by first | exact HK.out.1 | exact (show Kept w _ (fun k_ => P0_ k_) from by repeat (first | (with_reducible first | exact HK.out | apply Kept.alloc | apply Kept.drewN | apply Kept.drew) | exact HK.out)).1) (fun k_ h_ => .inr h_)) (Kd.R_lt (kr HO0.out))) (below_size (kw HB.out))); replace HO0 := ka (Kd.R_elder' (kr HO0.out) (Kd.R_base ho0) hb); replace HK := ka (Kept.below (S := (fun k_ => P0_ k_)) (by repeat (first | (with_reducible first | exact HK.out | apply Kept.alloc | apply Kept.drewN | apply Kept.drew) | exact HK.out)) hb); replace HB := ka (below_step (kw HB.out) hb); (try clear hb); (try clear hb2); (try clear hk); (try clear hi); (try clear ho0); (try simp only [errW_none, errW_some])))
  go_ret
  exact ⟨by first | rfl | (simp [errW_none, errW_some] <;> rfl) | (simp [*, errW_none, errW_some] <;> rfl), by (with_reducible repeat (first | apply Kd.R_alloc | apply Kd.R_drewN | apply Kd.R_drew)); exact Kd.R_mono HO0.out (fun _ hk => hk.1), by repeat (first | (with_reducible first | exact HB.out | apply kc1 | apply kc2 | apply kc3) | exact HB.out), by repeat (first | (with_reducible first | exact HK.out | apply Kept.alloc | apply Kept.drewN | apply Kept.drew) | exact HK.out)⟩

/-! ### spread_add: function 15, its laws -/
/-- twelve months' numbers -/
def Spr.mk (g : Nat → Int) : List Int := (List.range 12).map g
theorem Spr.len (g : Nat → Int) : (Spr.mk g).length = 12 := by simp [Spr.mk]
theorem Spr.at_ (g : Nat → Int) (j : Nat) (h : j < 12) : rd (Spr.mk g) (j : Int) = g j := by
 simp [rd, Spr.mk, List.getD_eq_getElem?_getD, h]
theorem Spr.ext {g h : Nat → Int} (e : ∀ j, j < 12 → g j = h j) : Spr.mk g = Spr.mk h := List.map_congr_left (fun j hj => e j (List.mem_range.mp hj))
theorem Spr.set_ (g : Nat → Int) (i : Nat) (v : Int) (h : i < 12) : (Spr.mk g).set (i : Int).toNat v = Spr.mk (fun j => if j = i then v else g j) := by
 rw [Int.toNat_natCast]
 apply List.ext_getElem
 ·simp [Spr.mk]
 ·intro j h1 h2
  simp only [Spr.mk, List.getElem_set, List.getElem_map, List.getElem_range]
  by_cases c : i = j
  ·rw [if_pos c, if_pos c.symm]
  ·rw [if_neg c, if_neg (fun h => c h.symm)]
theorem Spr.zero : (List.replicate 12 0 : List Int) = Spr.mk (fun _ => 0) := by rfl
/-- the share of month j -/
def Spr.ev (a n : Int) (j : Nat) : Int := if (j : Int) < n then a / n + (if (j : Int) < a % n then 1 else 0) else 0
theorem Spr.ev_in {a n : Int} (ha : 0 ≤ a ∧ a ≤ 10000000000000) (hn : 1 ≤ n) (j : Nat) : 0 ≤ Spr.ev a n j ∧ Spr.ev a n j ≤ 10000000000001 := by
 unfold Spr.ev
 have q0 : 0 ≤ a / n := Int.ediv_nonneg ha.1 (by omega)
 have q1 : a / n ≤ a := Int.ediv_le_self _ ha.1
 split <;> (try split) <;> omega
theorem spread_add.loop (p : Nat) : ∀ (k i n : Nat) (g h : Nat → Int) (s : Int) (q : List Int), n = i + p → n ≤ 12 → q.length = n → p < k → (∀ j, i ≤ j → -1000000000000000 ≤ g j ∧ g j ≤ 1000000000000000) →
  (∀ j : Nat, j < n → rd q (j : Int) = h j) → (∀ j, 0 ≤ h j ∧ h j ≤ 100000000000000) → s = 1 ∨ s = -1 →
  spread_add.l0 k (Spr.mk g) s q (n : Int) (i : Int) = some (none, Spr.mk fun j => if i ≤ j ∧ j < n then g j + s * h j else g j) := by
 induction p with
 | zero =>
  intro k i n g h s q hn hn2 hq hk hg hr hh hs
  obtain ⟨j, rfl⟩ : ∃ j, k = j + 1 := ⟨k - 1, by omega⟩
  simp only [spread_add.l0]
  rw [if_neg (by omega)]
  congr 2
  exact Spr.ext (fun j hj => (if_neg (by omega)).symm)
 | succ p ih =>
  intro k i n g h s q hn hn2 hq hk hg hr hh hs
  obtain ⟨j, rfl⟩ : ∃ j, k = j + 1 := ⟨k - 1, by omega⟩
  have gi := hg i (Nat.le_refl _)
  have hi := hh i
  have hsv : -100000000000000 ≤ s * h i ∧ s * h i ≤ 100000000000000 := by rcases hs with rfl | rfl <;> omega
  simp only [spread_add.l0]
  rw [if_pos (by omega), if_pos (by omega), if_pos (by omega), if_pos (by rw [Spr.len]; omega), Spr.at_ g i (by omega), hr i (by omega), M.w64_id (n := s * h i) (by omega) (by omega), M.w64_id (n := g i + s * h i) (by omega) (by omega), M.w64_id (n := (i : Int) + 1) (by omega) (by omega), Spr.set_ g i _ (by omega)]
  rw [show (i : Int) + 1 = ((i + 1 : Nat) : Int) by omega, ih j (i + 1) n _ h s q (by omega) hn2 hq (by omega) (by
   intro j' hj'
   rw [if_neg (by omega)]
   exact hg j' (by omega)) hr hh hs]
  congr 2
  refine Spr.ext (fun j' hj' => ?_)
  by_cases c : j' = i
  ·subst c
   rw [if_neg (by omega), if_pos rfl, if_pos (by omega)]
  ·rw [if_neg c]
   by_cases d : i + 1 ≤ j' ∧ j' < n
   ·rw [if_pos d, if_pos (by omega)]
   ·rw [if_neg d, if_neg (by omega)]
theorem spread_add.num (k : Nat) (a s : Int) (n : Nat) (g : Nat → Int) (ha : 0 ≤ a ∧ a ≤ 10000000000000) (hn : 1 ≤ n ∧ n ≤ 12) (hs : s = 1 ∨ s = -1) (hg : ∀ j, -1000000000000000 ≤ g j ∧ g j ≤ 1000000000000000) (hk : 2001 ≤ k) :
  spread_add.f k (Spr.mk g) a (n : Int) s = some (none, Spr.mk fun j => g j + s * Spr.ev a n j) := by
 have hm := Evn.may (a := a) (n := n) ha (by omega)
 have e : Shr.res a (List.replicate n 1) = (Shr.sh a (List.replicate n 1), none) := by unfold Shr.res; rw [if_pos hm]
 have hlen : (Shr.sh a (List.replicate n 1)).length = n := by
  have := Shr.res_len a (List.replicate n 1)
  rw [e, if_pos hm] at this
  simpa using this
 have hE : split_Even.f k a (n : Int) = some (Shr.sh a (List.replicate n 1), none) := by
  rw [split_Even.num k a n ⟨by omega, by omega⟩ ⟨by omega, by omega⟩ hk, if_pos (by omega), Int.toNat_natCast, e]
 unfold spread_add.f
 rw [hE, Option.bind_some]
 dsimp only
 rw [if_pos (by rfl), hlen]
 have := spread_add.loop n k 0 n g (fun j => Spr.ev a n j) s _ (by omega) hn.2 hlen (by omega) (fun j _ => hg j) (by
  intro j hj
  rw [Evn.get ha (by omega) j hj]
  unfold Spr.ev
  rw [if_pos (show (j : Int) < (n : Int) by omega)]) (by
  intro j
  have := Spr.ev_in ha (show (1 : Int) ≤ n by omega) j
  omega) hs
 rw [show ((0 : Nat) : Int) = 0 from rfl] at this
 rw [this]
 congr 2
 refine Spr.ext (fun j hj => ?_)
 by_cases c : j < n
 ·rw [if_pos ⟨by omega, c⟩]
 ·rw [if_neg (fun h => c h.2), show Spr.ev a n j = 0 by unfold Spr.ev; rw [if_neg (by omega)]]
  omega

end Go.Proofs.Ytjeghhheenenbaa.P
