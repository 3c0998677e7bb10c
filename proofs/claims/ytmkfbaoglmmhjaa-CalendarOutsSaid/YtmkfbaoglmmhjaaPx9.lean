-- Written by a program of this session out of the translation of the seat: Lean functions and the proofs that the Go functions come to them.
import Derived.Test.YtmkfbaoglmmhjaaPx0
import Derived.Test.YtmkfbaoglmmhjaaPx5
import Derived.Test.YtmkfbaoglmmhjaaPx6
import Derived.Test.YtmkfbaoglmmhjaaPx8
namespace Go.Proofs.Ytmkfbaoglmmhjaa.P
open Go.RowKit Go.Proofs.YtmkfbaoglmmhjaaW.PrintWords Go.Proofs.YtmkfbaoglmmhjaaW.PrintLast Go.Proofs.YtmkfbaoglmmhjaaW.PrintMore
attribute [local go_sem] max2_int min2_int max_two min_two max_three min_three max_four min_four   -- for this text's walks alone
set_option linter.unusedVariables false
set_option linter.unusedSimpArgs false

/-! ### trivetref14_Outs: function 18 -/
mutual
def trivetref14_Outs.l0 : Nat → List (S48) → Int → List (S45) → Int → Int → Int → Int → Option ((List (S45)))
 | 0, _, _, _, _, _, _, _ => none
 | k + 1, x0, x2, x7, x10, x497000, x497001, x497002 => if x10 < x2 then (trivetref14_Outs.l1 k x0 x2 x7 x10 0 x497000 x497001 x497002) else (some x7)
def trivetref14_Outs.l1 : Nat → List (S48) → Int → List (S45) → Int → Int → Int → Int → Int → Option ((List (S45)))
 | 0, _, _, _, _, _, _, _, _ => none
 | k + 1, x0, x2, x7, x10, x11, x497000, x497001, x497002 => if x11 < (x0.length : Int) then (if 0 ≤ x11 then ((trivetref14_paid.f ((rd_T48 x0 x11).f0) ((rd_T48 x0 x11).f1) ((rd_T48 x0 x11).f2) x497000 x497001 x497002).bind fun t498 => (if t498 = true then (if x7.length < 5864062014805 then (trivetref14_Outs.l1 k x0 x2 (x7 ++ [(⟨x10, x11, (rd_T48 x0 x11).f2⟩ : S45)]) x10 (wrap64 (x11 + 1)) x497000 x497001 x497002) else (none)) else (trivetref14_Outs.l1 k x0 x2 x7 x10 (wrap64 (x11 + 1)) x497000 x497001 x497002))) else (none)) else ((trivetref04_Days_s.f x497000 x497001).bind fun t503 => (if (wrap64 (x497002 + 1)) > t503 then (if (wrap64 (x497001 + 1)) > 12 then (trivetref14_Outs.l0 k x0 x2 x7 (wrap64 (x10 + 1)) (wrap64 (x497000 + 1)) 1 1) else (trivetref14_Outs.l0 k x0 x2 x7 (wrap64 (x10 + 1)) x497000 (wrap64 (x497001 + 1)) 1)) else (if x497001 > 12 then (trivetref14_Outs.l0 k x0 x2 x7 (wrap64 (x10 + 1)) (wrap64 (x497000 + 1)) 1 (wrap64 (x497002 + 1))) else (trivetref14_Outs.l0 k x0 x2 x7 (wrap64 (x10 + 1)) x497000 x497001 (wrap64 (x497002 + 1))))))
end
def trivetref14_Outs.f (k : Nat) (l0 : List (S48)) (a1 : Int) (a2 : Int) : Option ((List (S45))) := (trivetref04_Of_s.f a1).bind fun bt492 => (trivetref14_Outs.l0 k l0 a2 ([] : List (S45)) a1 bt492.1 bt492.2.1 bt492.2.2.1)
theorem trivetref14_Outs.mono_l : ∀ k, (∀ y0 y1 y2 y3 y4 y5 y6, LeO (trivetref14_Outs.l0 k y0 y1 y2 y3 y4 y5 y6) (trivetref14_Outs.l0 (k + 1) y0 y1 y2 y3 y4 y5 y6)) ∧ (∀ y0 y1 y2 y3 y4 y5 y6 y7, LeO (trivetref14_Outs.l1 k y0 y1 y2 y3 y4 y5 y6 y7) (trivetref14_Outs.l1 (k + 1) y0 y1 y2 y3 y4 y5 y6 y7))
 | 0 => ⟨fun _ _ _ _ _ _ _ r h => by simp [trivetref14_Outs.l0] at h, fun _ _ _ _ _ _ _ _ r h => by simp [trivetref14_Outs.l1] at h⟩
 | k + 1 => by
  obtain ⟨ih0, ih1⟩ := trivetref14_Outs.mono_l k
  refine ⟨?_, ?_⟩
  ·intro y0 y1 y2 y3 y4 y5 y6
   unfold trivetref14_Outs.l0
   repeat' first
   | (with_reducible exact ih0 _ _ _ _ _ _ _)
   | (with_reducible exact ih1 _ _ _ _ _ _ _ _)
   | (with_reducible exact LeO.refl _)
   | (with_reducible exact LeO.none _)
   | (with_reducible refine LeO.ite ?_ ?_)
   | (with_reducible refine LeO.bind ?_ (fun _ => ?_))
   | exact ih0 _ _ _ _ _ _ _
   | exact ih1 _ _ _ _ _ _ _ _
   | exact LeO.none _
   | refine LeO.ite ?_ ?_
   | refine LeO.bind ?_ (fun _ => ?_)
  ·intro y0 y1 y2 y3 y4 y5 y6 y7
   unfold trivetref14_Outs.l1
   repeat' first
   | (with_reducible exact ih0 _ _ _ _ _ _ _)
   | (with_reducible exact ih1 _ _ _ _ _ _ _ _)
   | (with_reducible exact LeO.refl _)
   | (with_reducible exact LeO.none _)
   | (with_reducible refine LeO.ite ?_ ?_)
   | (with_reducible refine LeO.bind ?_ (fun _ => ?_))
   | exact ih0 _ _ _ _ _ _ _
   | exact ih1 _ _ _ _ _ _ _ _
   | exact LeO.none _
   | refine LeO.ite ?_ ?_
   | refine LeO.bind ?_ (fun _ => ?_)
theorem trivetref14_Outs.mono : ∀ a0 a1 a2 k, LeO (trivetref14_Outs.f k a0 a1 a2) (trivetref14_Outs.f (k + 1) a0 a1 a2) := by
 intro a0 a1 a2 k
 obtain ⟨ih0, ih1⟩ := trivetref14_Outs.mono_l k
 unfold trivetref14_Outs.f
 repeat' first
   | (with_reducible exact ih0 _ _ _ _ _ _ _)
   | (with_reducible exact ih1 _ _ _ _ _ _ _ _)
   | (with_reducible exact LeO.refl _)
   | (with_reducible exact LeO.none _)
   | (with_reducible refine LeO.ite ?_ ?_)
   | (with_reducible refine LeO.bind ?_ (fun _ => ?_))
   | exact ih0 _ _ _ _ _ _ _
   | exact ih1 _ _ _ _ _ _ _ _
   | exact LeO.none _
   | refine LeO.ite ?_ ?_
   | refine LeO.bind ?_ (fun _ => ?_)
def trivetref14_Outs.T13 : Bool × List (List Nat × List Nat) := (true, [([], []), ([0], [0]), ([], []), ([2], [2]), ([], []), ([4], [4]), ([3, 5], [3, 5]), ([1, 6], [1, 6])])
def trivetref14_Outs.B13 : List Nat := [0, 1, 0, 4, 0, 16, 60, 127]
theorem trivetref14_Outs.tab13 : rtab .any (opsOf Try.f18 13) = trivetref14_Outs.T13 := by kernel_rfl
theorem trivetref14_Outs.bits13 : waitsOk trivetref14_Outs.T13.2 trivetref14_Outs.B13 = true := by kernel_rfl
set_option maxHeartbeats 8000000 in
set_option maxRecDepth 100000 in
theorem trivetref14_Outs.calls (k : Nat) (A0 : Option Addr) (c0 : Nat) (l0 : List (S48)) (a1 : Int) (a2 : Int) (r : List (S45)) (w : World) (hr0 : Kd.C k48 w A0 l0.length l0) (hc0 : l0.length ≤ c0) (h : trivetref14_Outs.f k l0 a1 a2 = some r) :
  Calls Try.prog 18 #[.slice A0 l0.length c0, .int .i64 a1, .int .i64 a2] w fun e w' => ∃ v0_ : Value, e = .returned (v0_) ∧ Kd.R k45 45 w' w.heap.size (fun _ => True) v0_ r ∧ Below w.heap.size w w' := by
 have hu30 := Try.underlying30
 have hu48 := Try.underlying48
 have hu45 := Try.underlying45
 have HR0 := ka hr0
 have HC0 := ka hc0
 clear hr0 hc0
 have HB := ka (Below.refl w.heap.size w)
 have H : ((trivetref04_Of_s.f a1).bind fun bt492 => (trivetref14_Outs.l0 k l0 a2 ([] : List (S45)) a1 bt492.1 bt492.2.1 bt492.2.2.1)) = some r := h
 clear h
 replace H := Option.bind_eq_some_iff.mp H
 obtain ⟨⟨t492, t493, t494, t495⟩, A40, H⟩ := H
 replace H : (trivetref14_Outs.l0 k l0 a2 ([] : List (S45)) a1 t492 t493 t494) = some r := H
 have A4 := ka A40
 clear A40
 have H' := ka H
 clear H
 go_enter Try.func18, Try.ntmps18
 go_wp2_with (first | ((with_reducible refine gate_callee (f := 11) rfl ?_); refine kg (some 15) rfl rfl Try.func11 (by kernel_rfl) rfl #[.int .i64 a1] rfl ?_; (with_reducible refine (trivetref04_Of_s.calls a1 t492 t493 t494 t495 _ A4.out).mono ?_); rintro e w5 ⟨rfl, hb⟩; refine ⟨_, rfl, ?_⟩; replace HB := ka (below_step (kw HB.out) hb); (try clear hb); (try clear hb2); (try clear hk); (try clear hi)) | ((with_reducible refine gate_dst (N := 8) rfl ?_); refine kx (N := 8) (cs := #[.int .i64 0, .int .i64 0, .int .i64 0]) (t := 30) ?_; intro gb496 hg w6 hbox hb; have n0_ := ka (below_step (kw HB.out) hb); have n1_ := ka (hbox); have n2_ := ka ((by rw [hg]; exact (below_size (kw HB.out)) : w.heap.size ≤ gb496)); have n3_ := n2_; clear HB; have HB := n0_; have BK496 := n1_; have GW496 := n2_; have GE496 := n3_; clear n0_ n1_ n2_ n3_; clear hb hbox hg; have hcz7 := blkAll3 BK496.out))
 (try simp only [Act.put, List.setIfInBounds_toArray, List.set_cons_zero, List.set_cons_succ])
 go_loopg [7, 10] k (fun kq v7 v10 w' => ∃ (x7_1 : List (S45)) (x10_1 : Int) (x497000_1 : Int) (x497001_1 : Int) (x497002_1 : Int), v10 = .int .i64 x10_1 ∧ Aside0 (trivetref14_Outs.l0 kq l0 a2 x7_1 x10_1 x497000_1 x497001_1 x497002_1 = some r) ∧ Aside0 (kq ≤ k) ∧ Aside0 (Kd.R k45 45 w' w.heap.size (fun _ => True) v7 x7_1) ∧ Aside0 (w'.heap[gb496]? = some (.cells #[.int .i64 x497000_1, .int .i64 x497001_1, .int .i64 x497002_1] 30 (0, 0))) ∧ Aside0 (Below w.heap.size w w'))
 case atStart => exact ⟨(([] : List (S45))), (a1), (t492), (t493), (t494), (by first | rfl | (simp; done) | (simp [*]; done)), H', ⟨Nat.le_refl _⟩, ⟨by first | exact Kd.R_nil _ _ _ _ _ | exact Kd.N_nil _ _ _ _ _ | exact Kd.V_nil _ _ _ _ _ | exact Kd.Q_nil _ _ _ _ _ | exact Kd.S_nil _ _ _ _ _⟩, ⟨by (with_reducible repeat (first | apply kb1 | apply kb2 | apply kb3 | apply blkPut3_2 | apply blkPut3_1 | apply blkPut3_0)); exact BK496.out⟩, ⟨by repeat (first | (with_reducible first | exact HB.out | apply kc1 | apply kc2 | apply kc3 | refine kc4 ?_ GE496.out) | exact HB.out)⟩⟩
 case round =>
  clear H'
  try clear c1
  try clear p2
  try clear hcz7
  obtain ⟨x7_1, x10_1, x497000_1, x497001_1, x497002_1, rfl, HA, HK1, HO_7, BK496, HB⟩ := hrel
  cases gk with
  | zero => exact absurd HA.out (by simp [trivetref14_Outs.l0])
  | succ k1 =>
   have H := HA.out
   clear HA
   simp only [trivetref14_Outs.l0] at H
   by_cases c8 : x10_1 < a2
   ·rw [if_pos c8] at H
    have c8b0 : decide (x10_1 < a2) = true := decide_eq_true c8
    clear c8
    have H' := ka H
    clear H
    go_wp2
    (try simp only [Act.put, List.setIfInBounds_toArray, List.set_cons_zero, List.set_cons_succ])
    go_loopg [7, 11] k1 (fun kq v7 v11 w' => ∃ (x7_2 : List (S45)) (x11_2 : Int), v11 = .int .i64 x11_2 ∧ Aside0 (trivetref14_Outs.l1 kq l0 a2 x7_2 x10_1 x11_2 x497000_1 x497001_1 x497002_1 = some r) ∧ Aside0 (kq ≤ k1) ∧ Aside0 (Kd.R k45 45 w' w.heap.size (fun _ => True) v7 x7_2) ∧ Aside0 (w'.heap[gb496]? = some (.cells #[.int .i64 x497000_1, .int .i64 x497001_1, .int .i64 x497002_1] 30 (0, 0))) ∧ Aside0 (Below w.heap.size w w'))
    case atStart => exact ⟨(x7_1), (0), (by first | rfl | (simp; done) | (simp [*]; done)), H', ⟨Nat.le_refl _⟩, ⟨kr HO_7.out⟩, ⟨by (with_reducible repeat (first | apply kb1 | apply kb2 | apply kb3)); exact BK496.out⟩, ⟨by repeat (first | (with_reducible first | exact HB.out | apply kc1 | apply kc2 | apply kc3 | refine kc4 ?_ GE496.out) | exact HB.out)⟩⟩
    case round =>
     clear H'
     try clear c1
     try clear p2
     try clear c8
     try clear c8b0
     try clear hcz7
     try clear p2
     obtain ⟨x7_2, x11_2, rfl, HA, HK2, HO_7, BK496, HB⟩ := hrel
     cases gk with
     | zero => exact absurd HA.out (by simp [trivetref14_Outs.l1])
     | succ k2 =>
      have H := HA.out
      clear HA
      simp only [trivetref14_Outs.l1] at H
      by_cases c9 : x11_2 < (l0.length : Int)
      ·rw [if_pos c9] at H
       have c9b0 : decide (x11_2 < (l0.length : Int)) = true := decide_eq_true c9
       clear c9
       by_cases c10 : 0 ≤ x11_2
       ·rw [if_pos c10] at H
        have c10b0 : decide (0 ≤ x11_2) = true := decide_eq_true c10
        clear c10
        replace H := Option.bind_eq_some_iff.mp H
        obtain ⟨t498, A110, H⟩ := H
        replace H : (if t498 = true then (if x7_2.length < 5864062014805 then (trivetref14_Outs.l1 k2 l0 a2 (x7_2 ++ [(⟨x10_1, x11_2, (rd_T48 l0 x11_2).f2⟩ : S45)]) x10_1 (wrap64 (x11_2 + 1)) x497000_1 x497001_1 x497002_1) else (none)) else (trivetref14_Outs.l1 k2 l0 a2 x7_2 x10_1 (wrap64 (x11_2 + 1)) x497000_1 x497001_1 x497002_1)) = some r := H
        have A11 := ka A110
        clear A110
        by_cases c12 : t498 = true
        ·subst c12
         have H1 : (if x7_2.length < 5864062014805 then (trivetref14_Outs.l1 k2 l0 a2 (x7_2 ++ [(⟨x10_1, x11_2, (rd_T48 l0 x11_2).f2⟩ : S45)]) x10_1 (wrap64 (x11_2 + 1)) x497000_1 x497001_1 x497002_1) else (none)) = some r := by rw [if_pos rfl] at H; exact H
         clear H
         have H := H1
         clear H1
         by_cases c13 : x7_2.length < 5864062014805
         ·rw [if_pos c13] at H
          have LMc13 := ka c13
          clear c13
          obtain ⟨y500, hy500⟩ : ∃ y_ : List (S45), y_ = (x7_2 ++ [(⟨x10_1, x11_2, (rd_T48 l0 x11_2).f2⟩ : S45)]) := ⟨_, rfl⟩
          replace H : (trivetref14_Outs.l1 k2 l0 a2 y500 x10_1 (wrap64 (x11_2 + 1)) x497000_1 x497001_1 x497002_1) = some r := by first | (rw [hy500]; with_reducible exact H) | (have H2_ := (Option.bind_some _ _).symm.trans H; rw [hy500]; with_reducible exact H2_) | (have H2_ := (Option.bind_some _ _).symm.trans H; with_reducible exact H2_) | with_reducible exact H | (rw [hy500]; exact H) | exact H
          have Ny500 := ka hy500
          clear hy500
          have H' := ka H
          clear H
          try go_wp2
          replace HO_7 := ka (Kd.R_drew HO_7.out)
          replace BK496 := ka (blk_drew BK496.out)
          replace HB := ka (below_drew1 HB.out)
          have p497 : 0 ≤ (x11_2 : Int) := of_decide_eq_true (by first | (with_reducible assumption) | assumption)
          have q497 : x11_2 < (l0.length : Int) := of_decide_eq_true (by first | (with_reducible assumption) | assumption)
          obtain ⟨ad497, e497, hx497_0, hx497_1, hx497_2⟩ := at_T48 HR0.out x11_2 p497 q497
          have hw497_2 := hx497_2
          have hw497_1 := hx497_1
          have hw497_0 := hx497_0
          cases e497
          replace hx497_0 := (HB.out.cell (World.block_lt_of_cell? w _ hx497_0)).trans hx497_0
          replace hx497_1 := (HB.out.cell (World.block_lt_of_cell? w _ hx497_1)).trans hx497_1
          replace hx497_2 := (HB.out.cell (World.block_lt_of_cell? w _ hx497_2)).trans hx497_2
          replace p497 := eq_true p497
          replace q497 := eq_true q497
          refine start_ (n := 7) (S := fun w' => w'.cell? ⟨gb496, 0, none⟩ = some (.int .i64 x497000_1) ∧ w'.cell? ⟨gb496, 1, none⟩ = some (.int .i64 x497001_1) ∧ w'.cell? ⟨gb496, 2, none⟩ = some (.int .i64 x497002_1) ∧ w'.cell? (ad497.add ((x11_2).toNat * 3)) = some (.int .i64 ((rd_T48 l0 x11_2).f0)) ∧ w'.cell? ⟨(ad497.add ((x11_2).toNat * 3)).block, (ad497.add ((x11_2).toNat * 3)).off + 1, none⟩ = some (.int .i64 ((rd_T48 l0 x11_2).f1)) ∧ w'.cell? ⟨(ad497.add ((x11_2).toNat * 3)).block, (ad497.add ((x11_2).toNat * 3)).off + 2, none⟩ = some (.int .i64 ((rd_T48 l0 x11_2).f2))) (ds := []) #[false, false, false, false, false, false, false] (by kernel_rfl) rfl rfl ⟨(blk_cell BK496.out 0).trans rfl, (blk_cell BK496.out 1).trans rfl, (blk_cell BK496.out 2).trans rfl, ((HB.out.cell (World.block_lt_of_cell? w _ hw497_0)).trans hw497_0), ((HB.out.cell (World.block_lt_of_cell? w _ hw497_1)).trans hw497_1), ((HB.out.cell (World.block_lt_of_cell? w _ hw497_2)).trans hw497_2)⟩ (fun hHeld => ?_)
          generalize wr.drew = w14 at HO_7 BK496 HB hx497_0 hx497_1 hx497_2 hHeld ⊢
          refine pure_ (i := 0) (N := some 30) (v := ?_) (a' := ?_) #[true, false, false, false, false, false, false] rfl rfl (by kernel_rfl) (fun _ _ _ h => h) (Or.inl ⟨by rfl, ?_⟩) ?_ ?_
          rotate_left
          ·intro w'
           go_simp
           with_reducible rfl
          rotate_left
          ·simp only [Act.put, List.setIfInBounds_toArray, List.set_cons_zero, List.set_cons_succ, i64_w, i32_w]
           rfl
          refine pure_ (i := 1) (N := some 31) (v := ?_) (a' := ?_) #[true, true, false, false, false, false, false] rfl rfl (by kernel_rfl) (fun _ _ _ h => h) (Or.inl ⟨by rfl, ?_⟩) ?_ ?_
          rotate_left
          ·intro w'
           go_simp
           with_reducible rfl
          rotate_left
          ·simp only [Act.put, List.setIfInBounds_toArray, List.set_cons_zero, List.set_cons_succ, i64_w, i32_w]
           rfl
          refine pure_ (i := 2) (N := some 32) (v := ?_) (a' := ?_) #[true, true, true, false, false, false, false] rfl rfl (by kernel_rfl) (fun _ _ _ h => h) (Or.inl ⟨by rfl, ?_⟩) ?_ ?_
          rotate_left
          ·intro w'
           go_simp
           with_reducible rfl
          rotate_left
          ·simp only [Act.put, List.setIfInBounds_toArray, List.set_cons_zero, List.set_cons_succ, i64_w, i32_w]
           rfl
          refine take_ (i := 3) (N := some 33) (v := ?_) (a' := ?_) #[true, true, true, true, false, false, false] rfl rfl (by kernel_rfl) (fun _ _ _ h => h) (Or.inl ⟨by rfl, ?_⟩) hHeld ?_ ?_
          rotate_left
          ·rintro w' ⟨s0, s1, s2, s3, s4, s5⟩
           go_simp
           with_reducible rfl
          rotate_left
          ·simp only [Act.put, List.setIfInBounds_toArray, List.set_cons_zero, List.set_cons_succ, i64_w, i32_w]
           rfl
          refine take_ (i := 4) (N := some 34) (v := ?_) (a' := ?_) #[true, true, true, true, true, false, false] rfl rfl (by kernel_rfl) (fun _ _ _ h => h) (Or.inl ⟨by rfl, ?_⟩) hHeld ?_ ?_
          rotate_left
          ·rintro w' ⟨s0, s1, s2, s3, s4, s5⟩
           go_simp
           with_reducible rfl
          rotate_left
          ·simp only [Act.put, List.setIfInBounds_toArray, List.set_cons_zero, List.set_cons_succ, i64_w, i32_w]
           rfl
          refine one_ (i := 5) (N := some 35) #[true, true, true, true, true, true, false] rfl rfl (by kernel_rfl) (by decide) (fun K hK => ?_)
          refine goes_ Try.func31 (by kernel_rfl) rfl #[.agg #[.int .i64 ((rd_T48 l0 x11_2).f0), .int .i64 ((rd_T48 l0 x11_2).f1), .int .i64 ((rd_T48 l0 x11_2).f2)], .agg #[.int .i64 x497000_1, .int .i64 x497001_1, .int .i64 x497002_1]] (by rfl) rfl rfl (by (try simp only [List.map_toArray, List.map_cons, List.map_nil]); first | done | rfl | (simp only [List.length_drop, List.length_take]; rfl)) ?_
          with_reducible refine (trivetref14_paid.calls ((rd_T48 l0 x11_2).f0) ((rd_T48 l0 x11_2).f1) ((rd_T48 l0 x11_2).f2) x497000_1 x497001_1 x497002_1 true _ A11.out).mono ?_
          rintro e w15 ⟨rfl, hb⟩
          refine ⟨_, rfl, ?_⟩
          replace HO_7 := ka (Kd.R_below (kr HO_7.out) hb)
          replace BK496 := kbb BK496 hb
          replace HB := ka (below_step (kw HB.out) hb)
          (try clear hb)
          (try clear hb2)
          (try clear hk)
          (try clear hi)
          refine hK.out _ _ ⟨(blk_cell BK496.out 0).trans rfl, (blk_cell BK496.out 1).trans rfl, (blk_cell BK496.out 2).trans rfl, ((HB.out.cell (World.block_lt_of_cell? w _ hw497_0)).trans hw497_0), ((HB.out.cell (World.block_lt_of_cell? w _ hw497_1)).trans hw497_1), ((HB.out.cell (World.block_lt_of_cell? w _ hw497_2)).trans hw497_2)⟩ (fun hHeld => ?_)
          clear hK K
          refine norm_ (a' := ?_) ?_ ?_
          rotate_left
          ·show Act.put _ (some 35) _ = _
           simp only [Act.put, List.setIfInBounds_toArray, List.set_cons_zero, List.set_cons_succ, i64_w, i32_w]
           rfl
          refine pure_ (i := 6) (N := some 12) (v := ?_) (a' := ?_) #[true, true, true, true, true, true, true] rfl rfl (by kernel_rfl) (fun _ _ _ h => h) (Or.inl ⟨by rfl, ?_⟩) ?_ ?_
          rotate_left
          ·intro w'
           go_simp
           with_reducible rfl
          rotate_left
          ·simp only [Act.put, List.setIfInBounds_toArray, List.set_cons_zero, List.set_cons_succ, i64_w, i32_w]
           rfl
          refine done_ (by kernel_rfl) ?_
          have p499 : 0 ≤ (x11_2 : Int) := of_decide_eq_true (by first | (with_reducible assumption) | assumption)
          have q499 : x11_2 < (l0.length : Int) := of_decide_eq_true (by first | (with_reducible assumption) | assumption)
          obtain ⟨ad499, e499, hx499_0, hx499_1, hx499_2⟩ := at_T48 HR0.out x11_2 p499 q499
          obtain rfl : ad497 = ad499 := (by injection e499)
          replace hx499_0 := (HB.out.cell (World.block_lt_of_cell? w _ hx499_0)).trans hx499_0
          replace hx499_1 := (HB.out.cell (World.block_lt_of_cell? w _ hx499_1)).trans hx499_1
          replace hx499_2 := (HB.out.cell (World.block_lt_of_cell? w _ hx499_2)).trans hx499_2
          replace p499 := eq_true p499
          replace q499 := eq_true q499
          try go_wp2_with (first | ((with_reducible refine gate_builtin (b := .append) (xs := #[.tmp 37, .tmp 46]) rfl ?_); at_builtin; refine Kd.R_append k45 (w0 := w) w.heap.size rfl (.tmp 37) (.tmp 46) 40 45 (.agg #[(.int .i64 0), (.int .i64 0), (.int .i64 0)]) 24 rfl Try.underlying40 info45 rfl (by decide) (by omega) u7 x7_2 (⟨x10_1, x11_2, (rd_T48 l0 x11_2).f2⟩ : S45) [.int .i64 x10_1, .int .i64 x11_2, .int .i64 ((rd_T48 l0 x11_2).f2)] (fun _ => True) (fun _ => False) rfl rfl ?aP (fun _ hk => hk.elim) ?aF ?aO ?aB ?aS ?aL ?_; (case aP => exact k45_mkM _ _ _ (⟨x10_1, x11_2, (rd_T48 l0 x11_2).f2⟩ : S45)); (case aB => exact (kw HB.out)); (case aF => exact (fun _ _ => trivial)); (case aO => exact (kr HO_7.out)); (case aS => exact (below_size (kw HB.out))); (case aL => have := LMc13.out; omega); intro v501 w16 ho hb hg hat; rw [← Ny500.out] at ho; replace BK496 := ka (blk_grown (g := gb496) (kz BK496.out) hg (Kd.R_ne HO_7.out BK496.out (by decide))); replace HB := ka (hb); have HO502 := ka (ho); clear HO_7; clear ho hb hg hat))
          go_roundg k2
          case measure => have := HK1.out; have := HK2.out; omega
          case rel => exact ⟨(y500), (wrap64 (x11_2 + 1)), (by first | rfl | (simp; done) | (simp [*]; done)), H', ⟨by have := HK1.out; have := HK2.out; omega⟩, ⟨kr HO502.out⟩, ⟨by (with_reducible repeat (first | apply kb1 | apply kb2 | apply kb3)); exact BK496.out⟩, ⟨by repeat (first | (with_reducible first | exact HB.out | apply kc1 | apply kc2 | apply kc3 | refine kc4 ?_ GE496.out) | exact HB.out)⟩⟩
         ·rw [if_neg c13] at H
          exact absurd H (by simp)
        ·replace c12 := Bool.eq_false_iff.mpr c12
         subst c12
         have H1 : (trivetref14_Outs.l1 k2 l0 a2 x7_2 x10_1 (wrap64 (x11_2 + 1)) x497000_1 x497001_1 x497002_1) = some r := by rw [if_neg (show ¬ (false = true) by decide)] at H; exact H
         clear H
         have H := H1
         clear H1
         have H' := ka H
         clear H
         try go_wp2
         replace HO_7 := ka (Kd.R_drew HO_7.out)
         replace BK496 := ka (blk_drew BK496.out)
         replace HB := ka (below_drew1 HB.out)
         have p497 : 0 ≤ (x11_2 : Int) := of_decide_eq_true (by first | (with_reducible assumption) | assumption)
         have q497 : x11_2 < (l0.length : Int) := of_decide_eq_true (by first | (with_reducible assumption) | assumption)
         obtain ⟨ad497, e497, hx497_0, hx497_1, hx497_2⟩ := at_T48 HR0.out x11_2 p497 q497
         have hw497_2 := hx497_2
         have hw497_1 := hx497_1
         have hw497_0 := hx497_0
         cases e497
         replace hx497_0 := (HB.out.cell (World.block_lt_of_cell? w _ hx497_0)).trans hx497_0
         replace hx497_1 := (HB.out.cell (World.block_lt_of_cell? w _ hx497_1)).trans hx497_1
         replace hx497_2 := (HB.out.cell (World.block_lt_of_cell? w _ hx497_2)).trans hx497_2
         replace p497 := eq_true p497
         replace q497 := eq_true q497
         refine start_ (n := 7) (S := fun w' => w'.cell? ⟨gb496, 0, none⟩ = some (.int .i64 x497000_1) ∧ w'.cell? ⟨gb496, 1, none⟩ = some (.int .i64 x497001_1) ∧ w'.cell? ⟨gb496, 2, none⟩ = some (.int .i64 x497002_1) ∧ w'.cell? (ad497.add ((x11_2).toNat * 3)) = some (.int .i64 ((rd_T48 l0 x11_2).f0)) ∧ w'.cell? ⟨(ad497.add ((x11_2).toNat * 3)).block, (ad497.add ((x11_2).toNat * 3)).off + 1, none⟩ = some (.int .i64 ((rd_T48 l0 x11_2).f1)) ∧ w'.cell? ⟨(ad497.add ((x11_2).toNat * 3)).block, (ad497.add ((x11_2).toNat * 3)).off + 2, none⟩ = some (.int .i64 ((rd_T48 l0 x11_2).f2))) (ds := []) #[false, false, false, false, false, false, false] (by kernel_rfl) rfl rfl ⟨(blk_cell BK496.out 0).trans rfl, (blk_cell BK496.out 1).trans rfl, (blk_cell BK496.out 2).trans rfl, ((HB.out.cell (World.block_lt_of_cell? w _ hw497_0)).trans hw497_0), ((HB.out.cell (World.block_lt_of_cell? w _ hw497_1)).trans hw497_1), ((HB.out.cell (World.block_lt_of_cell? w _ hw497_2)).trans hw497_2)⟩ (fun hHeld => ?_)
         generalize wr.drew = w17 at HO_7 BK496 HB hx497_0 hx497_1 hx497_2 hHeld ⊢
         refine pure_ (i := 0) (N := some 30) (v := ?_) (a' := ?_) #[true, false, false, false, false, false, false] rfl rfl (by kernel_rfl) (fun _ _ _ h => h) (Or.inl ⟨by rfl, ?_⟩) ?_ ?_
         rotate_left
         ·intro w'
          go_simp
          with_reducible rfl
         rotate_left
         ·simp only [Act.put, List.setIfInBounds_toArray, List.set_cons_zero, List.set_cons_succ, i64_w, i32_w]
          rfl
         refine pure_ (i := 1) (N := some 31) (v := ?_) (a' := ?_) #[true, true, false, false, false, false, false] rfl rfl (by kernel_rfl) (fun _ _ _ h => h) (Or.inl ⟨by rfl, ?_⟩) ?_ ?_
         rotate_left
         ·intro w'
          go_simp
          with_reducible rfl
         rotate_left
         ·simp only [Act.put, List.setIfInBounds_toArray, List.set_cons_zero, List.set_cons_succ, i64_w, i32_w]
          rfl
         refine pure_ (i := 2) (N := some 32) (v := ?_) (a' := ?_) #[true, true, true, false, false, false, false] rfl rfl (by kernel_rfl) (fun _ _ _ h => h) (Or.inl ⟨by rfl, ?_⟩) ?_ ?_
         rotate_left
         ·intro w'
          go_simp
          with_reducible rfl
         rotate_left
         ·simp only [Act.put, List.setIfInBounds_toArray, List.set_cons_zero, List.set_cons_succ, i64_w, i32_w]
          rfl
         refine take_ (i := 3) (N := some 33) (v := ?_) (a' := ?_) #[true, true, true, true, false, false, false] rfl rfl (by kernel_rfl) (fun _ _ _ h => h) (Or.inl ⟨by rfl, ?_⟩) hHeld ?_ ?_
         rotate_left
         ·rintro w' ⟨s0, s1, s2, s3, s4, s5⟩
          go_simp
          with_reducible rfl
         rotate_left
         ·simp only [Act.put, List.setIfInBounds_toArray, List.set_cons_zero, List.set_cons_succ, i64_w, i32_w]
          rfl
         refine take_ (i := 4) (N := some 34) (v := ?_) (a' := ?_) #[true, true, true, true, true, false, false] rfl rfl (by kernel_rfl) (fun _ _ _ h => h) (Or.inl ⟨by rfl, ?_⟩) hHeld ?_ ?_
         rotate_left
         ·rintro w' ⟨s0, s1, s2, s3, s4, s5⟩
          go_simp
          with_reducible rfl
         rotate_left
         ·simp only [Act.put, List.setIfInBounds_toArray, List.set_cons_zero, List.set_cons_succ, i64_w, i32_w]
          rfl
         refine one_ (i := 5) (N := some 35) #[true, true, true, true, true, true, false] rfl rfl (by kernel_rfl) (by decide) (fun K hK => ?_)
         refine goes_ Try.func31 (by kernel_rfl) rfl #[.agg #[.int .i64 ((rd_T48 l0 x11_2).f0), .int .i64 ((rd_T48 l0 x11_2).f1), .int .i64 ((rd_T48 l0 x11_2).f2)], .agg #[.int .i64 x497000_1, .int .i64 x497001_1, .int .i64 x497002_1]] (by rfl) rfl rfl (by (try simp only [List.map_toArray, List.map_cons, List.map_nil]); first | done | rfl | (simp only [List.length_drop, List.length_take]; rfl)) ?_
         with_reducible refine (trivetref14_paid.calls ((rd_T48 l0 x11_2).f0) ((rd_T48 l0 x11_2).f1) ((rd_T48 l0 x11_2).f2) x497000_1 x497001_1 x497002_1 false _ A11.out).mono ?_
         rintro e w18 ⟨rfl, hb⟩
         refine ⟨_, rfl, ?_⟩
         replace HO_7 := ka (Kd.R_below (kr HO_7.out) hb)
         replace BK496 := kbb BK496 hb
         replace HB := ka (below_step (kw HB.out) hb)
         (try clear hb)
         (try clear hb2)
         (try clear hk)
         (try clear hi)
         refine hK.out _ _ ⟨(blk_cell BK496.out 0).trans rfl, (blk_cell BK496.out 1).trans rfl, (blk_cell BK496.out 2).trans rfl, ((HB.out.cell (World.block_lt_of_cell? w _ hw497_0)).trans hw497_0), ((HB.out.cell (World.block_lt_of_cell? w _ hw497_1)).trans hw497_1), ((HB.out.cell (World.block_lt_of_cell? w _ hw497_2)).trans hw497_2)⟩ (fun hHeld => ?_)
         clear hK K
         refine norm_ (a' := ?_) ?_ ?_
         rotate_left
         ·show Act.put _ (some 35) _ = _
          simp only [Act.put, List.setIfInBounds_toArray, List.set_cons_zero, List.set_cons_succ, i64_w, i32_w]
          rfl
         refine pure_ (i := 6) (N := some 12) (v := ?_) (a' := ?_) #[true, true, true, true, true, true, true] rfl rfl (by kernel_rfl) (fun _ _ _ h => h) (Or.inl ⟨by rfl, ?_⟩) ?_ ?_
         rotate_left
         ·intro w'
          go_simp
          with_reducible rfl
         rotate_left
         ·simp only [Act.put, List.setIfInBounds_toArray, List.set_cons_zero, List.set_cons_succ, i64_w, i32_w]
          rfl
         refine done_ (by kernel_rfl) ?_
         try go_wp2
         go_roundg k2
         case measure => have := HK1.out; have := HK2.out; omega
         case rel => exact ⟨(x7_2), (wrap64 (x11_2 + 1)), (by first | rfl | (simp; done) | (simp [*]; done)), H', ⟨by have := HK1.out; have := HK2.out; omega⟩, ⟨kr HO_7.out⟩, ⟨by (with_reducible repeat (first | apply kb1 | apply kb2 | apply kb3)); exact BK496.out⟩, ⟨by repeat (first | (with_reducible first | exact HB.out | apply kc1 | apply kc2 | apply kc3 | refine kc4 ?_ GE496.out) | exact HB.out)⟩⟩
       ·rw [if_neg c10] at H
        exact absurd H (by simp)
      ·rw [if_neg c9] at H
       have c9b0 : decide (x11_2 < (l0.length : Int)) = false := decide_eq_false c9
       clear c9
       replace H := Option.bind_eq_some_iff.mp H
       obtain ⟨t503, A190, H⟩ := H
       replace H : (if (wrap64 (x497002_1 + 1)) > t503 then (if (wrap64 (x497001_1 + 1)) > 12 then (trivetref14_Outs.l0 k2 l0 a2 x7_2 (wrap64 (x10_1 + 1)) (wrap64 (x497000_1 + 1)) 1 1) else (trivetref14_Outs.l0 k2 l0 a2 x7_2 (wrap64 (x10_1 + 1)) x497000_1 (wrap64 (x497001_1 + 1)) 1)) else (if x497001_1 > 12 then (trivetref14_Outs.l0 k2 l0 a2 x7_2 (wrap64 (x10_1 + 1)) (wrap64 (x497000_1 + 1)) 1 (wrap64 (x497002_1 + 1))) else (trivetref14_Outs.l0 k2 l0 a2 x7_2 (wrap64 (x10_1 + 1)) x497000_1 x497001_1 (wrap64 (x497002_1 + 1))))) = some r := H
       have A19 := ka A190
       clear A190
       by_cases c20 : (wrap64 (x497002_1 + 1)) > t503
       ·rw [if_pos c20] at H
        have c20b0 : decide (t503 < (wrap64 (x497002_1 + 1))) = true := decide_eq_true c20
        clear c20
        by_cases c21 : (wrap64 (x497001_1 + 1)) > 12
        ·rw [if_pos c21] at H
         have c21b0 : decide (12 < (wrap64 (x497001_1 + 1))) = true := decide_eq_true c21
         clear c21
         have H' := ka H
         clear H
         have hcz22 := blkAll3 BK496.out
         try go_wp2
         have n0_ : Aside0 (Kd.R k45 45 (wr.setCell ⟨gb496, 2, none⟩ (.int .i64 (wrap64 (x497002_1 + 1)))) w.heap.size (fun _ => True) u7 x7_2) := ⟨kr (Kd.R_mono (Kd.R_far (p := ⟨gb496, 2, none⟩) (Kd.R_types HO_7.out BK496.out (by decide)) (fun _ hk => hk.2) (.int .i64 (wrap64 (x497002_1 + 1)))) (fun _ hk => trivial))⟩
         have n1_ : Aside0 ((wr.setCell ⟨gb496, 2, none⟩ (.int .i64 (wrap64 (x497002_1 + 1)))).heap[gb496]? = some (.cells #[.int .i64 x497000_1, .int .i64 x497001_1, .int .i64 (wrap64 (x497002_1 + 1))] 30 (0, 0))) := ⟨by (with_reducible repeat (first | apply kb1 | apply kb2 | apply kb3)); refine blk_put (cs := #[.int .i64 x497000_1, .int .i64 x497001_1, .int .i64 x497002_1]) ?_ 2 _ rfl; (with_reducible repeat (first | apply kb1 | apply kb2 | apply kb3)); exact BK496.out⟩
         have n2_ : Aside0 (Below w.heap.size w (wr.setCell ⟨gb496, 2, none⟩ (.int .i64 (wrap64 (x497002_1 + 1))))) := ⟨by repeat (first | (with_reducible first | exact HB.out | apply kc1 | apply kc2 | apply kc3 | refine kc4 ?_ GE496.out) | exact HB.out)⟩
         (try clear HO_7)
         (try clear BK496)
         (try clear HB)
         generalize (wr.setCell ⟨gb496, 2, none⟩ (.int .i64 (wrap64 (x497002_1 + 1)))) = w23 at n0_ n1_ n2_ ⊢
         have HO_7 := n0_
         have BK496 := n1_
         have HB := n2_
         clear n0_ n1_ n2_
         replace HO_7 := ka (Kd.R_drew HO_7.out)
         replace BK496 := ka (blk_drew BK496.out)
         replace HB := ka (below_drew1 HB.out)
         refine start_ (n := 8) (S := fun w' => w'.cell? ⟨gb496, 0, none⟩ = some (.int .i64 x497000_1) ∧ w'.cell? ⟨gb496, 1, none⟩ = some (.int .i64 x497001_1) ∧ w'.cell? ⟨gb496, 2, none⟩ = some (.int .i64 (wrap64 (x497002_1 + 1)))) (ds := []) #[false, false, false, false, false, false, false, false] (by kernel_rfl) rfl rfl ⟨(blk_cell BK496.out 0).trans rfl, (blk_cell BK496.out 1).trans rfl, (blk_cell BK496.out 2).trans rfl⟩ (fun hHeld => ?_); refine with_tabW trivetref14_Outs.tab13 trivetref14_Outs.bits13 (fun HT_ HW_ => ?_)
         generalize w23.drew = w24 at HO_7 BK496 HB hHeld ⊢
         refine pure_ (i := 0) (N := some 52) (v := ?_) (a' := ?_) #[true, false, false, false, false, false, false, false] rfl rfl (any_of HT_.out (by kernel_rfl)) (fun _ _ _ h => h) (Or.inl ⟨by rfl, ?_⟩) ?_ ?_
         rotate_left
         ·intro w'
          go_simp
          with_reducible rfl
         rotate_left
         ·simp only [Act.put, List.setIfInBounds_toArray, List.set_cons_zero, List.set_cons_succ, i64_w, i32_w]
          rfl
         refine pure_ (i := 2) (N := some 54) (v := ?_) (a' := ?_) #[true, false, true, false, false, false, false, false] rfl rfl (any_of HT_.out (by kernel_rfl)) (fun _ _ _ h => h) (Or.inl ⟨by rfl, ?_⟩) ?_ ?_
         rotate_left
         ·intro w'
          go_simp
          with_reducible rfl
         rotate_left
         ·simp only [Act.put, List.setIfInBounds_toArray, List.set_cons_zero, List.set_cons_succ, i64_w, i32_w]
          rfl
         refine pure_ (i := 4) (N := some 56) (v := ?_) (a' := ?_) #[true, false, true, false, true, false, false, false] rfl rfl (any_of HT_.out (by kernel_rfl)) (fun _ _ _ h => h) (Or.inl ⟨by rfl, ?_⟩) ?_ ?_
         rotate_left
         ·intro w'
          go_simp
          with_reducible rfl
         rotate_left
         ·simp only [Act.put, List.setIfInBounds_toArray, List.set_cons_zero, List.set_cons_succ, i64_w, i32_w]
          rfl
         refine take_ (i := 1) (N := some 53) (v := ?_) (a' := ?_) #[true, true, true, false, true, false, false, false] rfl rfl (take_ofW HT_.out HW_.out (by kernel_rfl)) (fun _ _ _ h => h) (Or.inl ⟨by rfl, ?_⟩) hHeld ?_ ?_
         rotate_left
         ·rintro w' ⟨s0, s1, s2⟩
          go_simp
          with_reducible rfl
         rotate_left
         ·simp only [Act.put, List.setIfInBounds_toArray, List.set_cons_zero, List.set_cons_succ, i64_w, i32_w]
          rfl
         refine take_ (i := 3) (N := some 55) (v := ?_) (a' := ?_) #[true, true, true, true, true, false, false, false] rfl rfl (take_ofW HT_.out HW_.out (by kernel_rfl)) (fun _ _ _ h => h) (Or.inl ⟨by rfl, ?_⟩) hHeld ?_ ?_
         rotate_left
         ·rintro w' ⟨s0, s1, s2⟩
          go_simp
          with_reducible rfl
         rotate_left
         ·simp only [Act.put, List.setIfInBounds_toArray, List.set_cons_zero, List.set_cons_succ, i64_w, i32_w]
          rfl
         refine take_ (i := 5) (N := some 57) (v := ?_) (a' := ?_) #[true, true, true, true, true, true, false, false] rfl rfl (take_ofW HT_.out HW_.out (by kernel_rfl)) (fun _ _ _ h => h) (Or.inl ⟨by rfl, ?_⟩) hHeld ?_ ?_
         rotate_left
         ·rintro w' ⟨s0, s1, s2⟩
          go_simp
          with_reducible rfl
         rotate_left
         ·simp only [Act.put, List.setIfInBounds_toArray, List.set_cons_zero, List.set_cons_succ, i64_w, i32_w]
          rfl
         refine one_ (i := 6) (N := some 58) #[true, true, true, true, true, true, true, false] rfl rfl (one_of HT_.out (by kernel_rfl)) (by decide) (fun K hK => ?_)
         refine goes_ Try.func24 (by kernel_rfl) rfl #[.int .i64 x497000_1, .int .i64 x497001_1] (by rfl) rfl rfl (by (try simp only [List.map_toArray, List.map_cons, List.map_nil]); first | done | rfl | (simp only [List.length_drop, List.length_take]; rfl)) ?_
         with_reducible refine (trivetref04_Days_s.calls x497000_1 x497001_1 t503 _ A19.out).mono ?_
         rintro e w' ⟨rfl, ⟨nd, rfl⟩⟩
         refine ⟨_, rfl, ?_⟩
         refine hK.out _ _ ⟨(blk_cell BK496.out 0).trans rfl, (blk_cell BK496.out 1).trans rfl, (blk_cell BK496.out 2).trans rfl⟩ (fun hHeld => ?_)
         clear hK K
         refine norm_ (a' := ?_) ?_ ?_
         rotate_left
         ·show Act.put _ (some 58) _ = _
          simp only [Act.put, List.setIfInBounds_toArray, List.set_cons_zero, List.set_cons_succ, i64_w, i32_w]
          rfl
         refine pure_ (i := 7) (N := some 59) (v := ?_) (a' := ?_) #[true, true, true, true, true, true, true, true] rfl rfl (any_of HT_.out (by kernel_rfl)) (fun _ _ _ h => h) (Or.inl ⟨by rfl, ?_⟩) ?_ ?_
         rotate_left
         ·intro w'
          go_simp
          with_reducible rfl
         rotate_left
         ·simp only [Act.put, List.setIfInBounds_toArray, List.set_cons_zero, List.set_cons_succ, i64_w, i32_w]
          rfl
         refine done_ (done_of HT_.out (by kernel_rfl)) ?_
         have hcz25 := blkAll3 BK496.out
         try go_wp2
         go_roundg k2
         case measure => have := HK1.out; have := HK2.out; omega
         case rel => exact ⟨(x7_2), (wrap64 (x10_1 + 1)), (wrap64 (x497000_1 + 1)), (1), (1), (by first | rfl | (simp; done) | (simp [*]; done)), H', ⟨by have := HK1.out; have := HK2.out; omega⟩, ⟨kr (Kd.R_mono (Kd.R_far (p := ⟨gb496, 0, none⟩) (Kd.R_far (p := ⟨gb496, 1, none⟩) (Kd.R_far (p := ⟨gb496, 1, none⟩) (Kd.R_far (p := ⟨gb496, 2, none⟩) (Kd.R_types HO_7.out BK496.out (by decide)) (fun _ hk => hk.2) (.int .i64 1)) (fun _ hk => hk.2) (.int .i64 (wrap64 (x497001_1 + 1)))) (fun _ hk => hk.2) (.int .i64 1)) (fun _ hk => hk.2) (.int .i64 (wrap64 (x497000_1 + 1)))) (fun _ hk => trivial))⟩, ⟨by (with_reducible repeat (first | apply kb1 | apply kb2 | apply kb3 | apply blkPut3_0 | apply blkPut3_1 | apply blkPut3_2)); exact BK496.out⟩, ⟨by repeat (first | (with_reducible first | exact HB.out | apply kc1 | apply kc2 | apply kc3 | refine kc4 ?_ GE496.out) | exact HB.out)⟩⟩
        ·rw [if_neg c21] at H
         have c21b0 : decide (12 < (wrap64 (x497001_1 + 1))) = false := decide_eq_false c21
         clear c21
         have H' := ka H
         clear H
         have hcz26 := blkAll3 BK496.out
         try go_wp2
         have n0_ : Aside0 (Kd.R k45 45 (wr.setCell ⟨gb496, 2, none⟩ (.int .i64 (wrap64 (x497002_1 + 1)))) w.heap.size (fun _ => True) u7 x7_2) := ⟨kr (Kd.R_mono (Kd.R_far (p := ⟨gb496, 2, none⟩) (Kd.R_types HO_7.out BK496.out (by decide)) (fun _ hk => hk.2) (.int .i64 (wrap64 (x497002_1 + 1)))) (fun _ hk => trivial))⟩
         have n1_ : Aside0 ((wr.setCell ⟨gb496, 2, none⟩ (.int .i64 (wrap64 (x497002_1 + 1)))).heap[gb496]? = some (.cells #[.int .i64 x497000_1, .int .i64 x497001_1, .int .i64 (wrap64 (x497002_1 + 1))] 30 (0, 0))) := ⟨by (with_reducible repeat (first | apply kb1 | apply kb2 | apply kb3)); refine blk_put (cs := #[.int .i64 x497000_1, .int .i64 x497001_1, .int .i64 x497002_1]) ?_ 2 _ rfl; (with_reducible repeat (first | apply kb1 | apply kb2 | apply kb3)); exact BK496.out⟩
         have n2_ : Aside0 (Below w.heap.size w (wr.setCell ⟨gb496, 2, none⟩ (.int .i64 (wrap64 (x497002_1 + 1))))) := ⟨by repeat (first | (with_reducible first | exact HB.out | apply kc1 | apply kc2 | apply kc3 | refine kc4 ?_ GE496.out) | exact HB.out)⟩
         (try clear HO_7)
         (try clear BK496)
         (try clear HB)
         generalize (wr.setCell ⟨gb496, 2, none⟩ (.int .i64 (wrap64 (x497002_1 + 1)))) = w27 at n0_ n1_ n2_ ⊢
         have HO_7 := n0_
         have BK496 := n1_
         have HB := n2_
         clear n0_ n1_ n2_
         replace HO_7 := ka (Kd.R_drew HO_7.out)
         replace BK496 := ka (blk_drew BK496.out)
         replace HB := ka (below_drew1 HB.out)
         refine start_ (n := 8) (S := fun w' => w'.cell? ⟨gb496, 0, none⟩ = some (.int .i64 x497000_1) ∧ w'.cell? ⟨gb496, 1, none⟩ = some (.int .i64 x497001_1) ∧ w'.cell? ⟨gb496, 2, none⟩ = some (.int .i64 (wrap64 (x497002_1 + 1)))) (ds := []) #[false, false, false, false, false, false, false, false] (by kernel_rfl) rfl rfl ⟨(blk_cell BK496.out 0).trans rfl, (blk_cell BK496.out 1).trans rfl, (blk_cell BK496.out 2).trans rfl⟩ (fun hHeld => ?_); refine with_tabW trivetref14_Outs.tab13 trivetref14_Outs.bits13 (fun HT_ HW_ => ?_)
         generalize w27.drew = w28 at HO_7 BK496 HB hHeld ⊢
         refine pure_ (i := 0) (N := some 52) (v := ?_) (a' := ?_) #[true, false, false, false, false, false, false, false] rfl rfl (any_of HT_.out (by kernel_rfl)) (fun _ _ _ h => h) (Or.inl ⟨by rfl, ?_⟩) ?_ ?_
         rotate_left
         ·intro w'
          go_simp
          with_reducible rfl
         rotate_left
         ·simp only [Act.put, List.setIfInBounds_toArray, List.set_cons_zero, List.set_cons_succ, i64_w, i32_w]
          rfl
         refine pure_ (i := 2) (N := some 54) (v := ?_) (a' := ?_) #[true, false, true, false, false, false, false, false] rfl rfl (any_of HT_.out (by kernel_rfl)) (fun _ _ _ h => h) (Or.inl ⟨by rfl, ?_⟩) ?_ ?_
         rotate_left
         ·intro w'
          go_simp
          with_reducible rfl
         rotate_left
         ·simp only [Act.put, List.setIfInBounds_toArray, List.set_cons_zero, List.set_cons_succ, i64_w, i32_w]
          rfl
         refine pure_ (i := 4) (N := some 56) (v := ?_) (a' := ?_) #[true, false, true, false, true, false, false, false] rfl rfl (any_of HT_.out (by kernel_rfl)) (fun _ _ _ h => h) (Or.inl ⟨by rfl, ?_⟩) ?_ ?_
         rotate_left
         ·intro w'
          go_simp
          with_reducible rfl
         rotate_left
         ·simp only [Act.put, List.setIfInBounds_toArray, List.set_cons_zero, List.set_cons_succ, i64_w, i32_w]
          rfl
         refine take_ (i := 1) (N := some 53) (v := ?_) (a' := ?_) #[true, true, true, false, true, false, false, false] rfl rfl (take_ofW HT_.out HW_.out (by kernel_rfl)) (fun _ _ _ h => h) (Or.inl ⟨by rfl, ?_⟩) hHeld ?_ ?_
         rotate_left
         ·rintro w' ⟨s0, s1, s2⟩
          go_simp
          with_reducible rfl
         rotate_left
         ·simp only [Act.put, List.setIfInBounds_toArray, List.set_cons_zero, List.set_cons_succ, i64_w, i32_w]
          rfl
         refine take_ (i := 3) (N := some 55) (v := ?_) (a' := ?_) #[true, true, true, true, true, false, false, false] rfl rfl (take_ofW HT_.out HW_.out (by kernel_rfl)) (fun _ _ _ h => h) (Or.inl ⟨by rfl, ?_⟩) hHeld ?_ ?_
         rotate_left
         ·rintro w' ⟨s0, s1, s2⟩
          go_simp
          with_reducible rfl
         rotate_left
         ·simp only [Act.put, List.setIfInBounds_toArray, List.set_cons_zero, List.set_cons_succ, i64_w, i32_w]
          rfl
         refine take_ (i := 5) (N := some 57) (v := ?_) (a' := ?_) #[true, true, true, true, true, true, false, false] rfl rfl (take_ofW HT_.out HW_.out (by kernel_rfl)) (fun _ _ _ h => h) (Or.inl ⟨by rfl, ?_⟩) hHeld ?_ ?_
         rotate_left
         ·rintro w' ⟨s0, s1, s2⟩
          go_simp
          with_reducible rfl
         rotate_left
         ·simp only [Act.put, List.setIfInBounds_toArray, List.set_cons_zero, List.set_cons_succ, i64_w, i32_w]
          rfl
         refine one_ (i := 6) (N := some 58) #[true, true, true, true, true, true, true, false] rfl rfl (one_of HT_.out (by kernel_rfl)) (by decide) (fun K hK => ?_)
         refine goes_ Try.func24 (by kernel_rfl) rfl #[.int .i64 x497000_1, .int .i64 x497001_1] (by rfl) rfl rfl (by (try simp only [List.map_toArray, List.map_cons, List.map_nil]); first | done | rfl | (simp only [List.length_drop, List.length_take]; rfl)) ?_
         with_reducible refine (trivetref04_Days_s.calls x497000_1 x497001_1 t503 _ A19.out).mono ?_
         rintro e w' ⟨rfl, ⟨nd, rfl⟩⟩
         refine ⟨_, rfl, ?_⟩
         refine hK.out _ _ ⟨(blk_cell BK496.out 0).trans rfl, (blk_cell BK496.out 1).trans rfl, (blk_cell BK496.out 2).trans rfl⟩ (fun hHeld => ?_)
         clear hK K
         refine norm_ (a' := ?_) ?_ ?_
         rotate_left
         ·show Act.put _ (some 58) _ = _
          simp only [Act.put, List.setIfInBounds_toArray, List.set_cons_zero, List.set_cons_succ, i64_w, i32_w]
          rfl
         refine pure_ (i := 7) (N := some 59) (v := ?_) (a' := ?_) #[true, true, true, true, true, true, true, true] rfl rfl (any_of HT_.out (by kernel_rfl)) (fun _ _ _ h => h) (Or.inl ⟨by rfl, ?_⟩) ?_ ?_
         rotate_left
         ·intro w'
          go_simp
          with_reducible rfl
         rotate_left
         ·simp only [Act.put, List.setIfInBounds_toArray, List.set_cons_zero, List.set_cons_succ, i64_w, i32_w]
          rfl
         refine done_ (done_of HT_.out (by kernel_rfl)) ?_
         have hcz29 := blkAll3 BK496.out
         try go_wp2
         go_roundg k2
         case measure => have := HK1.out; have := HK2.out; omega
         case rel => exact ⟨(x7_2), (wrap64 (x10_1 + 1)), (x497000_1), (wrap64 (x497001_1 + 1)), (1), (by first | rfl | (simp; done) | (simp [*]; done)), H', ⟨by have := HK1.out; have := HK2.out; omega⟩, ⟨kr (Kd.R_mono (Kd.R_far (p := ⟨gb496, 1, none⟩) (Kd.R_far (p := ⟨gb496, 2, none⟩) (Kd.R_types HO_7.out BK496.out (by decide)) (fun _ hk => hk.2) (.int .i64 1)) (fun _ hk => hk.2) (.int .i64 (wrap64 (x497001_1 + 1)))) (fun _ hk => trivial))⟩, ⟨by (with_reducible repeat (first | apply kb1 | apply kb2 | apply kb3 | apply blkPut3_1 | apply blkPut3_2)); exact BK496.out⟩, ⟨by repeat (first | (with_reducible first | exact HB.out | apply kc1 | apply kc2 | apply kc3 | refine kc4 ?_ GE496.out) | exact HB.out)⟩⟩
       ·rw [if_neg c20] at H
        have c20b0 : decide (t503 < (wrap64 (x497002_1 + 1))) = false := decide_eq_false c20
        clear c20
        by_cases c30 : x497001_1 > 12
        ·rw [if_pos c30] at H
         have c30b0 : decide (12 < x497001_1) = true := decide_eq_true c30
         clear c30
         have H' := ka H
         clear H
         have hcz31 := blkAll3 BK496.out
         try go_wp2
         have n0_ : Aside0 (Kd.R k45 45 (wr.setCell ⟨gb496, 2, none⟩ (.int .i64 (wrap64 (x497002_1 + 1)))) w.heap.size (fun _ => True) u7 x7_2) := ⟨kr (Kd.R_mono (Kd.R_far (p := ⟨gb496, 2, none⟩) (Kd.R_types HO_7.out BK496.out (by decide)) (fun _ hk => hk.2) (.int .i64 (wrap64 (x497002_1 + 1)))) (fun _ hk => trivial))⟩
         have n1_ : Aside0 ((wr.setCell ⟨gb496, 2, none⟩ (.int .i64 (wrap64 (x497002_1 + 1)))).heap[gb496]? = some (.cells #[.int .i64 x497000_1, .int .i64 x497001_1, .int .i64 (wrap64 (x497002_1 + 1))] 30 (0, 0))) := ⟨by (with_reducible repeat (first | apply kb1 | apply kb2 | apply kb3)); refine blk_put (cs := #[.int .i64 x497000_1, .int .i64 x497001_1, .int .i64 x497002_1]) ?_ 2 _ rfl; (with_reducible repeat (first | apply kb1 | apply kb2 | apply kb3)); exact BK496.out⟩
         have n2_ : Aside0 (Below w.heap.size w (wr.setCell ⟨gb496, 2, none⟩ (.int .i64 (wrap64 (x497002_1 + 1))))) := ⟨by repeat (first | (with_reducible first | exact HB.out | apply kc1 | apply kc2 | apply kc3 | refine kc4 ?_ GE496.out) | exact HB.out)⟩
         (try clear HO_7)
         (try clear BK496)
         (try clear HB)
         generalize (wr.setCell ⟨gb496, 2, none⟩ (.int .i64 (wrap64 (x497002_1 + 1)))) = w32 at n0_ n1_ n2_ ⊢
         have HO_7 := n0_
         have BK496 := n1_
         have HB := n2_
         clear n0_ n1_ n2_
         replace HO_7 := ka (Kd.R_drew HO_7.out)
         replace BK496 := ka (blk_drew BK496.out)
         replace HB := ka (below_drew1 HB.out)
         refine start_ (n := 8) (S := fun w' => w'.cell? ⟨gb496, 0, none⟩ = some (.int .i64 x497000_1) ∧ w'.cell? ⟨gb496, 1, none⟩ = some (.int .i64 x497001_1) ∧ w'.cell? ⟨gb496, 2, none⟩ = some (.int .i64 (wrap64 (x497002_1 + 1)))) (ds := []) #[false, false, false, false, false, false, false, false] (by kernel_rfl) rfl rfl ⟨(blk_cell BK496.out 0).trans rfl, (blk_cell BK496.out 1).trans rfl, (blk_cell BK496.out 2).trans rfl⟩ (fun hHeld => ?_); refine with_tabW trivetref14_Outs.tab13 trivetref14_Outs.bits13 (fun HT_ HW_ => ?_)
         generalize w32.drew = w33 at HO_7 BK496 HB hHeld ⊢
         refine pure_ (i := 0) (N := some 52) (v := ?_) (a' := ?_) #[true, false, false, false, false, false, false, false] rfl rfl (any_of HT_.out (by kernel_rfl)) (fun _ _ _ h => h) (Or.inl ⟨by rfl, ?_⟩) ?_ ?_
         rotate_left
         ·intro w'
          go_simp
          with_reducible rfl
         rotate_left
         ·simp only [Act.put, List.setIfInBounds_toArray, List.set_cons_zero, List.set_cons_succ, i64_w, i32_w]
          rfl
         refine pure_ (i := 2) (N := some 54) (v := ?_) (a' := ?_) #[true, false, true, false, false, false, false, false] rfl rfl (any_of HT_.out (by kernel_rfl)) (fun _ _ _ h => h) (Or.inl ⟨by rfl, ?_⟩) ?_ ?_
         rotate_left
         ·intro w'
          go_simp
          with_reducible rfl
         rotate_left
         ·simp only [Act.put, List.setIfInBounds_toArray, List.set_cons_zero, List.set_cons_succ, i64_w, i32_w]
          rfl
         refine pure_ (i := 4) (N := some 56) (v := ?_) (a' := ?_) #[true, false, true, false, true, false, false, false] rfl rfl (any_of HT_.out (by kernel_rfl)) (fun _ _ _ h => h) (Or.inl ⟨by rfl, ?_⟩) ?_ ?_
         rotate_left
         ·intro w'
          go_simp
          with_reducible rfl
         rotate_left
         ·simp only [Act.put, List.setIfInBounds_toArray, List.set_cons_zero, List.set_cons_succ, i64_w, i32_w]
          rfl
         refine take_ (i := 1) (N := some 53) (v := ?_) (a' := ?_) #[true, true, true, false, true, false, false, false] rfl rfl (take_ofW HT_.out HW_.out (by kernel_rfl)) (fun _ _ _ h => h) (Or.inl ⟨by rfl, ?_⟩) hHeld ?_ ?_
         rotate_left
         ·rintro w' ⟨s0, s1, s2⟩
          go_simp
          with_reducible rfl
         rotate_left
         ·simp only [Act.put, List.setIfInBounds_toArray, List.set_cons_zero, List.set_cons_succ, i64_w, i32_w]
          rfl
         refine take_ (i := 3) (N := some 55) (v := ?_) (a' := ?_) #[true, true, true, true, true, false, false, false] rfl rfl (take_ofW HT_.out HW_.out (by kernel_rfl)) (fun _ _ _ h => h) (Or.inl ⟨by rfl, ?_⟩) hHeld ?_ ?_
         rotate_left
         ·rintro w' ⟨s0, s1, s2⟩
          go_simp
          with_reducible rfl
         rotate_left
         ·simp only [Act.put, List.setIfInBounds_toArray, List.set_cons_zero, List.set_cons_succ, i64_w, i32_w]
          rfl
         refine take_ (i := 5) (N := some 57) (v := ?_) (a' := ?_) #[true, true, true, true, true, true, false, false] rfl rfl (take_ofW HT_.out HW_.out (by kernel_rfl)) (fun _ _ _ h => h) (Or.inl ⟨by rfl, ?_⟩) hHeld ?_ ?_
         rotate_left
         ·rintro w' ⟨s0, s1, s2⟩
          go_simp
          with_reducible rfl
         rotate_left
         ·simp only [Act.put, List.setIfInBounds_toArray, List.set_cons_zero, List.set_cons_succ, i64_w, i32_w]
          rfl
         refine one_ (i := 6) (N := some 58) #[true, true, true, true, true, true, true, false] rfl rfl (one_of HT_.out (by kernel_rfl)) (by decide) (fun K hK => ?_)
         refine goes_ Try.func24 (by kernel_rfl) rfl #[.int .i64 x497000_1, .int .i64 x497001_1] (by rfl) rfl rfl (by (try simp only [List.map_toArray, List.map_cons, List.map_nil]); first | done | rfl | (simp only [List.length_drop, List.length_take]; rfl)) ?_
         with_reducible refine (trivetref04_Days_s.calls x497000_1 x497001_1 t503 _ A19.out).mono ?_
         rintro e w' ⟨rfl, ⟨nd, rfl⟩⟩
         refine ⟨_, rfl, ?_⟩
         refine hK.out _ _ ⟨(blk_cell BK496.out 0).trans rfl, (blk_cell BK496.out 1).trans rfl, (blk_cell BK496.out 2).trans rfl⟩ (fun hHeld => ?_)
         clear hK K
         refine norm_ (a' := ?_) ?_ ?_
         rotate_left
         ·show Act.put _ (some 58) _ = _
          simp only [Act.put, List.setIfInBounds_toArray, List.set_cons_zero, List.set_cons_succ, i64_w, i32_w]
          rfl
         refine pure_ (i := 7) (N := some 59) (v := ?_) (a' := ?_) #[true, true, true, true, true, true, true, true] rfl rfl (any_of HT_.out (by kernel_rfl)) (fun _ _ _ h => h) (Or.inl ⟨by rfl, ?_⟩) ?_ ?_
         rotate_left
         ·intro w'
          go_simp
          with_reducible rfl
         rotate_left
         ·simp only [Act.put, List.setIfInBounds_toArray, List.set_cons_zero, List.set_cons_succ, i64_w, i32_w]
          rfl
         refine done_ (done_of HT_.out (by kernel_rfl)) ?_
         have hcz34 := blkAll3 BK496.out
         try go_wp2
         go_roundg k2
         case measure => have := HK1.out; have := HK2.out; omega
         case rel => exact ⟨(x7_2), (wrap64 (x10_1 + 1)), (wrap64 (x497000_1 + 1)), (1), (wrap64 (x497002_1 + 1)), (by first | rfl | (simp; done) | (simp [*]; done)), H', ⟨by have := HK1.out; have := HK2.out; omega⟩, ⟨kr (Kd.R_mono (Kd.R_far (p := ⟨gb496, 0, none⟩) (Kd.R_far (p := ⟨gb496, 1, none⟩) (Kd.R_types HO_7.out BK496.out (by decide)) (fun _ hk => hk.2) (.int .i64 1)) (fun _ hk => hk.2) (.int .i64 (wrap64 (x497000_1 + 1)))) (fun _ hk => trivial))⟩, ⟨by (with_reducible repeat (first | apply kb1 | apply kb2 | apply kb3 | apply blkPut3_0 | apply blkPut3_1)); exact BK496.out⟩, ⟨by repeat (first | (with_reducible first | exact HB.out | apply kc1 | apply kc2 | apply kc3 | refine kc4 ?_ GE496.out) | exact HB.out)⟩⟩
        ·rw [if_neg c30] at H
         have c30b0 : decide (12 < x497001_1) = false := decide_eq_false c30
         clear c30
         have H' := ka H
         clear H
         have hcz35 := blkAll3 BK496.out
         try go_wp2
         have n0_ : Aside0 (Kd.R k45 45 (wr.setCell ⟨gb496, 2, none⟩ (.int .i64 (wrap64 (x497002_1 + 1)))) w.heap.size (fun _ => True) u7 x7_2) := ⟨kr (Kd.R_mono (Kd.R_far (p := ⟨gb496, 2, none⟩) (Kd.R_types HO_7.out BK496.out (by decide)) (fun _ hk => hk.2) (.int .i64 (wrap64 (x497002_1 + 1)))) (fun _ hk => trivial))⟩
         have n1_ : Aside0 ((wr.setCell ⟨gb496, 2, none⟩ (.int .i64 (wrap64 (x497002_1 + 1)))).heap[gb496]? = some (.cells #[.int .i64 x497000_1, .int .i64 x497001_1, .int .i64 (wrap64 (x497002_1 + 1))] 30 (0, 0))) := ⟨by (with_reducible repeat (first | apply kb1 | apply kb2 | apply kb3)); refine blk_put (cs := #[.int .i64 x497000_1, .int .i64 x497001_1, .int .i64 x497002_1]) ?_ 2 _ rfl; (with_reducible repeat (first | apply kb1 | apply kb2 | apply kb3)); exact BK496.out⟩
         have n2_ : Aside0 (Below w.heap.size w (wr.setCell ⟨gb496, 2, none⟩ (.int .i64 (wrap64 (x497002_1 + 1))))) := ⟨by repeat (first | (with_reducible first | exact HB.out | apply kc1 | apply kc2 | apply kc3 | refine kc4 ?_ GE496.out) | exact HB.out)⟩
         (try clear HO_7)
         (try clear BK496)
         (try clear HB)
         generalize (wr.setCell ⟨gb496, 2, none⟩ (.int .i64 (wrap64 (x497002_1 + 1)))) = w36 at n0_ n1_ n2_ ⊢
         have HO_7 := n0_
         have BK496 := n1_
         have HB := n2_
         clear n0_ n1_ n2_
         replace HO_7 := ka (Kd.R_drew HO_7.out)
         replace BK496 := ka (blk_drew BK496.out)
         replace HB := ka (below_drew1 HB.out)
         refine start_ (n := 8) (S := fun w' => w'.cell? ⟨gb496, 0, none⟩ = some (.int .i64 x497000_1) ∧ w'.cell? ⟨gb496, 1, none⟩ = some (.int .i64 x497001_1) ∧ w'.cell? ⟨gb496, 2, none⟩ = some (.int .i64 (wrap64 (x497002_1 + 1)))) (ds := []) #[false, false, false, false, false, false, false, false] (by kernel_rfl) rfl rfl ⟨(blk_cell BK496.out 0).trans rfl, (blk_cell BK496.out 1).trans rfl, (blk_cell BK496.out 2).trans rfl⟩ (fun hHeld => ?_); refine with_tabW trivetref14_Outs.tab13 trivetref14_Outs.bits13 (fun HT_ HW_ => ?_)
         generalize w36.drew = w37 at HO_7 BK496 HB hHeld ⊢
         refine pure_ (i := 0) (N := some 52) (v := ?_) (a' := ?_) #[true, false, false, false, false, false, false, false] rfl rfl (any_of HT_.out (by kernel_rfl)) (fun _ _ _ h => h) (Or.inl ⟨by rfl, ?_⟩) ?_ ?_
         rotate_left
         ·intro w'
          go_simp
          with_reducible rfl
         rotate_left
         ·simp only [Act.put, List.setIfInBounds_toArray, List.set_cons_zero, List.set_cons_succ, i64_w, i32_w]
          rfl
         refine pure_ (i := 2) (N := some 54) (v := ?_) (a' := ?_) #[true, false, true, false, false, false, false, false] rfl rfl (any_of HT_.out (by kernel_rfl)) (fun _ _ _ h => h) (Or.inl ⟨by rfl, ?_⟩) ?_ ?_
         rotate_left
         ·intro w'
          go_simp
          with_reducible rfl
         rotate_left
         ·simp only [Act.put, List.setIfInBounds_toArray, List.set_cons_zero, List.set_cons_succ, i64_w, i32_w]
          rfl
         refine pure_ (i := 4) (N := some 56) (v := ?_) (a' := ?_) #[true, false, true, false, true, false, false, false] rfl rfl (any_of HT_.out (by kernel_rfl)) (fun _ _ _ h => h) (Or.inl ⟨by rfl, ?_⟩) ?_ ?_
         rotate_left
         ·intro w'
          go_simp
          with_reducible rfl
         rotate_left
         ·simp only [Act.put, List.setIfInBounds_toArray, List.set_cons_zero, List.set_cons_succ, i64_w, i32_w]
          rfl
         refine take_ (i := 1) (N := some 53) (v := ?_) (a' := ?_) #[true, true, true, false, true, false, false, false] rfl rfl (take_ofW HT_.out HW_.out (by kernel_rfl)) (fun _ _ _ h => h) (Or.inl ⟨by rfl, ?_⟩) hHeld ?_ ?_
         rotate_left
         ·rintro w' ⟨s0, s1, s2⟩
          go_simp
          with_reducible rfl
         rotate_left
         ·simp only [Act.put, List.setIfInBounds_toArray, List.set_cons_zero, List.set_cons_succ, i64_w, i32_w]
          rfl
         refine take_ (i := 3) (N := some 55) (v := ?_) (a' := ?_) #[true, true, true, true, true, false, false, false] rfl rfl (take_ofW HT_.out HW_.out (by kernel_rfl)) (fun _ _ _ h => h) (Or.inl ⟨by rfl, ?_⟩) hHeld ?_ ?_
         rotate_left
         ·rintro w' ⟨s0, s1, s2⟩
          go_simp
          with_reducible rfl
         rotate_left
         ·simp only [Act.put, List.setIfInBounds_toArray, List.set_cons_zero, List.set_cons_succ, i64_w, i32_w]
          rfl
         refine take_ (i := 5) (N := some 57) (v := ?_) (a' := ?_) #[true, true, true, true, true, true, false, false] rfl rfl (take_ofW HT_.out HW_.out (by kernel_rfl)) (fun _ _ _ h => h) (Or.inl ⟨by rfl, ?_⟩) hHeld ?_ ?_
         rotate_left
         ·rintro w' ⟨s0, s1, s2⟩
          go_simp
          with_reducible rfl
         rotate_left
         ·simp only [Act.put, List.setIfInBounds_toArray, List.set_cons_zero, List.set_cons_succ, i64_w, i32_w]
          rfl
         refine one_ (i := 6) (N := some 58) #[true, true, true, true, true, true, true, false] rfl rfl (one_of HT_.out (by kernel_rfl)) (by decide) (fun K hK => ?_)
         refine goes_ Try.func24 (by kernel_rfl) rfl #[.int .i64 x497000_1, .int .i64 x497001_1] (by rfl) rfl rfl (by (try simp only [List.map_toArray, List.map_cons, List.map_nil]); first | done | rfl | (simp only [List.length_drop, List.length_take]; rfl)) ?_
         with_reducible refine (trivetref04_Days_s.calls x497000_1 x497001_1 t503 _ A19.out).mono ?_
         rintro e w' ⟨rfl, ⟨nd, rfl⟩⟩
         refine ⟨_, rfl, ?_⟩
         refine hK.out _ _ ⟨(blk_cell BK496.out 0).trans rfl, (blk_cell BK496.out 1).trans rfl, (blk_cell BK496.out 2).trans rfl⟩ (fun hHeld => ?_)
         clear hK K
         refine norm_ (a' := ?_) ?_ ?_
         rotate_left
         ·show Act.put _ (some 58) _ = _
          simp only [Act.put, List.setIfInBounds_toArray, List.set_cons_zero, List.set_cons_succ, i64_w, i32_w]
          rfl
         refine pure_ (i := 7) (N := some 59) (v := ?_) (a' := ?_) #[true, true, true, true, true, true, true, true] rfl rfl (any_of HT_.out (by kernel_rfl)) (fun _ _ _ h => h) (Or.inl ⟨by rfl, ?_⟩) ?_ ?_
         rotate_left
         ·intro w'
          go_simp
          with_reducible rfl
         rotate_left
         ·simp only [Act.put, List.setIfInBounds_toArray, List.set_cons_zero, List.set_cons_succ, i64_w, i32_w]
          rfl
         refine done_ (done_of HT_.out (by kernel_rfl)) ?_
         have hcz38 := blkAll3 BK496.out
         try go_wp2
         go_roundg k2
         case measure => have := HK1.out; have := HK2.out; omega
         case rel => exact ⟨(x7_2), (wrap64 (x10_1 + 1)), (x497000_1), (x497001_1), (wrap64 (x497002_1 + 1)), (by first | rfl | (simp; done) | (simp [*]; done)), H', ⟨by have := HK1.out; have := HK2.out; omega⟩, ⟨kr HO_7.out⟩, ⟨by (with_reducible repeat (first | apply kb1 | apply kb2 | apply kb3)); exact BK496.out⟩, ⟨by repeat (first | (with_reducible first | exact HB.out | apply kc1 | apply kc2 | apply kc3 | refine kc4 ?_ GE496.out) | exact HB.out)⟩⟩
   ·rw [if_neg c8] at H
    have c8b0 : decide (x10_1 < a2) = false := decide_eq_false c8
    clear c8
    obtain rfl := Option.some.inj H
    go_wp2
    go_ret
    exact ⟨_, by first | rfl | (simp [errW_none, errW_some] <;> rfl) | (simp [*, errW_none, errW_some] <;> rfl), by (with_reducible repeat (first | apply Kd.R_alloc | apply Kd.R_drewN | apply Kd.R_drew)); exact HO_7.out, by repeat (first | (with_reducible first | exact HB.out | apply kc1 | apply kc2 | apply kc3 | refine kc4 ?_ GE496.out) | exact HB.out)⟩

end Go.Proofs.Ytmkfbaoglmmhjaa.P
