-- Written by a program of this session out of the translation of the seat: Lean functions and the proofs that the Go functions come to them.
import Derived.Test.YtbbhdlbpefibeaaGreatDoorPx0
import Derived.Test.YtbbhdlbpefibeaaGreatDoorPx2
import Derived.Test.YtbbhdlbpefibeaaGreatDoorPx3
import Derived.Test.YtbbhdlbpefibeaaGreatDoorPx4
import Derived.Test.YtbbhdlbpefibeaaGreatDoorPx5
namespace Go.Proofs.YtbbhdlbpefibeaaGreatDoor.P
open Go.RowKit Go.Proofs.YtbbhdlbpefibeaaGreatDoorW.PrintWords Go.Proofs.YtbbhdlbpefibeaaGreatDoorW.PrintLast Go.Proofs.YtbbhdlbpefibeaaGreatDoorW.PrintMore
attribute [local go_sem] max2_int min2_int max_two min_two max_three min_three max_four min_four   -- for this text's walks alone
set_option linter.unusedVariables false
set_option linter.unusedSimpArgs false

/-! ### trivettop_TopEscrow: function 3 -/
mutual
def trivettop_TopEscrow.j0 : Nat → List Int → Int → Bool → Option Int → Bool → Int → Int → Int → Int → Int → List Int → Option (Bool)
 | 0, _, _, _, _, _, _, _, _, _, _, _ => none
 | k + 1, x0, x1, x5, x7, x32, x454000, x454001, x454002, x454003, x454004, x454005 => if x32 = true then (if x5 = true then (if x7.isNone = true then (none) else (some ((x7.getD 0) == 1))) else (none)) else (if x7.isNone = true then ((trivetref15_Balances.f k x0 x454001 x454003).bind fun t457 => ((trivetref15_Balances.f k x0 x454001 (wrap64 (x454003 - 1))).bind fun t460 => (trivettop_TopEscrow.l0 k x0 x1 x5 t457 t460 false 0 x454000 x454001 x454002 x454003 x454004 x454005))) else (none))
def trivettop_TopEscrow.l0 : Nat → List Int → Int → Bool → List Int → List Int → Bool → Int → Int → Int → Int → Int → Int → List Int → Option (Bool)
 | 0, _, _, _, _, _, _, _, _, _, _, _, _, _ => none
 | k + 1, x0, x1, x5, x9, x10, x11, x12, x454000, x454001, x454002, x454003, x454004, x454005 => if x12 < 12 then (if 0 ≤ x12 then (if x12 < (x9.length : Int) then (if (rd x9 x12) < x454002 then (none) else (if x11 = true then (trivettop_TopEscrow.l0 k x0 x1 x5 x9 x10 true (wrap64 (x12 + 1)) x454000 x454001 x454002 x454003 x454004 x454005) else (if x12 < (x10.length : Int) then (trivettop_TopEscrow.l0 k x0 x1 x5 x9 x10 (decide ((rd x10 x12) < x454002)) (wrap64 (x12 + 1)) x454000 x454001 x454002 x454003 x454004 x454005) else (none)))) else (none)) else (none)) else ((trivetref15_Analyze.f k x0 x1).bind fun bt465 => (if x5 = true then (if x11 = true then (if x454001 = bt465.2.1 then (if x454002 = bt465.2.2.1 then (some (x454003 == bt465.2.2.2.1)) else (none)) else (none)) else (none)) else (none)))
end
def trivettop_TopEscrow.f (k : Nat) (l0 : List Int) (a1 : Int) : Option (Bool) := (trivettop_up.f).bind fun t443 => ((analysis_Analyze.f k l0 a1).bind fun bt444 => ((trivetref15_May.f k l0).bind fun t454 => (if t454 = true then (if a1 < 0 then (trivettop_TopEscrow.j0 k l0 a1 t443 bt444.2.2.2.2.2.2 true bt444.1 bt444.2.1 bt444.2.2.1 bt444.2.2.2.1 bt444.2.2.2.2.1 bt444.2.2.2.2.2.1) else (trivettop_TopEscrow.j0 k l0 a1 t443 bt444.2.2.2.2.2.2 (decide (a1 > 10000000000000)) bt444.1 bt444.2.1 bt444.2.2.1 bt444.2.2.2.1 bt444.2.2.2.2.1 bt444.2.2.2.2.2.1)) else (trivettop_TopEscrow.j0 k l0 a1 t443 bt444.2.2.2.2.2.2 true bt444.1 bt444.2.1 bt444.2.2.1 bt444.2.2.2.1 bt444.2.2.2.2.1 bt444.2.2.2.2.2.1))))
theorem trivettop_TopEscrow.mono_l : ∀ k, (∀ y0 y1 y2 y3 y4 y5 y6 y7 y8 y9 y10, LeO (trivettop_TopEscrow.j0 k y0 y1 y2 y3 y4 y5 y6 y7 y8 y9 y10) (trivettop_TopEscrow.j0 (k + 1) y0 y1 y2 y3 y4 y5 y6 y7 y8 y9 y10)) ∧ (∀ y0 y1 y2 y3 y4 y5 y6 y7 y8 y9 y10 y11 y12, LeO (trivettop_TopEscrow.l0 k y0 y1 y2 y3 y4 y5 y6 y7 y8 y9 y10 y11 y12) (trivettop_TopEscrow.l0 (k + 1) y0 y1 y2 y3 y4 y5 y6 y7 y8 y9 y10 y11 y12))
 | 0 => ⟨fun _ _ _ _ _ _ _ _ _ _ _ r h => by simp [trivettop_TopEscrow.j0] at h, fun _ _ _ _ _ _ _ _ _ _ _ _ _ r h => by simp [trivettop_TopEscrow.l0] at h⟩
 | k + 1 => by
  obtain ⟨ih0, ih1⟩ := trivettop_TopEscrow.mono_l k
  refine ⟨?_, ?_⟩
  ·intro y0 y1 y2 y3 y4 y5 y6 y7 y8 y9 y10
   unfold trivettop_TopEscrow.j0
   repeat' first
   | (with_reducible exact ih0 _ _ _ _ _ _ _ _ _ _ _)
   | (with_reducible exact ih1 _ _ _ _ _ _ _ _ _ _ _ _ _)
   | (with_reducible exact analysis_Analyze.mono _ _ _)
   | (with_reducible exact trivetref15_Analyze.mono _ _ _)
   | (with_reducible exact trivetref15_Balances.mono _ _ _ _)
   | (with_reducible exact trivetref15_May.mono _ _)
   | (with_reducible exact LeO.refl _)
   | (with_reducible exact LeO.none _)
   | (with_reducible refine LeO.ite ?_ ?_)
   | (with_reducible refine LeO.bind ?_ (fun _ => ?_))
   | exact ih0 _ _ _ _ _ _ _ _ _ _ _
   | exact ih1 _ _ _ _ _ _ _ _ _ _ _ _ _
   | exact analysis_Analyze.mono _ _ _
   | exact trivetref15_Analyze.mono _ _ _
   | exact trivetref15_Balances.mono _ _ _ _
   | exact trivetref15_May.mono _ _
   | exact LeO.none _
   | refine LeO.ite ?_ ?_
   | refine LeO.bind ?_ (fun _ => ?_)
  ·intro y0 y1 y2 y3 y4 y5 y6 y7 y8 y9 y10 y11 y12
   unfold trivettop_TopEscrow.l0
   repeat' first
   | (with_reducible exact ih0 _ _ _ _ _ _ _ _ _ _ _)
   | (with_reducible exact ih1 _ _ _ _ _ _ _ _ _ _ _ _ _)
   | (with_reducible exact analysis_Analyze.mono _ _ _)
   | (with_reducible exact trivetref15_Analyze.mono _ _ _)
   | (with_reducible exact trivetref15_Balances.mono _ _ _ _)
   | (with_reducible exact trivetref15_May.mono _ _)
   | (with_reducible exact LeO.refl _)
   | (with_reducible exact LeO.none _)
   | (with_reducible refine LeO.ite ?_ ?_)
   | (with_reducible refine LeO.bind ?_ (fun _ => ?_))
   | exact ih0 _ _ _ _ _ _ _ _ _ _ _
   | exact ih1 _ _ _ _ _ _ _ _ _ _ _ _ _
   | exact analysis_Analyze.mono _ _ _
   | exact trivetref15_Analyze.mono _ _ _
   | exact trivetref15_Balances.mono _ _ _ _
   | exact trivetref15_May.mono _ _
   | exact LeO.none _
   | refine LeO.ite ?_ ?_
   | refine LeO.bind ?_ (fun _ => ?_)
theorem trivettop_TopEscrow.mono : ∀ a0 a1 k, LeO (trivettop_TopEscrow.f k a0 a1) (trivettop_TopEscrow.f (k + 1) a0 a1) := by
 intro a0 a1 k
 obtain ⟨ih0, ih1⟩ := trivettop_TopEscrow.mono_l k
 unfold trivettop_TopEscrow.f
 repeat' first
   | (with_reducible exact ih0 _ _ _ _ _ _ _ _ _ _ _)
   | (with_reducible exact ih1 _ _ _ _ _ _ _ _ _ _ _ _ _)
   | (with_reducible exact analysis_Analyze.mono _ _ _)
   | (with_reducible exact trivetref15_Analyze.mono _ _ _)
   | (with_reducible exact trivetref15_Balances.mono _ _ _ _)
   | (with_reducible exact trivetref15_May.mono _ _)
   | (with_reducible exact LeO.refl _)
   | (with_reducible exact LeO.none _)
   | (with_reducible refine LeO.ite ?_ ?_)
   | (with_reducible refine LeO.bind ?_ (fun _ => ?_))
   | exact ih0 _ _ _ _ _ _ _ _ _ _ _
   | exact ih1 _ _ _ _ _ _ _ _ _ _ _ _ _
   | exact analysis_Analyze.mono _ _ _
   | exact trivetref15_Analyze.mono _ _ _
   | exact trivetref15_Balances.mono _ _ _ _
   | exact trivetref15_May.mono _ _
   | exact LeO.none _
   | refine LeO.ite ?_ ?_
   | refine LeO.bind ?_ (fun _ => ?_)
set_option maxHeartbeats 8000000 in
set_option maxRecDepth 100000 in
theorem trivettop_TopEscrow.calls (k : Nat) (A0 : Option Addr) (c0 : Nat) (l0 : List Int) (a1 : Int) (r : Bool) (w : World) (hr0 : Kd.C (Kd.int .i64) w A0 l0.length l0) (hc0 : l0.length ≤ c0) (h : trivettop_TopEscrow.f k l0 a1 = some r) :
  Calls Tryz.prog 3 #[.slice A0 l0.length c0, .int .i64 a1] w fun e w' => e = .returned (.bool r) ∧ Below w.heap.size w w' := by
 have hu25 := Tryz.underlying25
 have hu27 := Tryz.underlying27
 have hu31 := Tryz.underlying31
 have HR0 := ka hr0
 have HC0 := ka hc0
 clear hr0 hc0
 have HB := ka (Below.refl w.heap.size w)
 have H : ((trivettop_up.f).bind fun t443 => ((analysis_Analyze.f k l0 a1).bind fun bt444 => ((trivetref15_May.f k l0).bind fun t454 => (if t454 = true then (if a1 < 0 then (trivettop_TopEscrow.j0 k l0 a1 t443 bt444.2.2.2.2.2.2 true bt444.1 bt444.2.1 bt444.2.2.1 bt444.2.2.2.1 bt444.2.2.2.2.1 bt444.2.2.2.2.2.1) else (trivettop_TopEscrow.j0 k l0 a1 t443 bt444.2.2.2.2.2.2 (decide (a1 > 10000000000000)) bt444.1 bt444.2.1 bt444.2.2.1 bt444.2.2.2.1 bt444.2.2.2.2.1 bt444.2.2.2.2.2.1)) else (trivettop_TopEscrow.j0 k l0 a1 t443 bt444.2.2.2.2.2.2 true bt444.1 bt444.2.1 bt444.2.2.1 bt444.2.2.2.1 bt444.2.2.2.2.1 bt444.2.2.2.2.2.1))))) = some r := h
 clear h
 replace H := Option.bind_eq_some_iff.mp H
 obtain ⟨t443, A30, H⟩ := H
 replace H : ((analysis_Analyze.f k l0 a1).bind fun bt444 => ((trivetref15_May.f k l0).bind fun t454 => (if t454 = true then (if a1 < 0 then (trivettop_TopEscrow.j0 k l0 a1 t443 bt444.2.2.2.2.2.2 true bt444.1 bt444.2.1 bt444.2.2.1 bt444.2.2.2.1 bt444.2.2.2.2.1 bt444.2.2.2.2.2.1) else (trivettop_TopEscrow.j0 k l0 a1 t443 bt444.2.2.2.2.2.2 (decide (a1 > 10000000000000)) bt444.1 bt444.2.1 bt444.2.2.1 bt444.2.2.2.1 bt444.2.2.2.2.1 bt444.2.2.2.2.2.1)) else (trivettop_TopEscrow.j0 k l0 a1 t443 bt444.2.2.2.2.2.2 true bt444.1 bt444.2.1 bt444.2.2.1 bt444.2.2.2.1 bt444.2.2.2.2.1 bt444.2.2.2.2.2.1)))) = some r := H
 have A3 := ka A30
 clear A30
 replace H := Option.bind_eq_some_iff.mp H
 obtain ⟨⟨t444, t445, t446, t447, t448, t449, t452⟩, A40, H⟩ := H
 replace H : ((trivetref15_May.f k l0).bind fun t454 => (if t454 = true then (if a1 < 0 then (trivettop_TopEscrow.j0 k l0 a1 t443 t452 true t444 t445 t446 t447 t448 t449) else (trivettop_TopEscrow.j0 k l0 a1 t443 t452 (decide (a1 > 10000000000000)) t444 t445 t446 t447 t448 t449)) else (trivettop_TopEscrow.j0 k l0 a1 t443 t452 true t444 t445 t446 t447 t448 t449))) = some r := H
 have A4 := ka A40
 clear A40
 replace H := Option.bind_eq_some_iff.mp H
 obtain ⟨t454, A50, H⟩ := H
 replace H : (if t454 = true then (if a1 < 0 then (trivettop_TopEscrow.j0 k l0 a1 t443 t452 true t444 t445 t446 t447 t448 t449) else (trivettop_TopEscrow.j0 k l0 a1 t443 t452 (decide (a1 > 10000000000000)) t444 t445 t446 t447 t448 t449)) else (trivettop_TopEscrow.j0 k l0 a1 t443 t452 true t444 t445 t446 t447 t448 t449)) = some r := H
 have A5 := ka A50
 clear A50
 have HC6 := ka H
 clear H
 go_enter Tryz.func3, Tryz.ntmps3
 go_upto_region 4 with (first | (go_at_call 6; (with_reducible refine (trivettop_up.calls  t443 _ A3.out).mono ?_); rintro e w7 ⟨rfl, hb⟩; replace HB := ka (below_step (kw HB.out) hb); (try clear hb); (try clear hb2); (try clear hk); (try clear hi)) | (go_at_call 7; (with_reducible refine (analysis_Analyze.calls k _ _ l0 a1 t444 t445 t446 t447 t448 t449 t452 _ ?side1 ?side2 A4.out).mono ?_); (case side1 => repeat (first | exact (Kd.C_below HR0.out HB.out) | (with_reducible refine Kd.C_alloc ?_ _) | (with_reducible refine Kd.C_drewN ?_ _) | (with_reducible refine Kd.C_drew ?_))); (case side2 => exact HC0.out); rintro e w8 ⟨v450, rfl, ho0, hb⟩; have HO451 := ka (Kd.R_lower ho0 (below_size (kw HB.out))); replace HB := ka (below_step (kw HB.out) hb); (try clear hb); (try clear hb2); (try clear hk); (try clear hi); (try clear ho0); (try simp only [errW_none, errW_some])) | ((with_reducible refine gate_dst (N := 6) rfl ?_); refine kx (N := 6) (cs := #[.int .i64 0, .int .i64 0, .int .i64 0, .int .i64 0, .int .i64 0, .slice none 0 0]) (t := 25) ?_; intro gb453 hg w9 hbox hb; have n0_ := ka (Kd.R_below (kr HO451.out) hb); have n1_ := ka (below_step (kw HB.out) hb); have n2_ := ka (hbox); have n3_ := ka ((by rw [hg]; exact (below_size (kw HB.out)) : w.heap.size ≤ gb453)); have n4_ := n3_; clear HO451; clear HB; have HO451 := n0_; have HB := n1_; have BK453 := n2_; have GW453 := n3_; have GE453 := n4_; clear n0_ n1_ n2_ n3_ n4_; clear hb hbox hg; have hcz10 := blkAll6 BK453.out; obtain ⟨Ao11, co11, eo11⟩ := Kd.R_slice HO451.out; subst eo11) | (go_at_call 8; (with_reducible refine (trivetref15_May.calls k _ _ l0 t454 _ ?side1 ?side2 A5.out).mono ?_); (case side1 => exact Kd.C_below HR0.out (kw HB.out)); (case side2 => exact HC0.out); rintro e w' ⟨rfl, ⟨nd, rfl⟩⟩; (try first | exact ⟨rfl, _, World.drewN_drewN _ _ _⟩ | exact ⟨rfl, _, Eq.trans (World.drewN_drewN _ _ _) (congrArg (World.drewN _) (Nat.add_assoc _ _ _))⟩)))
 repeat (go_quiet (first | (go_at_call 6; (with_reducible refine (trivettop_up.calls  t443 _ A3.out).mono ?_); rintro e w7 ⟨rfl, hb⟩; replace HB := ka (below_step (kw HB.out) hb); (try clear hb); (try clear hb2); (try clear hk); (try clear hi)) | (go_at_call 7; (with_reducible refine (analysis_Analyze.calls k _ _ l0 a1 t444 t445 t446 t447 t448 t449 t452 _ ?side1 ?side2 A4.out).mono ?_); (case side1 => repeat (first | exact (Kd.C_below HR0.out HB.out) | (with_reducible refine Kd.C_alloc ?_ _) | (with_reducible refine Kd.C_drewN ?_ _) | (with_reducible refine Kd.C_drew ?_))); (case side2 => exact HC0.out); rintro e w8 ⟨v450, rfl, ho0, hb⟩; have HO451 := ka (Kd.R_lower ho0 (below_size (kw HB.out))); replace HB := ka (below_step (kw HB.out) hb); (try clear hb); (try clear hb2); (try clear hk); (try clear hi); (try clear ho0); (try simp only [errW_none, errW_some])) | ((with_reducible refine gate_dst (N := 6) rfl ?_); refine kx (N := 6) (cs := #[.int .i64 0, .int .i64 0, .int .i64 0, .int .i64 0, .int .i64 0, .slice none 0 0]) (t := 25) ?_; intro gb453 hg w9 hbox hb; have n0_ := ka (Kd.R_below (kr HO451.out) hb); have n1_ := ka (below_step (kw HB.out) hb); have n2_ := ka (hbox); have n3_ := ka ((by rw [hg]; exact (below_size (kw HB.out)) : w.heap.size ≤ gb453)); have n4_ := n3_; clear HO451; clear HB; have HO451 := n0_; have HB := n1_; have BK453 := n2_; have GW453 := n3_; have GE453 := n4_; clear n0_ n1_ n2_ n3_ n4_; clear hb hbox hg; have hcz10 := blkAll6 BK453.out; obtain ⟨Ao11, co11, eo11⟩ := Kd.R_slice HO451.out; subst eo11) | (go_at_call 8; (with_reducible refine (trivetref15_May.calls k _ _ l0 t454 _ ?side1 ?side2 A5.out).mono ?_); (case side1 => exact Kd.C_below HR0.out (kw HB.out)); (case side2 => exact HC0.out); rintro e w' ⟨rfl, ⟨nd, rfl⟩⟩; (try first | exact ⟨rfl, _, World.drewN_drewN _ _ _⟩ | exact ⟨rfl, _, Eq.trans (World.drewN_drewN _ _ _) (congrArg (World.drewN _) (Nat.add_assoc _ _ _))⟩))); go_upto_region 4 with (first | (go_at_call 6; (with_reducible refine (trivettop_up.calls  t443 _ A3.out).mono ?_); rintro e w7 ⟨rfl, hb⟩; replace HB := ka (below_step (kw HB.out) hb); (try clear hb); (try clear hb2); (try clear hk); (try clear hi)) | (go_at_call 7; (with_reducible refine (analysis_Analyze.calls k _ _ l0 a1 t444 t445 t446 t447 t448 t449 t452 _ ?side1 ?side2 A4.out).mono ?_); (case side1 => repeat (first | exact (Kd.C_below HR0.out HB.out) | (with_reducible refine Kd.C_alloc ?_ _) | (with_reducible refine Kd.C_drewN ?_ _) | (with_reducible refine Kd.C_drew ?_))); (case side2 => exact HC0.out); rintro e w8 ⟨v450, rfl, ho0, hb⟩; have HO451 := ka (Kd.R_lower ho0 (below_size (kw HB.out))); replace HB := ka (below_step (kw HB.out) hb); (try clear hb); (try clear hb2); (try clear hk); (try clear hi); (try clear ho0); (try simp only [errW_none, errW_some])) | ((with_reducible refine gate_dst (N := 6) rfl ?_); refine kx (N := 6) (cs := #[.int .i64 0, .int .i64 0, .int .i64 0, .int .i64 0, .int .i64 0, .slice none 0 0]) (t := 25) ?_; intro gb453 hg w9 hbox hb; have n0_ := ka (Kd.R_below (kr HO451.out) hb); have n1_ := ka (below_step (kw HB.out) hb); have n2_ := ka (hbox); have n3_ := ka ((by rw [hg]; exact (below_size (kw HB.out)) : w.heap.size ≤ gb453)); have n4_ := n3_; clear HO451; clear HB; have HO451 := n0_; have HB := n1_; have BK453 := n2_; have GW453 := n3_; have GE453 := n4_; clear n0_ n1_ n2_ n3_ n4_; clear hb hbox hg; have hcz10 := blkAll6 BK453.out; obtain ⟨Ao11, co11, eo11⟩ := Kd.R_slice HO451.out; subst eo11) | (go_at_call 8; (with_reducible refine (trivetref15_May.calls k _ _ l0 t454 _ ?side1 ?side2 A5.out).mono ?_); (case side1 => exact Kd.C_below HR0.out (kw HB.out)); (case side2 => exact HC0.out); rintro e w' ⟨rfl, ⟨nd, rfl⟩⟩; (try first | exact ⟨rfl, _, World.drewN_drewN _ _ _⟩ | exact ⟨rfl, _, Eq.trans (World.drewN_drewN _ _ _) (congrArg (World.drewN _) (Nat.add_assoc _ _ _))⟩))))
 (try simp only [Act.put, List.setIfInBounds_toArray, List.set_cons_zero, List.set_cons_succ])
 go_cut [32] (fun v32 wc => ∃ (kq : Nat) (x32_5 : Bool), v32 = .bool x32_5 ∧ Aside0 (trivettop_TopEscrow.j0 kq l0 a1 t443 t452 x32_5 t444 t445 t446 t447 t448 t449 = some r) ∧ Aside0 (kq ≤ k) ∧ Aside0 (Kd.R (Kd.int .i64) 2 wc w.heap.size (fun _ => True) (.slice Ao11 t449.length co11) t449) ∧ Aside0 (wc.heap[gb453]? = some (.cells #[.int .i64 t444, .int .i64 t445, .int .i64 t446, .int .i64 t447, .int .i64 t448, (.slice Ao11 t449.length co11)] 25 (0, 0))) ∧ Aside0 (Below w.heap.size w wc))
 case first =>
  have H := HC6.out
  clear HC6
  by_cases c12 : t454 = true
  ·subst c12
   have H1 : (if a1 < 0 then (trivettop_TopEscrow.j0 k l0 a1 t443 t452 true t444 t445 t446 t447 t448 t449) else (trivettop_TopEscrow.j0 k l0 a1 t443 t452 (decide (a1 > 10000000000000)) t444 t445 t446 t447 t448 t449)) = some r := by rw [if_pos rfl] at H; exact H
   clear H
   have H := H1
   clear H1
   by_cases c13 : a1 < 0
   ·rw [if_pos c13] at H
    have c13b0 : decide (a1 < 0) = true := decide_eq_true c13
    clear c13
    (first | rw [c13b0] | (simp only [i64_w, i32_w]; rw [c13b0]) | skip)
    have H' := ka H
    clear H
    go_wp2
    repeat (go_quiet (fail); try go_wp2)
    go_meet
    case rel => exact ⟨_, (true), (by first | rfl | (simp; done) | (simp [*]; done)), H', ⟨by first | omega | exact Nat.le_refl _⟩, ⟨kr (Kd.R_mono (Kd.R_far (p := ⟨gb453, 5, none⟩) (Kd.R_far (p := ⟨gb453, 4, none⟩) (Kd.R_far (p := ⟨gb453, 3, none⟩) (Kd.R_far (p := ⟨gb453, 2, none⟩) (Kd.R_far (p := ⟨gb453, 1, none⟩) (Kd.R_far (p := ⟨gb453, 0, none⟩) (Kd.R_types HO451.out BK453.out (by decide)) (fun _ hk => hk.2) (.int .i64 t444)) (fun _ hk => hk.2) (.int .i64 t445)) (fun _ hk => hk.2) (.int .i64 t446)) (fun _ hk => hk.2) (.int .i64 t447)) (fun _ hk => hk.2) (.int .i64 t448)) (fun _ hk => hk.2) (.slice Ao11 t449.length co11)) (fun _ hk => trivial))⟩, ⟨by (with_reducible repeat (first | apply kb1 | apply kb2 | apply kb3 | apply blkPut6_5 | apply blkPut6_4 | apply blkPut6_3 | apply blkPut6_2 | apply blkPut6_1 | apply blkPut6_0)); exact BK453.out⟩, ⟨by repeat (first | (with_reducible first | exact HB.out | apply kc1 | apply kc2 | apply kc3 | refine kc4 ?_ GE453.out) | exact HB.out)⟩⟩
   ·rw [if_neg c13] at H
    have c13b0 : decide (a1 < 0) = false := decide_eq_false c13
    clear c13
    (first | rw [c13b0] | (simp only [i64_w, i32_w]; rw [c13b0]) | skip)
    have H' := ka H
    clear H
    go_wp2
    repeat (go_quiet (fail); try go_wp2)
    go_meet
    case rel => exact ⟨_, (decide (a1 > 10000000000000)), (by first | rfl | (simp; done) | (simp [*]; done)), H', ⟨by first | omega | exact Nat.le_refl _⟩, ⟨kr (Kd.R_mono (Kd.R_far (p := ⟨gb453, 5, none⟩) (Kd.R_far (p := ⟨gb453, 4, none⟩) (Kd.R_far (p := ⟨gb453, 3, none⟩) (Kd.R_far (p := ⟨gb453, 2, none⟩) (Kd.R_far (p := ⟨gb453, 1, none⟩) (Kd.R_far (p := ⟨gb453, 0, none⟩) (Kd.R_types HO451.out BK453.out (by decide)) (fun _ hk => hk.2) (.int .i64 t444)) (fun _ hk => hk.2) (.int .i64 t445)) (fun _ hk => hk.2) (.int .i64 t446)) (fun _ hk => hk.2) (.int .i64 t447)) (fun _ hk => hk.2) (.int .i64 t448)) (fun _ hk => hk.2) (.slice Ao11 t449.length co11)) (fun _ hk => trivial))⟩, ⟨by (with_reducible repeat (first | apply kb1 | apply kb2 | apply kb3 | apply blkPut6_5 | apply blkPut6_4 | apply blkPut6_3 | apply blkPut6_2 | apply blkPut6_1 | apply blkPut6_0)); exact BK453.out⟩, ⟨by repeat (first | (with_reducible first | exact HB.out | apply kc1 | apply kc2 | apply kc3 | refine kc4 ?_ GE453.out) | exact HB.out)⟩⟩
  ·replace c12 := Bool.eq_false_iff.mpr c12
   subst c12
   have H1 : (trivettop_TopEscrow.j0 k l0 a1 t443 t452 true t444 t445 t446 t447 t448 t449) = some r := by rw [if_neg (show ¬ (false = true) by decide)] at H; exact H
   clear H
   have H := H1
   clear H1
   have H' := ka H
   clear H
   go_wp2
   repeat (go_quiet (fail); try go_wp2)
   go_meet
   case rel => exact ⟨_, (true), (by first | rfl | (simp; done) | (simp [*]; done)), H', ⟨by first | omega | exact Nat.le_refl _⟩, ⟨kr (Kd.R_mono (Kd.R_far (p := ⟨gb453, 5, none⟩) (Kd.R_far (p := ⟨gb453, 4, none⟩) (Kd.R_far (p := ⟨gb453, 3, none⟩) (Kd.R_far (p := ⟨gb453, 2, none⟩) (Kd.R_far (p := ⟨gb453, 1, none⟩) (Kd.R_far (p := ⟨gb453, 0, none⟩) (Kd.R_types HO451.out BK453.out (by decide)) (fun _ hk => hk.2) (.int .i64 t444)) (fun _ hk => hk.2) (.int .i64 t445)) (fun _ hk => hk.2) (.int .i64 t446)) (fun _ hk => hk.2) (.int .i64 t447)) (fun _ hk => hk.2) (.int .i64 t448)) (fun _ hk => hk.2) (.slice Ao11 t449.length co11)) (fun _ hk => trivial))⟩, ⟨by (with_reducible repeat (first | apply kb1 | apply kb2 | apply kb3 | apply blkPut6_5 | apply blkPut6_4 | apply blkPut6_3 | apply blkPut6_2 | apply blkPut6_1 | apply blkPut6_0)); exact BK453.out⟩, ⟨by repeat (first | (with_reducible first | exact HB.out | apply kc1 | apply kc2 | apply kc3 | refine kc4 ?_ GE453.out) | exact HB.out)⟩⟩
 case rest =>
  clear HC6
  try clear c1
  try clear p2
  try clear c3
  try clear c12
  try clear c13
  try clear c13b0
  try clear hcz10
  obtain ⟨kq, x32_5, rfl, HA, HJ5, HO_454005, BK453, HB⟩ := hcut
  cases kq with
  | zero => exact absurd HA.out (by simp [trivettop_TopEscrow.j0])
  | succ kj5 =>
   have H := HA.out
   clear HA
   simp only [trivettop_TopEscrow.j0] at H
   by_cases c14 : x32_5 = true
   ·subst c14
    have H1 : (if t443 = true then (if t452.isNone = true then (none) else (some ((t452.getD 0) == 1))) else (none)) = some r := by rw [if_pos rfl] at H; exact H
    clear H
    have H := H1
    clear H1
    by_cases c15 : t443 = true
    ·subst c15
     have H1 : (if t452.isNone = true then (none) else (some ((t452.getD 0) == 1))) = some r := by rw [if_pos rfl] at H; exact H
     clear H
     have H := H1
     clear H1
     rcases t452 with _ | q455
     ·have H1 : (none) = some r := by rw [if_pos (show (none : Option Int).isNone = true by rfl)] at H; exact H
      clear H
      have H := H1
      clear H1
      try simp only [errW_none, errW_some]
      exact absurd H (by simp)
     ·have H1 : (some (q455 == 1)) = some r := by rw [if_neg (show ¬ (some q455).isNone = true by simp)] at H; exact H
      clear H
      have H := H1
      clear H1
      try simp only [errW_none, errW_some]
      obtain rfl := Option.some.inj H
      go_wp2
      repeat (go_quiet (fail); try go_wp2)
      go_ret
      exact ⟨by first | rfl | (simp [errW_none, errW_some] <;> rfl) | (simp [*, errW_none, errW_some] <;> rfl), by repeat (first | (with_reducible first | exact HB.out | apply kc1 | apply kc2 | apply kc3 | refine kc4 ?_ GE453.out) | exact HB.out)⟩
    ·replace c15 := Bool.eq_false_iff.mpr c15
     subst c15
     have H1 : (none) = some r := by rw [if_neg (show ¬ (false = true) by decide)] at H; exact H
     clear H
     have H := H1
     clear H1
     exact absurd H (by simp)
   ·replace c14 := Bool.eq_false_iff.mpr c14
    subst c14
    have H1 : (if t452.isNone = true then ((trivetref15_Balances.f kj5 l0 t445 t447).bind fun t457 => ((trivetref15_Balances.f kj5 l0 t445 (wrap64 (t447 - 1))).bind fun t460 => (trivettop_TopEscrow.l0 kj5 l0 a1 t443 t457 t460 false 0 t444 t445 t446 t447 t448 t449))) else (none)) = some r := by rw [if_neg (show ¬ (false = true) by decide)] at H; exact H
    clear H
    have H := H1
    clear H1
    rcases t452 with _ | q456
    ·have H1 : ((trivetref15_Balances.f kj5 l0 t445 t447).bind fun t457 => ((trivetref15_Balances.f kj5 l0 t445 (wrap64 (t447 - 1))).bind fun t460 => (trivettop_TopEscrow.l0 kj5 l0 a1 t443 t457 t460 false 0 t444 t445 t446 t447 t448 t449))) = some r := by rw [if_pos (show (none : Option Int).isNone = true by rfl)] at H; exact H
     clear H
     have H := H1
     clear H1
     try simp only [errW_none, errW_some]
     replace H := Option.bind_eq_some_iff.mp H
     obtain ⟨t457, A160, H⟩ := H
     replace H : ((trivetref15_Balances.f kj5 l0 t445 (wrap64 (t447 - 1))).bind fun t460 => (trivettop_TopEscrow.l0 kj5 l0 a1 t443 t457 t460 false 0 t444 t445 t446 t447 t448 t449)) = some r := H
     have A16 := ka A160
     clear A160
     replace H := Option.bind_eq_some_iff.mp H
     obtain ⟨t460, A170, H⟩ := H
     replace H : (trivettop_TopEscrow.l0 kj5 l0 a1 t443 t457 t460 false 0 t444 t445 t446 t447 t448 t449) = some r := H
     have A17 := ka A170
     clear A170
     have H' := ka H
     clear H
     have hcz18 := blkAll6 BK453.out
     go_wp2_with (first | (go_at_call 9; (with_reducible refine (trivetref15_Balances.calls kj5 _ _ l0 t445 t447 t457 _ ?side1 ?side2 A16.out).mono ?_); (case side1 => repeat (first | exact (Kd.C_below HR0.out HB.out) | (with_reducible refine Kd.C_alloc ?_ _) | (with_reducible refine Kd.C_drewN ?_ _) | (with_reducible refine Kd.C_drew ?_))); (case side2 => exact HC0.out); rintro e w19 ⟨v458, rfl, ho0, hb⟩; have HO459 := ka (Kd.R_lower (Kd.R_new' ho0 (Kd.R_lt (kr HO_454005.out))) (below_size (kw HB.out))); replace HO_454005 := ka (Kd.R_elder' (kr HO_454005.out) (Kd.R_base ho0) hb); replace BK453 := kbb BK453 hb; replace HB := ka (below_step (kw HB.out) hb); (try clear hb); (try clear hb2); (try clear hk); (try clear hi); (try clear ho0); have hcz20 := blkAll6 BK453.out) | (go_at_call 9; (with_reducible refine (trivetref15_Balances.calls kj5 _ _ l0 t445 (wrap64 (t447 - 1)) t460 _ ?side1 ?side2 A17.out).mono ?_); (case side1 => repeat (first | exact (Kd.C_below HR0.out HB.out) | (with_reducible refine Kd.C_alloc ?_ _) | (with_reducible refine Kd.C_drewN ?_ _) | (with_reducible refine Kd.C_drew ?_))); (case side2 => exact HC0.out); rintro e w21 ⟨v461, rfl, ho0, hb⟩; have HO462 := ka (Kd.R_lower (Kd.R_new' (Kd.R_new' ho0 (Kd.R_lt (kr HO_454005.out))) (Kd.R_lt (kr HO459.out))) (below_size (kw HB.out))); replace HO_454005 := ka (Kd.R_elder' (kr HO_454005.out) (Kd.R_base ho0) hb); replace HO459 := ka (Kd.R_elder' (kr HO459.out) (Kd.R_base ho0) hb); replace BK453 := kbb BK453 hb; replace HB := ka (below_step (kw HB.out) hb); (try clear hb); (try clear hb2); (try clear hk); (try clear hi); (try clear ho0)))
     repeat (go_quiet (first | (go_at_call 9; (with_reducible refine (trivetref15_Balances.calls kj5 _ _ l0 t445 t447 t457 _ ?side1 ?side2 A16.out).mono ?_); (case side1 => repeat (first | exact (Kd.C_below HR0.out HB.out) | (with_reducible refine Kd.C_alloc ?_ _) | (with_reducible refine Kd.C_drewN ?_ _) | (with_reducible refine Kd.C_drew ?_))); (case side2 => exact HC0.out); rintro e w19 ⟨v458, rfl, ho0, hb⟩; have HO459 := ka (Kd.R_lower (Kd.R_new' ho0 (Kd.R_lt (kr HO_454005.out))) (below_size (kw HB.out))); replace HO_454005 := ka (Kd.R_elder' (kr HO_454005.out) (Kd.R_base ho0) hb); replace BK453 := kbb BK453 hb; replace HB := ka (below_step (kw HB.out) hb); (try clear hb); (try clear hb2); (try clear hk); (try clear hi); (try clear ho0); have hcz20 := blkAll6 BK453.out) | (go_at_call 9; (with_reducible refine (trivetref15_Balances.calls kj5 _ _ l0 t445 (wrap64 (t447 - 1)) t460 _ ?side1 ?side2 A17.out).mono ?_); (case side1 => repeat (first | exact (Kd.C_below HR0.out HB.out) | (with_reducible refine Kd.C_alloc ?_ _) | (with_reducible refine Kd.C_drewN ?_ _) | (with_reducible refine Kd.C_drew ?_))); (case side2 => exact HC0.out); rintro e w21 ⟨v461, rfl, ho0, hb⟩; have HO462 := ka (Kd.R_lower (Kd.R_new' (Kd.R_new' ho0 (Kd.R_lt (kr HO_454005.out))) (Kd.R_lt (kr HO459.out))) (below_size (kw HB.out))); replace HO_454005 := ka (Kd.R_elder' (kr HO_454005.out) (Kd.R_base ho0) hb); replace HO459 := ka (Kd.R_elder' (kr HO459.out) (Kd.R_base ho0) hb); replace BK453 := kbb BK453 hb; replace HB := ka (below_step (kw HB.out) hb); (try clear hb); (try clear hb2); (try clear hk); (try clear hi); (try clear ho0))); try go_wp2_with (first | (go_at_call 9; (with_reducible refine (trivetref15_Balances.calls kj5 _ _ l0 t445 t447 t457 _ ?side1 ?side2 A16.out).mono ?_); (case side1 => repeat (first | exact (Kd.C_below HR0.out HB.out) | (with_reducible refine Kd.C_alloc ?_ _) | (with_reducible refine Kd.C_drewN ?_ _) | (with_reducible refine Kd.C_drew ?_))); (case side2 => exact HC0.out); rintro e w19 ⟨v458, rfl, ho0, hb⟩; have HO459 := ka (Kd.R_lower (Kd.R_new' ho0 (Kd.R_lt (kr HO_454005.out))) (below_size (kw HB.out))); replace HO_454005 := ka (Kd.R_elder' (kr HO_454005.out) (Kd.R_base ho0) hb); replace BK453 := kbb BK453 hb; replace HB := ka (below_step (kw HB.out) hb); (try clear hb); (try clear hb2); (try clear hk); (try clear hi); (try clear ho0); have hcz20 := blkAll6 BK453.out) | (go_at_call 9; (with_reducible refine (trivetref15_Balances.calls kj5 _ _ l0 t445 (wrap64 (t447 - 1)) t460 _ ?side1 ?side2 A17.out).mono ?_); (case side1 => repeat (first | exact (Kd.C_below HR0.out HB.out) | (with_reducible refine Kd.C_alloc ?_ _) | (with_reducible refine Kd.C_drewN ?_ _) | (with_reducible refine Kd.C_drew ?_))); (case side2 => exact HC0.out); rintro e w21 ⟨v461, rfl, ho0, hb⟩; have HO462 := ka (Kd.R_lower (Kd.R_new' (Kd.R_new' ho0 (Kd.R_lt (kr HO_454005.out))) (Kd.R_lt (kr HO459.out))) (below_size (kw HB.out))); replace HO_454005 := ka (Kd.R_elder' (kr HO_454005.out) (Kd.R_base ho0) hb); replace HO459 := ka (Kd.R_elder' (kr HO459.out) (Kd.R_base ho0) hb); replace BK453 := kbb BK453 hb; replace HB := ka (below_step (kw HB.out) hb); (try clear hb); (try clear hb2); (try clear hk); (try clear hi); (try clear ho0))))
     (try simp only [Act.put, List.setIfInBounds_toArray, List.set_cons_zero, List.set_cons_succ])
     go_loopg [11, 12] kj5 (fun kq v11 v12 w' => ∃ (x11_2 : Bool) (x12_2 : Int), v11 = .bool x11_2 ∧ v12 = .int .i64 x12_2 ∧ Aside0 (trivettop_TopEscrow.l0 kq l0 a1 t443 t457 t460 x11_2 x12_2 t444 t445 t446 t447 t448 t449 = some r) ∧ Aside0 (kq ≤ kj5) ∧ Aside0 (Kd.R (Kd.int .i64) 2 w' w.heap.size (fun k_ => some k_ ≠ (v461 : Value).ownBlock ∧ some k_ ≠ ((.slice Ao11 t449.length co11) : Value).ownBlock) v458 t457) ∧ Aside0 (Kd.R (Kd.int .i64) 2 w' w.heap.size (fun k_ => some k_ ≠ (v458 : Value).ownBlock ∧ some k_ ≠ ((.slice Ao11 t449.length co11) : Value).ownBlock) v461 t460) ∧ Aside0 (Kd.R (Kd.int .i64) 2 w' w.heap.size (fun k_ => some k_ ≠ (v458 : Value).ownBlock ∧ some k_ ≠ (v461 : Value).ownBlock) (.slice Ao11 t449.length co11) t449) ∧ Aside0 (w'.heap[gb453]? = some (.cells #[.int .i64 t444, .int .i64 t445, .int .i64 t446, .int .i64 t447, .int .i64 t448, (.slice Ao11 t449.length co11)] 25 (0, 0))) ∧ Aside0 (Below w.heap.size w w'))
     case atStart => exact ⟨(false), (0), (by first | rfl | (simp; done) | (simp [*]; done)), (by first | rfl | (simp; done) | (simp [*]; done)), H', ⟨Nat.le_refl _⟩, ⟨kr (Kd.R_mono HO459.out (fun _ hk => ⟨hk.2, hk.1.2⟩))⟩, ⟨kr (Kd.R_mono HO462.out (fun _ hk => ⟨hk.2, hk.1.2⟩))⟩, ⟨kr (Kd.R_mono HO_454005.out (fun _ hk => ⟨hk.1.2, hk.2⟩))⟩, ⟨by (with_reducible repeat (first | apply kb1 | apply kb2 | apply kb3)); exact BK453.out⟩, ⟨by repeat (first | (with_reducible first | exact HB.out | apply kc1 | apply kc2 | apply kc3 | refine kc4 ?_ GE453.out) | exact HB.out)⟩⟩
     case round =>
      clear H'
      try clear c1
      try clear p2
      try clear c3
      try clear q4
      try clear p6
      try clear c12
      try clear c13
      try clear c13b0
      try clear c14
      try clear c15
      try clear hcz10
      try clear hcz18
      try clear hcz20
      try clear p2
      try clear q455
      try clear q456
      obtain ⟨x11_2, x12_2, rfl, rfl, HA, HK2, HO_9, HO_10, HO_454005, BK453, HB⟩ := hrel
      cases gk with
      | zero => exact absurd HA.out (by simp [trivettop_TopEscrow.l0])
      | succ k2 =>
       have H := HA.out
       clear HA
       simp only [trivettop_TopEscrow.l0] at H
       by_cases c22 : x12_2 < 12
       ·rw [if_pos c22] at H
        have c22b0 : decide (x12_2 < 12) = true := decide_eq_true c22
        clear c22
        by_cases c23 : 0 ≤ x12_2
        ·rw [if_pos c23] at H
         have c23b0 : decide (0 ≤ x12_2) = true := decide_eq_true c23
         clear c23
         by_cases c24 : x12_2 < (t457.length : Int)
         ·rw [if_pos c24] at H
          have c24b0 : decide (x12_2 < (t457.length : Int)) = true := decide_eq_true c24
          clear c24
          by_cases c25 : (rd t457 x12_2) < t446
          ·rw [if_pos c25] at H
           exact absurd H (by simp)
          ·rw [if_neg c25] at H
           have c25b0 : decide ((rd t457 x12_2) < t446) = false := decide_eq_false c25
           clear c25
           by_cases c26 : x11_2 = true
           ·subst c26
            have H1 : (trivettop_TopEscrow.l0 k2 l0 a1 t443 t457 t460 true (wrap64 (x12_2 + 1)) t444 t445 t446 t447 t448 t449) = some r := by rw [if_pos rfl] at H; exact H
            clear H
            have H := H1
            clear H1
            have H' := ka H
            clear H
            obtain ⟨Ao27, co27, eo27⟩ := Kd.R_slice HO_9.out
            subst eo27
            have p463 : 0 ≤ (x12_2 : Int) := of_decide_eq_true (by first | (with_reducible assumption) | assumption)
            have q463 : x12_2 < (t457.length : Int) := of_decide_eq_true (by first | (with_reducible assumption) | assumption)
            obtain ⟨ad463, e463, hx463_0⟩ := Kd.at_int (Kd.R_reads' HO_9.out).2.2 x12_2 p463 q463
            cases e463
            replace p463 := eq_true p463
            replace q463 := eq_true q463
            have hcz28 := blkAll6 BK453.out
            go_wp2
            repeat (go_quiet (fail); try go_wp2)
            go_roundg k2
            case measure => have := HJ5.out; have := HK2.out; omega
            case rel => exact ⟨(true), (wrap64 (x12_2 + 1)), (by first | rfl | (simp; done) | (simp [*]; done)), (by first | rfl | (simp; done) | (simp [*]; done)), H', ⟨by have := HJ5.out; have := HK2.out; omega⟩, ⟨kr HO_9.out⟩, ⟨kr HO_10.out⟩, ⟨kr HO_454005.out⟩, ⟨by (with_reducible repeat (first | apply kb1 | apply kb2 | apply kb3)); exact BK453.out⟩, ⟨by repeat (first | (with_reducible first | exact HB.out | apply kc1 | apply kc2 | apply kc3 | refine kc4 ?_ GE453.out) | exact HB.out)⟩⟩
           ·replace c26 := Bool.eq_false_iff.mpr c26
            subst c26
            have H1 : (if x12_2 < (t460.length : Int) then (trivettop_TopEscrow.l0 k2 l0 a1 t443 t457 t460 (decide ((rd t460 x12_2) < t446)) (wrap64 (x12_2 + 1)) t444 t445 t446 t447 t448 t449) else (none)) = some r := by rw [if_neg (show ¬ (false = true) by decide)] at H; exact H
            clear H
            have H := H1
            clear H1
            by_cases c29 : x12_2 < (t460.length : Int)
            ·rw [if_pos c29] at H
             have c29b0 : decide (x12_2 < (t460.length : Int)) = true := decide_eq_true c29
             clear c29
             have H' := ka H
             clear H
             obtain ⟨Ao30, co30, eo30⟩ := Kd.R_slice HO_9.out
             subst eo30
             have p463 : 0 ≤ (x12_2 : Int) := of_decide_eq_true (by first | (with_reducible assumption) | assumption)
             have q463 : x12_2 < (t457.length : Int) := of_decide_eq_true (by first | (with_reducible assumption) | assumption)
             obtain ⟨ad463, e463, hx463_0⟩ := Kd.at_int (Kd.R_reads' HO_9.out).2.2 x12_2 p463 q463
             cases e463
             replace p463 := eq_true p463
             replace q463 := eq_true q463
             have hcz31 := blkAll6 BK453.out
             obtain ⟨Ao32, co32, eo32⟩ := Kd.R_slice HO_10.out
             subst eo32
             have p464 : 0 ≤ (x12_2 : Int) := of_decide_eq_true (by first | (with_reducible assumption) | assumption)
             have q464 : x12_2 < (t460.length : Int) := of_decide_eq_true (by first | (with_reducible assumption) | assumption)
             obtain ⟨ad464, e464, hx464_0⟩ := Kd.at_int (Kd.R_reads' HO_10.out).2.2 x12_2 p464 q464
             cases e464
             replace p464 := eq_true p464
             replace q464 := eq_true q464
             go_wp2
             repeat (go_quiet (fail); try go_wp2)
             go_roundg k2
             case measure => have := HJ5.out; have := HK2.out; omega
             case rel => exact ⟨(decide ((rd t460 x12_2) < t446)), (wrap64 (x12_2 + 1)), (by first | rfl | (simp; done) | (simp [*]; done)), (by first | rfl | (simp; done) | (simp [*]; done)), H', ⟨by have := HJ5.out; have := HK2.out; omega⟩, ⟨kr HO_9.out⟩, ⟨kr HO_10.out⟩, ⟨kr HO_454005.out⟩, ⟨by (with_reducible repeat (first | apply kb1 | apply kb2 | apply kb3)); exact BK453.out⟩, ⟨by repeat (first | (with_reducible first | exact HB.out | apply kc1 | apply kc2 | apply kc3 | refine kc4 ?_ GE453.out) | exact HB.out)⟩⟩
            ·rw [if_neg c29] at H
             exact absurd H (by simp)
         ·rw [if_neg c24] at H
          exact absurd H (by simp)
        ·rw [if_neg c23] at H
         exact absurd H (by simp)
       ·rw [if_neg c22] at H
        have c22b0 : decide (x12_2 < 12) = false := decide_eq_false c22
        clear c22
        replace H := Option.bind_eq_some_iff.mp H
        obtain ⟨⟨t465, t466, t467, t468, t469, t470⟩, A330, H⟩ := H
        replace H : (if t443 = true then (if x11_2 = true then (if t445 = t466 then (if t446 = t467 then (some (t447 == t468)) else (none)) else (none)) else (none)) else (none)) = some r := H
        have A33 := ka A330
        clear A330
        by_cases c34 : t443 = true
        ·subst c34
         have H1 : (if x11_2 = true then (if t445 = t466 then (if t446 = t467 then (some (t447 == t468)) else (none)) else (none)) else (none)) = some r := by rw [if_pos rfl] at H; exact H
         clear H
         have H := H1
         clear H1
         by_cases c35 : x11_2 = true
         ·subst c35
          have H1 : (if t445 = t466 then (if t446 = t467 then (some (t447 == t468)) else (none)) else (none)) = some r := by rw [if_pos rfl] at H; exact H
          clear H
          have H := H1
          clear H1
          by_cases c36 : t445 = t466
          ·rw [if_pos c36] at H
           have c36b0 : (t445 == t466) = true := beq_iff_eq.mpr c36
           have c36b1 : (t445 != t466) = false := bne_eq_false_iff_eq.mpr c36
           clear c36
           by_cases c37 : t446 = t467
           ·rw [if_pos c37] at H
            have c37b0 : (t446 == t467) = true := beq_iff_eq.mpr c37
            have c37b1 : (t446 != t467) = false := bne_eq_false_iff_eq.mpr c37
            clear c37
            obtain rfl := Option.some.inj H
            go_wp2_with (first | (go_at_call 10; (with_reducible refine (trivetref15_Analyze.calls k2 _ _ l0 a1 t465 t466 t467 t468 t469 t470 _ ?side1 ?side2 A33.out).mono ?_); (case side1 => repeat (first | exact (Kd.C_below HR0.out HB.out) | (with_reducible refine Kd.C_alloc ?_ _) | (with_reducible refine Kd.C_drewN ?_ _) | (with_reducible refine Kd.C_drew ?_))); (case side2 => exact HC0.out); rintro e w38 ⟨v471, rfl, ho0, hb⟩; have HO472 := ka (Kd.R_lower (Kd.R_new' (Kd.R_new' (Kd.R_new' ho0 (Kd.R_lt (kr HO_9.out))) (Kd.R_lt (kr HO_10.out))) (Kd.R_lt (kr HO_454005.out))) (below_size (kw HB.out))); replace HO_9 := ka (Kd.R_elder' (kr HO_9.out) (Kd.R_base ho0) hb); replace HO_10 := ka (Kd.R_elder' (kr HO_10.out) (Kd.R_base ho0) hb); replace HO_454005 := ka (Kd.R_elder' (kr HO_454005.out) (Kd.R_base ho0) hb); replace BK453 := kbb BK453 hb; replace HB := ka (below_step (kw HB.out) hb); (try clear hb); (try clear hb2); (try clear hk); (try clear hi); (try clear ho0)) | ((with_reducible refine gate_dst (N := 13) rfl ?_); refine kx (N := 13) (cs := #[.int .i64 0, .int .i64 0, .int .i64 0, .int .i64 0, .int .i64 0, .slice none 0 0]) (t := 25) ?_; intro gb473 hg w39 hbox hb; have n0_ := ka (Kd.R_below (kr HO_9.out) hb); have n1_ := ka (Kd.R_below (kr HO_10.out) hb); have n2_ := ka (Kd.R_below (kr HO_454005.out) hb); have n3_ := ka (Kd.R_below (kr HO472.out) hb); have n4_ := ka (blk_below (g := gb453) (kz BK453.out) hb); have n5_ := ka (below_step (kw HB.out) hb); have n6_ := ka (hbox); have n7_ := ka ((by rw [hg]; exact (below_size (kw HB.out)) : w.heap.size ≤ gb473)); have n8_ := n7_; have n9_ := ka ((by rw [hg]; exact Nat.ne_of_lt (blk_lt (g := gb453) (kz BK453.out)) : gb453 ≠ gb473)); have n10_ := ka n9_.out.symm; clear HO_9; clear HO_10; clear HO_454005; clear HO472; clear BK453; clear HB; have HO_9 := n0_; have HO_10 := n1_; have HO_454005 := n2_; have HO472 := n3_; have BK453 := n4_; have HB := n5_; have BK473 := n6_; have GW473 := n7_; have GE473 := n8_; have NB453_473 := n9_; have NB473_453 := n10_; clear n0_ n1_ n2_ n3_ n4_ n5_ n6_ n7_ n8_ n9_ n10_; clear hb hbox hg; have hnb40 := NB473_453.out; have hnc40 := NB453_473.out; have hcz41 := blkAll6 BK473.out; obtain ⟨Ao42, co42, eo42⟩ := Kd.R_slice HO472.out; subst eo42; have hcz43 := blkAll6 BK453.out))
            repeat (go_quiet (first | (go_at_call 10; (with_reducible refine (trivetref15_Analyze.calls k2 _ _ l0 a1 t465 t466 t467 t468 t469 t470 _ ?side1 ?side2 A33.out).mono ?_); (case side1 => repeat (first | exact (Kd.C_below HR0.out HB.out) | (with_reducible refine Kd.C_alloc ?_ _) | (with_reducible refine Kd.C_drewN ?_ _) | (with_reducible refine Kd.C_drew ?_))); (case side2 => exact HC0.out); rintro e w38 ⟨v471, rfl, ho0, hb⟩; have HO472 := ka (Kd.R_lower (Kd.R_new' (Kd.R_new' (Kd.R_new' ho0 (Kd.R_lt (kr HO_9.out))) (Kd.R_lt (kr HO_10.out))) (Kd.R_lt (kr HO_454005.out))) (below_size (kw HB.out))); replace HO_9 := ka (Kd.R_elder' (kr HO_9.out) (Kd.R_base ho0) hb); replace HO_10 := ka (Kd.R_elder' (kr HO_10.out) (Kd.R_base ho0) hb); replace HO_454005 := ka (Kd.R_elder' (kr HO_454005.out) (Kd.R_base ho0) hb); replace BK453 := kbb BK453 hb; replace HB := ka (below_step (kw HB.out) hb); (try clear hb); (try clear hb2); (try clear hk); (try clear hi); (try clear ho0)) | ((with_reducible refine gate_dst (N := 13) rfl ?_); refine kx (N := 13) (cs := #[.int .i64 0, .int .i64 0, .int .i64 0, .int .i64 0, .int .i64 0, .slice none 0 0]) (t := 25) ?_; intro gb473 hg w39 hbox hb; have n0_ := ka (Kd.R_below (kr HO_9.out) hb); have n1_ := ka (Kd.R_below (kr HO_10.out) hb); have n2_ := ka (Kd.R_below (kr HO_454005.out) hb); have n3_ := ka (Kd.R_below (kr HO472.out) hb); have n4_ := ka (blk_below (g := gb453) (kz BK453.out) hb); have n5_ := ka (below_step (kw HB.out) hb); have n6_ := ka (hbox); have n7_ := ka ((by rw [hg]; exact (below_size (kw HB.out)) : w.heap.size ≤ gb473)); have n8_ := n7_; have n9_ := ka ((by rw [hg]; exact Nat.ne_of_lt (blk_lt (g := gb453) (kz BK453.out)) : gb453 ≠ gb473)); have n10_ := ka n9_.out.symm; clear HO_9; clear HO_10; clear HO_454005; clear HO472; clear BK453; clear HB; have HO_9 := n0_; have HO_10 := n1_; have HO_454005 := n2_; have HO472 := n3_; have BK453 := n4_; have HB := n5_; have BK473 := n6_; have GW473 := n7_; have GE473 := n8_; have NB453_473 := n9_; have NB473_453 := n10_; clear n0_ n1_ n2_ n3_ n4_ n5_ n6_ n7_ n8_ n9_ n10_; clear hb hbox hg; have hnb40 := NB473_453.out; have hnc40 := NB453_473.out; have hcz41 := blkAll6 BK473.out; obtain ⟨Ao42, co42, eo42⟩ := Kd.R_slice HO472.out; subst eo42; have hcz43 := blkAll6 BK453.out)); try go_wp2_with (first | (go_at_call 10; (with_reducible refine (trivetref15_Analyze.calls k2 _ _ l0 a1 t465 t466 t467 t468 t469 t470 _ ?side1 ?side2 A33.out).mono ?_); (case side1 => repeat (first | exact (Kd.C_below HR0.out HB.out) | (with_reducible refine Kd.C_alloc ?_ _) | (with_reducible refine Kd.C_drewN ?_ _) | (with_reducible refine Kd.C_drew ?_))); (case side2 => exact HC0.out); rintro e w38 ⟨v471, rfl, ho0, hb⟩; have HO472 := ka (Kd.R_lower (Kd.R_new' (Kd.R_new' (Kd.R_new' ho0 (Kd.R_lt (kr HO_9.out))) (Kd.R_lt (kr HO_10.out))) (Kd.R_lt (kr HO_454005.out))) (below_size (kw HB.out))); replace HO_9 := ka (Kd.R_elder' (kr HO_9.out) (Kd.R_base ho0) hb); replace HO_10 := ka (Kd.R_elder' (kr HO_10.out) (Kd.R_base ho0) hb); replace HO_454005 := ka (Kd.R_elder' (kr HO_454005.out) (Kd.R_base ho0) hb); replace BK453 := kbb BK453 hb; replace HB := ka (below_step (kw HB.out) hb); (try clear hb); (try clear hb2); (try clear hk); (try clear hi); (try clear ho0)) | ((with_reducible refine gate_dst (N := 13) rfl ?_); refine kx (N := 13) (cs := #[.int .i64 0, .int .i64 0, .int .i64 0, .int .i64 0, .int .i64 0, .slice none 0 0]) (t := 25) ?_; intro gb473 hg w39 hbox hb; have n0_ := ka (Kd.R_below (kr HO_9.out) hb); have n1_ := ka (Kd.R_below (kr HO_10.out) hb); have n2_ := ka (Kd.R_below (kr HO_454005.out) hb); have n3_ := ka (Kd.R_below (kr HO472.out) hb); have n4_ := ka (blk_below (g := gb453) (kz BK453.out) hb); have n5_ := ka (below_step (kw HB.out) hb); have n6_ := ka (hbox); have n7_ := ka ((by rw [hg]; exact (below_size (kw HB.out)) : w.heap.size ≤ gb473)); have n8_ := n7_; have n9_ := ka ((by rw [hg]; exact Nat.ne_of_lt (blk_lt (g := gb453) (kz BK453.out)) : gb453 ≠ gb473)); have n10_ := ka n9_.out.symm; clear HO_9; clear HO_10; clear HO_454005; clear HO472; clear BK453; clear HB; have HO_9 := n0_; have HO_10 := n1_; have HO_454005 := n2_; have HO472 := n3_; have BK453 := n4_; have HB := n5_; have BK473 := n6_; have GW473 := n7_; have GE473 := n8_; have NB453_473 := n9_; have NB473_453 := n10_; clear n0_ n1_ n2_ n3_ n4_ n5_ n6_ n7_ n8_ n9_ n10_; clear hb hbox hg; have hnb40 := NB473_453.out; have hnc40 := NB453_473.out; have hcz41 := blkAll6 BK473.out; obtain ⟨Ao42, co42, eo42⟩ := Kd.R_slice HO472.out; subst eo42; have hcz43 := blkAll6 BK453.out)))
            go_ret
            exact ⟨by first | rfl | (simp [errW_none, errW_some] <;> rfl) | (simp [*, errW_none, errW_some] <;> rfl), by repeat (first | (with_reducible first | exact HB.out | apply kc1 | apply kc2 | apply kc3 | refine kc4 ?_ GE453.out | refine kc4 ?_ GE473.out) | exact HB.out)⟩
           ·rw [if_neg c37] at H
            exact absurd H (by simp)
          ·rw [if_neg c36] at H
           exact absurd H (by simp)
         ·replace c35 := Bool.eq_false_iff.mpr c35
          subst c35
          have H1 : (none) = some r := by rw [if_neg (show ¬ (false = true) by decide)] at H; exact H
          clear H
          have H := H1
          clear H1
          exact absurd H (by simp)
        ·replace c34 := Bool.eq_false_iff.mpr c34
         subst c34
         have H1 : (none) = some r := by rw [if_neg (show ¬ (false = true) by decide)] at H; exact H
         clear H
         have H := H1
         clear H1
         exact absurd H (by simp)
    ·have H1 : (none) = some r := by rw [if_neg (show ¬ (some q456).isNone = true by simp)] at H; exact H
     clear H
     have H := H1
     clear H1
     try simp only [errW_none, errW_some]
     exact absurd H (by simp)

/-- THE ONE PURE STATEMENT of trivettop_TopEscrow: yours. -/
def trivettop_TopEscrow.Pure : Prop := ∀ (l0 : List Int) (a1 : Int), l0.length ≤ maxLen → l0.length * 8 ≤ 140737488351232 → (∀ x ∈ l0, (Lit.int .i64 x).wf = true) → (Lit.int .i64 a1).wf = true → ∃ k, trivettop_TopEscrow.f k l0 a1 = some true
theorem trivettop_TopEscrow.walk (P : trivettop_TopEscrow.Pure) (a0 : Option Addr) (len0 cap0 : Nat) (z0 : List Int) (a1 : Int) (w : World) (w0 : (a0 = none ∧ len0 = 0 ∧ cap0 = 0 ∧ z0 = []) ∨ ∃ x, a0 = some x ∧ len0 ≤ cap0 ∧ cap0 ≤ maxLen ∧ z0.length = cap0 ∧ (∀ i, i < z0.length → w.cell? (x.add i) = some (.int .i64 (z0.getD i 0))) ∧ ∀ n ∈ z0, (Lit.int .i64 n).wf = true) (y0 : len0 * 8 ≤ 140737488351232) (w1 : (Lit.int .i64 a1).wf = true) :
  Calls Tryz.prog 3 #[.slice a0 len0 cap0, .int .i64 a1] w fun e w' => e = .returned (.bool true) ∧ Below w.heap.size w w' := by
 obtain ⟨l0, rfl, hr0, hm0, hw0, hc0⟩ := ReadsInt.ofRowC w0
 obtain ⟨k, h⟩ := P l0 a1 hm0 y0 hw0 w1
 refine (trivettop_TopEscrow.calls k _ _ l0 a1 true w (Kd.C_of_reads (d := (0 : Int)) (h1 := fun _ => rfl) hr0) hc0 h).mono ?_
 rintro e w' ⟨rfl, hd⟩
 exact ⟨rfl, hd⟩

end Go.Proofs.YtbbhdlbpefibeaaGreatDoor.P
