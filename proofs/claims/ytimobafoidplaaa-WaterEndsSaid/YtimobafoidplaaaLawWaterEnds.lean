-- Written by a program of this session out of the translation of the seat: Lean functions and the proofs that the Go functions come to them.
import Derived.Test.YtimobafoidplaaaRows
import Derived.Test.YtimobafoidplaaaPx19
import Derived.Test.YtimobafoidplaaaPureWaterEnds
import Derived.WalkKit
import Derived.ProofKit
import Derived.OpenShut
import Derived.ShutString
import Derived.ChangeOld
import Derived.Below
import Derived.SizedLaws
import Derived.ChangeArms
import Derived.WideShapes
import Derived.Carry
namespace Go.Proofs.Ytimobafoidplaaa.waterEnds
open Go.ChangeShapes Go.WideShapes Go.ChangeAt Go.RowKit
open Go.ChangeMaps (open_string shut_string)
set_option linter.unusedVariables false
theorem own : ownKnob Try.prog.godebug = none := by kernel_rfl
set_option maxRecDepth 100000 in
theorem leafs23 {H : Type} {enc : TypeId × Value → H} {w : World} {base : Nat} {spare : Nat → Bool} {held : Bool} {fuel : Nat} {cs : List Value} {y : DataW H × List MemPlace} (h : DataW.trod enc Try.prog w base spare held fuel 23 cs = some y) :
    ∃ z0 z1 z2 z3 z4 z5 z6 z7 z8 : Int, cs = [.int .i64 z0, .int .i64 z1, .int .i64 z2, .int .i64 z3, .int .i64 z4, .int .i64 z5, .int .i64 z6, .int .i64 z7, .int .i64 z8] ∧ (Lit.int .i64 z0).wf = true ∧ (Lit.int .i64 z1).wf = true ∧ (Lit.int .i64 z2).wf = true ∧ (Lit.int .i64 z3).wf = true ∧ (Lit.int .i64 z4).wf = true ∧ (Lit.int .i64 z5).wf = true ∧ (Lit.int .i64 z6).wf = true ∧ (Lit.int .i64 z7).wf = true ∧ (Lit.int .i64 z8).wf = true := by
  obtain ⟨xs, m, _, _, hlen, hxl, hf⟩ := DataW.trod_struct Try.underlying23 h
  have hC : Try.prog.cellsOf 23 = 9 := by kernel_rfl
  rw [hC] at hlen
  have hxs : xs.length = 9 := hxl
  match cs, hlen with
  | [c0, c1, c2, c3, c4, c5, c6, c7, c8], _ =>
    match xs, hxs with
    | [x0, x1, x2, x3, x4, x5, x6, x7, x8], _ =>
      have g0 : DataW.trod enc Try.prog w base spare held m 2 (List.take (Try.prog.cellsOf 2) (List.drop 0 [c0, c1, c2, c3, c4, c5, c6, c7, c8])) = some x0 := hf 0 _ rfl
      have k0 : Try.prog.cellsOf 2 = 1 := by kernel_rfl
      rw [k0] at g0
      obtain ⟨z0, e0, _, w0⟩ := DataW.trod_int Try.underlying2 g0
      simp only [List.drop, List.take, List.cons.injEq, and_true] at e0
      subst e0
      have g1 : DataW.trod enc Try.prog w base spare held m 3 (List.take (Try.prog.cellsOf 3) (List.drop 1 [.int .i64 z0, c1, c2, c3, c4, c5, c6, c7, c8])) = some x1 := hf 1 _ rfl
      have k1 : Try.prog.cellsOf 3 = 1 := by kernel_rfl
      rw [k1] at g1
      obtain ⟨z1, e1, _, w1⟩ := DataW.trod_int Try.underlying3 g1
      simp only [List.drop, List.take, List.cons.injEq, and_true] at e1
      subst e1
      have g2 : DataW.trod enc Try.prog w base spare held m 3 (List.take (Try.prog.cellsOf 3) (List.drop 2 [.int .i64 z0, .int .i64 z1, c2, c3, c4, c5, c6, c7, c8])) = some x2 := hf 2 _ rfl
      have k2 : Try.prog.cellsOf 3 = 1 := by kernel_rfl
      rw [k2] at g2
      obtain ⟨z2, e2, _, w2⟩ := DataW.trod_int Try.underlying3 g2
      simp only [List.drop, List.take, List.cons.injEq, and_true] at e2
      subst e2
      have g3 : DataW.trod enc Try.prog w base spare held m 3 (List.take (Try.prog.cellsOf 3) (List.drop 3 [.int .i64 z0, .int .i64 z1, .int .i64 z2, c3, c4, c5, c6, c7, c8])) = some x3 := hf 3 _ rfl
      have k3 : Try.prog.cellsOf 3 = 1 := by kernel_rfl
      rw [k3] at g3
      obtain ⟨z3, e3, _, w3⟩ := DataW.trod_int Try.underlying3 g3
      simp only [List.drop, List.take, List.cons.injEq, and_true] at e3
      subst e3
      have g4 : DataW.trod enc Try.prog w base spare held m 2 (List.take (Try.prog.cellsOf 2) (List.drop 4 [.int .i64 z0, .int .i64 z1, .int .i64 z2, .int .i64 z3, c4, c5, c6, c7, c8])) = some x4 := hf 4 _ rfl
      have k4 : Try.prog.cellsOf 2 = 1 := by kernel_rfl
      rw [k4] at g4
      obtain ⟨z4, e4, _, w4⟩ := DataW.trod_int Try.underlying2 g4
      simp only [List.drop, List.take, List.cons.injEq, and_true] at e4
      subst e4
      have g5 : DataW.trod enc Try.prog w base spare held m 3 (List.take (Try.prog.cellsOf 3) (List.drop 5 [.int .i64 z0, .int .i64 z1, .int .i64 z2, .int .i64 z3, .int .i64 z4, c5, c6, c7, c8])) = some x5 := hf 5 _ rfl
      have k5 : Try.prog.cellsOf 3 = 1 := by kernel_rfl
      rw [k5] at g5
      obtain ⟨z5, e5, _, w5⟩ := DataW.trod_int Try.underlying3 g5
      simp only [List.drop, List.take, List.cons.injEq, and_true] at e5
      subst e5
      have g6 : DataW.trod enc Try.prog w base spare held m 3 (List.take (Try.prog.cellsOf 3) (List.drop 6 [.int .i64 z0, .int .i64 z1, .int .i64 z2, .int .i64 z3, .int .i64 z4, .int .i64 z5, c6, c7, c8])) = some x6 := hf 6 _ rfl
      have k6 : Try.prog.cellsOf 3 = 1 := by kernel_rfl
      rw [k6] at g6
      obtain ⟨z6, e6, _, w6⟩ := DataW.trod_int Try.underlying3 g6
      simp only [List.drop, List.take, List.cons.injEq, and_true] at e6
      subst e6
      have g7 : DataW.trod enc Try.prog w base spare held m 3 (List.take (Try.prog.cellsOf 3) (List.drop 7 [.int .i64 z0, .int .i64 z1, .int .i64 z2, .int .i64 z3, .int .i64 z4, .int .i64 z5, .int .i64 z6, c7, c8])) = some x7 := hf 7 _ rfl
      have k7 : Try.prog.cellsOf 3 = 1 := by kernel_rfl
      rw [k7] at g7
      obtain ⟨z7, e7, _, w7⟩ := DataW.trod_int Try.underlying3 g7
      simp only [List.drop, List.take, List.cons.injEq, and_true] at e7
      subst e7
      have g8 : DataW.trod enc Try.prog w base spare held m 3 (List.take (Try.prog.cellsOf 3) (List.drop 8 [.int .i64 z0, .int .i64 z1, .int .i64 z2, .int .i64 z3, .int .i64 z4, .int .i64 z5, .int .i64 z6, .int .i64 z7, c8])) = some x8 := hf 8 _ rfl
      have k8 : Try.prog.cellsOf 3 = 1 := by kernel_rfl
      rw [k8] at g8
      obtain ⟨z8, e8, _, w8⟩ := DataW.trod_int Try.underlying3 g8
      simp only [List.drop, List.take, List.cons.injEq, and_true] at e8
      subst e8
      exact ⟨z0, z1, z2, z3, z4, z5, z6, z7, z8, rfl, w0, w1, w2, w3, w4, w5, w6, w7, w8⟩
set_option maxRecDepth 100000 in
theorem leafs25 {H : Type} {enc : TypeId × Value → H} {w : World} {base : Nat} {spare : Nat → Bool} {held : Bool} {fuel : Nat} {cs : List Value} {y : DataW H × List MemPlace} (h : DataW.trod enc Try.prog w base spare held fuel 25 cs = some y) :
    ∃ z0 z1 z2 z3 z4 z5 z6 z7 z8 z9 z10 z11 z12 z13 z14 : Int, cs = [.int .i64 z0, .int .i64 z1, .int .i64 z2, .int .i64 z3, .int .i64 z4, .int .i64 z5, .int .i64 z6, .int .i64 z7, .int .i64 z8, .int .i64 z9, .int .i64 z10, .int .i64 z11, .int .i64 z12, .int .i64 z13, .int .i64 z14] ∧ (Lit.int .i64 z0).wf = true ∧ (Lit.int .i64 z1).wf = true ∧ (Lit.int .i64 z2).wf = true ∧ (Lit.int .i64 z3).wf = true ∧ (Lit.int .i64 z4).wf = true ∧ (Lit.int .i64 z5).wf = true ∧ (Lit.int .i64 z6).wf = true ∧ (Lit.int .i64 z7).wf = true ∧ (Lit.int .i64 z8).wf = true ∧ (Lit.int .i64 z9).wf = true ∧ (Lit.int .i64 z10).wf = true ∧ (Lit.int .i64 z11).wf = true ∧ (Lit.int .i64 z12).wf = true ∧ (Lit.int .i64 z13).wf = true ∧ (Lit.int .i64 z14).wf = true := by
  obtain ⟨xs, m, _, _, hlen, hxl, hf⟩ := DataW.trod_struct Try.underlying25 h
  have hC : Try.prog.cellsOf 25 = 15 := by kernel_rfl
  rw [hC] at hlen
  have hxs : xs.length = 7 := hxl
  match cs, hlen with
  | [c0, c1, c2, c3, c4, c5, c6, c7, c8, c9, c10, c11, c12, c13, c14], _ =>
    match xs, hxs with
    | [x0, x1, x2, x3, x4, x5, x6], _ =>
      have g0 : DataW.trod enc Try.prog w base spare held m 23 (List.take (Try.prog.cellsOf 23) (List.drop 0 [c0, c1, c2, c3, c4, c5, c6, c7, c8, c9, c10, c11, c12, c13, c14])) = some x0 := hf 0 _ rfl
      have k0 : Try.prog.cellsOf 23 = 9 := by kernel_rfl
      rw [k0] at g0
      obtain ⟨z0, z1, z2, z3, z4, z5, z6, z7, z8, e0, w0, w1, w2, w3, w4, w5, w6, w7, w8⟩ := leafs23 g0
      simp only [List.drop, List.take, List.cons.injEq, and_true] at e0
      obtain ⟨rfl, rfl, rfl, rfl, rfl, rfl, rfl, rfl, rfl⟩ := e0
      have g1 : DataW.trod enc Try.prog w base spare held m 2 (List.take (Try.prog.cellsOf 2) (List.drop 9 [.int .i64 z0, .int .i64 z1, .int .i64 z2, .int .i64 z3, .int .i64 z4, .int .i64 z5, .int .i64 z6, .int .i64 z7, .int .i64 z8, c9, c10, c11, c12, c13, c14])) = some x1 := hf 1 _ rfl
      have k1 : Try.prog.cellsOf 2 = 1 := by kernel_rfl
      rw [k1] at g1
      obtain ⟨z9, e1, _, w9⟩ := DataW.trod_int Try.underlying2 g1
      simp only [List.drop, List.take, List.cons.injEq, and_true] at e1
      subst e1
      have g2 : DataW.trod enc Try.prog w base spare held m 2 (List.take (Try.prog.cellsOf 2) (List.drop 10 [.int .i64 z0, .int .i64 z1, .int .i64 z2, .int .i64 z3, .int .i64 z4, .int .i64 z5, .int .i64 z6, .int .i64 z7, .int .i64 z8, .int .i64 z9, c10, c11, c12, c13, c14])) = some x2 := hf 2 _ rfl
      have k2 : Try.prog.cellsOf 2 = 1 := by kernel_rfl
      rw [k2] at g2
      obtain ⟨z10, e2, _, w10⟩ := DataW.trod_int Try.underlying2 g2
      simp only [List.drop, List.take, List.cons.injEq, and_true] at e2
      subst e2
      have g3 : DataW.trod enc Try.prog w base spare held m 3 (List.take (Try.prog.cellsOf 3) (List.drop 11 [.int .i64 z0, .int .i64 z1, .int .i64 z2, .int .i64 z3, .int .i64 z4, .int .i64 z5, .int .i64 z6, .int .i64 z7, .int .i64 z8, .int .i64 z9, .int .i64 z10, c11, c12, c13, c14])) = some x3 := hf 3 _ rfl
      have k3 : Try.prog.cellsOf 3 = 1 := by kernel_rfl
      rw [k3] at g3
      obtain ⟨z11, e3, _, w11⟩ := DataW.trod_int Try.underlying3 g3
      simp only [List.drop, List.take, List.cons.injEq, and_true] at e3
      subst e3
      have g4 : DataW.trod enc Try.prog w base spare held m 3 (List.take (Try.prog.cellsOf 3) (List.drop 12 [.int .i64 z0, .int .i64 z1, .int .i64 z2, .int .i64 z3, .int .i64 z4, .int .i64 z5, .int .i64 z6, .int .i64 z7, .int .i64 z8, .int .i64 z9, .int .i64 z10, .int .i64 z11, c12, c13, c14])) = some x4 := hf 4 _ rfl
      have k4 : Try.prog.cellsOf 3 = 1 := by kernel_rfl
      rw [k4] at g4
      obtain ⟨z12, e4, _, w12⟩ := DataW.trod_int Try.underlying3 g4
      simp only [List.drop, List.take, List.cons.injEq, and_true] at e4
      subst e4
      have g5 : DataW.trod enc Try.prog w base spare held m 2 (List.take (Try.prog.cellsOf 2) (List.drop 13 [.int .i64 z0, .int .i64 z1, .int .i64 z2, .int .i64 z3, .int .i64 z4, .int .i64 z5, .int .i64 z6, .int .i64 z7, .int .i64 z8, .int .i64 z9, .int .i64 z10, .int .i64 z11, .int .i64 z12, c13, c14])) = some x5 := hf 5 _ rfl
      have k5 : Try.prog.cellsOf 2 = 1 := by kernel_rfl
      rw [k5] at g5
      obtain ⟨z13, e5, _, w13⟩ := DataW.trod_int Try.underlying2 g5
      simp only [List.drop, List.take, List.cons.injEq, and_true] at e5
      subst e5
      have g6 : DataW.trod enc Try.prog w base spare held m 2 (List.take (Try.prog.cellsOf 2) (List.drop 14 [.int .i64 z0, .int .i64 z1, .int .i64 z2, .int .i64 z3, .int .i64 z4, .int .i64 z5, .int .i64 z6, .int .i64 z7, .int .i64 z8, .int .i64 z9, .int .i64 z10, .int .i64 z11, .int .i64 z12, .int .i64 z13, c14])) = some x6 := hf 6 _ rfl
      have k6 : Try.prog.cellsOf 2 = 1 := by kernel_rfl
      rw [k6] at g6
      obtain ⟨z14, e6, _, w14⟩ := DataW.trod_int Try.underlying2 g6
      simp only [List.drop, List.take, List.cons.injEq, and_true] at e6
      subst e6
      exact ⟨z0, z1, z2, z3, z4, z5, z6, z7, z8, z9, z10, z11, z12, z13, z14, rfl, w0, w1, w2, w3, w4, w5, w6, w7, w8, w9, w10, w11, w12, w13, w14⟩
theorem laidOut : laidOutB Try.prog = true := by kernel_rfl
set_option maxRecDepth 100000 in
theorem lifted (os : Os) (started : os.Started) (H : Type) (enc : TypeId × Value → H) :
    ReturnsInHanded {} Try.checked os 9 .any (Rows.waterEndsSpec.pre6 enc Try.prog Try.f9 Rows.waterEndsRow.domain false) (Rows.waterEndsSpec.post enc Try.prog Try.f9 false true false false) := by
  refine returnsInHanded_of_change_sized (C := Try.checked) own started (by kernel_rfl) Try.func9
    (ChangeSpec.witness6 (enc := enc) (C := Try.checked) false ⟨#[], #[.agg #[.int .i64 0, .int .i64 0, .int .i64 0, .int .i64 0, .int .i64 0, .int .i64 0, .int .i64 0, .int .i64 0, .int .i64 0, .int .i64 0, .int .i64 0, .int .i64 0, .int .i64 0, .int .i64 0, .int .i64 0], .int .i64 0, .int .i64 0], []⟩ 8 (by kernel_rfl) (by kernel_rfl) (by kernel_rfl) (by kernel_rfl)) ?_
  intro W base args ds gs before hval0 hW hcnd hsz0 _
  have hsz : (DataW.weightsEach Try.prog (Try.f9.params.toList ++ Rows.waterEndsSpec.plain.varTypes Try.prog) (ds ++ gs)).all (· ≤ reachBytes) = true := hsz0
  have hval : ∀ (j : Nat) t v, Try.f9.params[j]? = some t → args[j]? = some v → Value.okWide Try.prog W .any base t v := hval0
  have hW' := hW
  obtain ⟨p, q, hA0, hV, rfl, hfz, hnd⟩ := hW
  have hA : DataW.TrodAll enc Try.prog W 0 (fun _ => true) true Try.f9.params.toList args.toList ds p := hA0
  rw [Try.params9] at hA hval hsz
  obtain ⟨v0, vs0, d0, ds0, p0, q0, hargs, rfl, rfl, h0, r0⟩ := trodAll_cons hA
  obtain ⟨v1, vs1, d1, ds1, p1, q1, rfl, rfl, rfl, h1, r1⟩ := trodAll_cons r0
  obtain ⟨v2, vs2, d2, ds2, p2, q2, rfl, rfl, rfl, h2, r2⟩ := trodAll_cons r1
  obtain ⟨rfl, rfl, rfl⟩ := trodAll_nil r2
  obtain rfl : args = #[v0, v1, v2] := by cases args; simp_all
  obtain ⟨rfl, rfl⟩ := trodVars_none hV
  obtain ⟨cs0, rfl, hsz0⟩ := okWide_struct Try.underlying25 (hval 0 25 v0 rfl rfl)
  have k0 := h0
  have lt0 : ∀ x ∈ p0, x.block < W.heap.size := by obtain ⟨m, hm⟩ := k0; exact DataW.trod_lt m _ _ _ hm
  obtain ⟨a0_0, a0_1, a0_2, a0_3, a0_4, a0_5, a0_6, a0_7, a0_8, a0_9, a0_10, a0_11, a0_12, a0_13, a0_14, he0, w0_0, w0_1, w0_2, w0_3, w0_4, w0_5, w0_6, w0_7, w0_8, w0_9, w0_10, w0_11, w0_12, w0_13, w0_14⟩ : ∃ a0_0 a0_1 a0_2 a0_3 a0_4 a0_5 a0_6 a0_7 a0_8 a0_9 a0_10 a0_11 a0_12 a0_13 a0_14 : Int, cs0.toList = [.int .i64 a0_0, .int .i64 a0_1, .int .i64 a0_2, .int .i64 a0_3, .int .i64 a0_4, .int .i64 a0_5, .int .i64 a0_6, .int .i64 a0_7, .int .i64 a0_8, .int .i64 a0_9, .int .i64 a0_10, .int .i64 a0_11, .int .i64 a0_12, .int .i64 a0_13, .int .i64 a0_14] ∧ (Lit.int .i64 a0_0).wf = true ∧ (Lit.int .i64 a0_1).wf = true ∧ (Lit.int .i64 a0_2).wf = true ∧ (Lit.int .i64 a0_3).wf = true ∧ (Lit.int .i64 a0_4).wf = true ∧ (Lit.int .i64 a0_5).wf = true ∧ (Lit.int .i64 a0_6).wf = true ∧ (Lit.int .i64 a0_7).wf = true ∧ (Lit.int .i64 a0_8).wf = true ∧ (Lit.int .i64 a0_9).wf = true ∧ (Lit.int .i64 a0_10).wf = true ∧ (Lit.int .i64 a0_11).wf = true ∧ (Lit.int .i64 a0_12).wf = true ∧ (Lit.int .i64 a0_13).wf = true ∧ (Lit.int .i64 a0_14).wf = true := by obtain ⟨fuel, hf⟩ := h0; exact leafs25 hf
  obtain rfl : cs0 = #[.int .i64 a0_0, .int .i64 a0_1, .int .i64 a0_2, .int .i64 a0_3, .int .i64 a0_4, .int .i64 a0_5, .int .i64 a0_6, .int .i64 a0_7, .int .i64 a0_8, .int .i64 a0_9, .int .i64 a0_10, .int .i64 a0_11, .int .i64 a0_12, .int .i64 a0_13, .int .i64 a0_14] := by cases cs0; simp_all
  clear he0
  obtain ⟨a1, rfl, rfl, rfl, w1⟩ := open_int Try.underlying3 (hval 1 3 v1 rfl rfl) h1
  obtain ⟨a2, rfl, rfl, rfl, w2⟩ := open_int Try.underlying2 (hval 2 2 v2 rfl rfl) h2
  clear hA0 hval0 hsz0 hsz
  refine (P.trivetlaw13_WaterEnds.walk Pure.WaterEnds a0_0 a0_1 a0_2 a0_3 a0_4 a0_5 a0_6 a0_7 a0_8 a0_9 a0_10 a0_11 a0_12 a0_13 a0_14 a1 a2 W w0_0 w0_1 w0_2 w0_3 w0_4 w0_5 w0_6 w0_7 w0_8 w0_9 w0_10 w0_11 w0_12 w0_13 w0_14 w1 w2).mono fun e W' ⟨he, bel⟩ => ?_
  subst he
  exact ⟨_, rfl, _, _, _, [], _, [], hW', trodAll_mk1 (shut_bool Try.underlying4 _), (trodAll_cons_mk (Below.trod laidOut (by kernel_rfl) (of_decide_eq_true (by kernel_rfl)) k0 bel lt0) (trodAll_cons_mk (shut_int Try.underlying3 w1) (trodAll_cons_mk (shut_int Try.underlying2 w2) trodAll_mk0))), rfl, bel.frame _, fun h => by cases h⟩
theorem over : Rows.waterEndsRow.holds Try.pinned (OpenSpec.ofChange Rows.waterEndsSpec) :=
  OpenClaim.holds_of_wide 9 Try.f9 rfl rfl rfl rfl rfl rfl rfl ⟨rfl, rfl, rfl, rfl, rfl⟩ rfl rfl rfl rfl rfl (by kernel_rfl) Try.func9 (by kernel_rfl)
    (of_decide_eq_true (by kernel_rfl)) (by unfold Func.isWrapper; first | (rw [if_pos (by decide +kernel)]; kernel_rfl) | (rw [if_neg (by decide +kernel)]; exact ⟨rfl, rfl⟩))
    (fun os started H enc _ => lifted os started H enc)
theorem proved : Rows.WaterEndsSaid := over
#print axioms proved
end Go.Proofs.Ytimobafoidplaaa.waterEnds
namespace Go.Proofs.Ytimobafoidplaaa
/-- The row, under a short name, for the claim. -/
theorem waterEnds_holds : Rows.WaterEndsSaid := waterEnds.proved
end Go.Proofs.Ytimobafoidplaaa
