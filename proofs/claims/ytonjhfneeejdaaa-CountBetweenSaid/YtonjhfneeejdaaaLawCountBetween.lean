-- Written by a program of this session out of the translation of the seat: Lean functions and the proofs that the Go functions come to them.
import Derived.Test.YtonjhfneeejdaaaRows
import Derived.Test.YtonjhfneeejdaaaPx6
import Derived.Test.YtonjhfneeejdaaaPureCountBetween
import Derived.WalkKit
import Derived.ProofKit
import Derived.OpenShut
import Derived.ShutString
import Derived.ChangeOld
import Derived.Below
import Derived.SizedLaws
import Derived.ChangeArms
import Derived.WideShapes
import Derived.Carry
namespace Go.Proofs.Ytonjhfneeejdaaa.countBetween
open Go.ChangeShapes Go.WideShapes Go.ChangeAt Go.RowKit
open Go.ChangeMaps (open_string shut_string)
set_option linter.unusedVariables false
theorem own : ownKnob Try.prog.godebug = none := by kernel_rfl
set_option maxRecDepth 100000 in
theorem leafs23 {H : Type} {enc : TypeId × Value → H} {w : World} {base : Nat} {spare : Nat → Bool} {held : Bool} {fuel : Nat} {cs : List Value} {y : DataW H × List MemPlace} (h : DataW.trod enc Try.prog w base spare held fuel 23 cs = some y) :
    ∃ z0 z1 z2 : Int, cs = [.int .i64 z0, .int .i64 z1, .int .i64 z2] ∧ (Lit.int .i64 z0).wf = true ∧ (Lit.int .i64 z1).wf = true ∧ (Lit.int .i64 z2).wf = true := by
  obtain ⟨xs, m, _, _, hlen, hxl, hf⟩ := DataW.trod_struct Try.underlying23 h
  have hC : Try.prog.cellsOf 23 = 3 := by kernel_rfl
  rw [hC] at hlen
  have hxs : xs.length = 3 := hxl
  match cs, hlen with
  | [c0, c1, c2], _ =>
    match xs, hxs with
    | [x0, x1, x2], _ =>
      have g0 : DataW.trod enc Try.prog w base spare held m 3 (List.take (Try.prog.cellsOf 3) (List.drop 0 [c0, c1, c2])) = some x0 := hf 0 _ rfl
      have k0 : Try.prog.cellsOf 3 = 1 := by kernel_rfl
      rw [k0] at g0
      obtain ⟨z0, e0, _, w0⟩ := DataW.trod_int Try.underlying3 g0
      simp only [List.drop, List.take, List.cons.injEq, and_true] at e0
      subst e0
      have g1 : DataW.trod enc Try.prog w base spare held m 3 (List.take (Try.prog.cellsOf 3) (List.drop 1 [.int .i64 z0, c1, c2])) = some x1 := hf 1 _ rfl
      have k1 : Try.prog.cellsOf 3 = 1 := by kernel_rfl
      rw [k1] at g1
      obtain ⟨z1, e1, _, w1⟩ := DataW.trod_int Try.underlying3 g1
      simp only [List.drop, List.take, List.cons.injEq, and_true] at e1
      subst e1
      have g2 : DataW.trod enc Try.prog w base spare held m 3 (List.take (Try.prog.cellsOf 3) (List.drop 2 [.int .i64 z0, .int .i64 z1, c2])) = some x2 := hf 2 _ rfl
      have k2 : Try.prog.cellsOf 3 = 1 := by kernel_rfl
      rw [k2] at g2
      obtain ⟨z2, e2, _, w2⟩ := DataW.trod_int Try.underlying3 g2
      simp only [List.drop, List.take, List.cons.injEq, and_true] at e2
      subst e2
      exact ⟨z0, z1, z2, rfl, w0, w1, w2⟩
theorem laidOut : laidOutB Try.prog = true := by kernel_rfl
set_option maxRecDepth 100000 in
theorem lifted (os : Os) (started : os.Started) (H : Type) (enc : TypeId × Value → H) :
    ReturnsInHanded {} Try.checked os 3 .any (Rows.countBetweenSpec.pre6 enc Try.prog Try.f3 Rows.countBetweenRow.domain false) (Rows.countBetweenSpec.post enc Try.prog Try.f3 false true false false) := by
  refine returnsInHanded_of_change_sized (C := Try.checked) own started (by kernel_rfl) Try.func3
    (ChangeSpec.witness6 (enc := enc) (C := Try.checked) false ⟨#[], #[.agg #[.int .i64 0, .int .i64 0, .int .i64 0], .agg #[.int .i64 0, .int .i64 0, .int .i64 0]], []⟩ 8 (by kernel_rfl) (by kernel_rfl) (by kernel_rfl) (by kernel_rfl)) ?_
  intro W base args ds gs before hval0 hW hcnd hsz0 _
  have hsz : (DataW.weightsEach Try.prog (Try.f3.params.toList ++ Rows.countBetweenSpec.plain.varTypes Try.prog) (ds ++ gs)).all (· ≤ reachBytes) = true := hsz0
  have hval : ∀ (j : Nat) t v, Try.f3.params[j]? = some t → args[j]? = some v → Value.okWide Try.prog W .any base t v := hval0
  have hW' := hW
  obtain ⟨p, q, hA0, hV, rfl, hfz, hnd⟩ := hW
  have hA : DataW.TrodAll enc Try.prog W 0 (fun _ => true) true Try.f3.params.toList args.toList ds p := hA0
  rw [Try.params3] at hA hval hsz
  obtain ⟨v0, vs0, d0, ds0, p0, q0, hargs, rfl, rfl, h0, r0⟩ := trodAll_cons hA
  obtain ⟨v1, vs1, d1, ds1, p1, q1, rfl, rfl, rfl, h1, r1⟩ := trodAll_cons r0
  obtain ⟨rfl, rfl, rfl⟩ := trodAll_nil r1
  obtain rfl : args = #[v0, v1] := by cases args; simp_all
  obtain ⟨rfl, rfl⟩ := trodVars_none hV
  obtain ⟨cs0, rfl, hsz0⟩ := okWide_struct Try.underlying23 (hval 0 23 v0 rfl rfl)
  have k0 := h0
  have lt0 : ∀ x ∈ p0, x.block < W.heap.size := by obtain ⟨m, hm⟩ := k0; exact DataW.trod_lt m _ _ _ hm
  obtain ⟨a0_0, a0_1, a0_2, he0, w0_0, w0_1, w0_2⟩ : ∃ a0_0 a0_1 a0_2 : Int, cs0.toList = [.int .i64 a0_0, .int .i64 a0_1, .int .i64 a0_2] ∧ (Lit.int .i64 a0_0).wf = true ∧ (Lit.int .i64 a0_1).wf = true ∧ (Lit.int .i64 a0_2).wf = true := by obtain ⟨fuel, hf⟩ := h0; exact leafs23 hf
  obtain rfl : cs0 = #[.int .i64 a0_0, .int .i64 a0_1, .int .i64 a0_2] := by cases cs0; simp_all
  clear he0
  obtain ⟨cs1, rfl, hsz1⟩ := okWide_struct Try.underlying23 (hval 1 23 v1 rfl rfl)
  have k1 := h1
  have lt1 : ∀ x ∈ p1, x.block < W.heap.size := by obtain ⟨m, hm⟩ := k1; exact DataW.trod_lt m _ _ _ hm
  obtain ⟨a1_0, a1_1, a1_2, he1, w1_0, w1_1, w1_2⟩ : ∃ a1_0 a1_1 a1_2 : Int, cs1.toList = [.int .i64 a1_0, .int .i64 a1_1, .int .i64 a1_2] ∧ (Lit.int .i64 a1_0).wf = true ∧ (Lit.int .i64 a1_1).wf = true ∧ (Lit.int .i64 a1_2).wf = true := by obtain ⟨fuel, hf⟩ := h1; exact leafs23 hf
  obtain rfl : cs1 = #[.int .i64 a1_0, .int .i64 a1_1, .int .i64 a1_2] := by cases cs1; simp_all
  clear he1
  clear hA0 hval0 hsz0 hsz
  refine (P.trivetlaw05_CountBetween.walk Pure.CountBetween a0_0 a0_1 a0_2 a1_0 a1_1 a1_2 W w0_0 w0_1 w0_2 w1_0 w1_1 w1_2).mono fun e W' ⟨he, bel⟩ => ?_
  subst he
  exact ⟨_, rfl, _, _, _, [], _, [], hW', trodAll_mk1 (shut_bool Try.underlying4 _), (trodAll_cons_mk (Below.trod laidOut (by kernel_rfl) (of_decide_eq_true (by kernel_rfl)) k0 bel lt0) (trodAll_cons_mk (Below.trod laidOut (by kernel_rfl) (of_decide_eq_true (by kernel_rfl)) k1 bel lt1) trodAll_mk0)), rfl, bel.frame _, fun h => by cases h⟩
theorem over : Rows.countBetweenRow.holds Try.pinned (OpenSpec.ofChange Rows.countBetweenSpec) :=
  OpenClaim.holds_of_wide 3 Try.f3 rfl rfl rfl rfl rfl rfl rfl ⟨rfl, rfl, rfl, rfl, rfl⟩ rfl rfl rfl rfl rfl (by kernel_rfl) Try.func3 (by kernel_rfl)
    (of_decide_eq_true (by kernel_rfl)) (by unfold Func.isWrapper; first | (rw [if_pos (by decide +kernel)]; kernel_rfl) | (rw [if_neg (by decide +kernel)]; exact ⟨rfl, rfl⟩))
    (fun os started H enc _ => lifted os started H enc)
theorem proved : Rows.CountBetweenSaid := over
#print axioms proved
end Go.Proofs.Ytonjhfneeejdaaa.countBetween
namespace Go.Proofs.Ytonjhfneeejdaaa
/-- The row, under a short name, for the claim. -/
theorem countBetween_holds : Rows.CountBetweenSaid := countBetween.proved
end Go.Proofs.Ytonjhfneeejdaaa
