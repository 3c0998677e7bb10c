-- Written by a program of this session out of the translation of the seat: Lean functions and the proofs that the Go functions come to them.
import Derived.Test.YtjeghhheenenbaaRows
import Derived.Test.YtjeghhheenenbaaPx10
import Derived.Test.YtjeghhheenenbaaPureSpreadWhole
import Derived.WalkKit
import Derived.ProofKit
import Derived.OpenShut
import Derived.ShutString
import Derived.ChangeOld
import Derived.Below
import Derived.SizedLaws
import Derived.ChangeArms
import Derived.WideShapes
import Derived.Carry
import Derived.Test.YtjeghhheenenbaaWSized
namespace Go.Proofs.Ytjeghhheenenbaa.spreadWhole
open Go.ChangeShapes Go.WideShapes Go.ChangeAt Go.RowKit
open Go.ChangeMaps (open_string shut_string)
set_option linter.unusedVariables false
theorem own : ownKnob Try.prog.godebug = none := by kernel_rfl
theorem laidOut : laidOutB Try.prog = true := by kernel_rfl
def IsRow (k : IntKind) (w : World) (a : Option Addr) (len cap : Nat) (zs : List Int) : Prop :=
  (a = none ∧ len = 0 ∧ cap = 0 ∧ zs = []) ∨
  ∃ x, a = some x ∧ len ≤ cap ∧ cap ≤ maxLen ∧ zs.length = cap ∧ (∀ i, i < zs.length → w.cell? (x.add i) = some (.int k (zs.getD i 0))) ∧ ∀ n ∈ zs, (Lit.int k n).wf = true
set_option maxRecDepth 100000 in
theorem leafs24 {H : Type} {enc : TypeId × Value → H} {w : World} {base : Nat} {held : Bool} {fuel : Nat} {cs : List Value} {y : DataW H × List MemPlace} (h : DataW.trod enc Try.prog w base (fun _ => true) held fuel 24 cs = some y) (hz : (DataW.weights Try.prog 24 y.1).all (· ≤ reachBytes) = true) :
    ∃ (z0 : Int) (z1 : Int) (z2 : Int) (z3 : Int) (z4 : Int) (a5 : Option Addr) (n5 c5 : Nat) (z5 : List Int), cs = [.int .i64 z0, .int .i64 z1, .int .i64 z2, .int .i64 z3, .int .i64 z4, .slice a5 n5 c5] ∧ (Lit.int .i64 z0).wf = true ∧ (Lit.int .i64 z1).wf = true ∧ (Lit.int .i64 z2).wf = true ∧ (Lit.int .i64 z3).wf = true ∧ (Lit.int .i64 z4).wf = true ∧ (IsRow .i64 w a5 n5 c5 z5 ∧ n5 * 8 ≤ 140737488351232) := by
  obtain ⟨xs, m, _, hy, hlen, hxl, hf⟩ := DataW.trod_struct Try.underlying24 h
  subst hy
  have hz' : (DataW.weightsEach Try.prog [2, 2, 2, 2, 3, 22] (xs.map (·.1))).all (· ≤ reachBytes) = true := by
    simp only [DataW.weights, Try.underlying24] at hz
    exact hz
  have hC : Try.prog.cellsOf 24 = 6 := by kernel_rfl
  rw [hC] at hlen
  have hxs : xs.length = 6 := hxl
  obtain ⟨c0, c1, c2, c3, c4, c5, rfl⟩ : ∃ c0 c1 c2 c3 c4 c5, cs = [c0, c1, c2, c3, c4, c5] := by
    clear hf h hz hz'
    match cs, hlen with
    | [c0, c1, c2, c3, c4, c5], _ => exact ⟨c0, c1, c2, c3, c4, c5, rfl⟩
  obtain ⟨x0, x1, x2, x3, x4, x5, rfl⟩ : ∃ x0 x1 x2 x3 x4 x5, xs = [x0, x1, x2, x3, x4, x5] := by
    clear hf h hz hz'
    match xs, hxs with
    | [x0, x1, x2, x3, x4, x5], _ => exact ⟨x0, x1, x2, x3, x4, x5, rfl⟩
  have g0 : DataW.trod enc Try.prog w base (fun _ => true) held m 2 (List.take (Try.prog.cellsOf 2) (List.drop 0 [c0, c1, c2, c3, c4, c5])) = some x0 := hf 0 _ rfl
  have k0 : Try.prog.cellsOf 2 = 1 := by kernel_rfl
  rw [k0] at g0
  obtain ⟨z0, e0, _, w0⟩ := DataW.trod_int Try.underlying2 g0
  simp only [List.drop, List.take, List.cons.injEq, and_true] at e0
  subst e0
  have g1 : DataW.trod enc Try.prog w base (fun _ => true) held m 2 (List.take (Try.prog.cellsOf 2) (List.drop 1 [.int .i64 z0, c1, c2, c3, c4, c5])) = some x1 := hf 1 _ rfl
  have k1 : Try.prog.cellsOf 2 = 1 := by kernel_rfl
  rw [k1] at g1
  obtain ⟨z1, e1, _, w1⟩ := DataW.trod_int Try.underlying2 g1
  simp only [List.drop, List.take, List.cons.injEq, and_true] at e1
  subst e1
  have g2 : DataW.trod enc Try.prog w base (fun _ => true) held m 2 (List.take (Try.prog.cellsOf 2) (List.drop 2 [.int .i64 z0, .int .i64 z1, c2, c3, c4, c5])) = some x2 := hf 2 _ rfl
  have k2 : Try.prog.cellsOf 2 = 1 := by kernel_rfl
  rw [k2] at g2
  obtain ⟨z2, e2, _, w2⟩ := DataW.trod_int Try.underlying2 g2
  simp only [List.drop, List.take, List.cons.injEq, and_true] at e2
  subst e2
  have g3 : DataW.trod enc Try.prog w base (fun _ => true) held m 2 (List.take (Try.prog.cellsOf 2) (List.drop 3 [.int .i64 z0, .int .i64 z1, .int .i64 z2, c3, c4, c5])) = some x3 := hf 3 _ rfl
  have k3 : Try.prog.cellsOf 2 = 1 := by kernel_rfl
  rw [k3] at g3
  obtain ⟨z3, e3, _, w3⟩ := DataW.trod_int Try.underlying2 g3
  simp only [List.drop, List.take, List.cons.injEq, and_true] at e3
  subst e3
  have g4 : DataW.trod enc Try.prog w base (fun _ => true) held m 3 (List.take (Try.prog.cellsOf 3) (List.drop 4 [.int .i64 z0, .int .i64 z1, .int .i64 z2, .int .i64 z3, c4, c5])) = some x4 := hf 4 _ rfl
  have k4 : Try.prog.cellsOf 3 = 1 := by kernel_rfl
  rw [k4] at g4
  obtain ⟨z4, e4, _, w4⟩ := DataW.trod_int Try.underlying3 g4
  simp only [List.drop, List.take, List.cons.injEq, and_true] at e4
  subst e4
  have g5 : DataW.trod enc Try.prog w base (fun _ => true) held m 22 (List.take (Try.prog.cellsOf 22) (List.drop 5 [.int .i64 z0, .int .i64 z1, .int .i64 z2, .int .i64 z3, .int .i64 z4, c5])) = some x5 := hf 5 _ rfl
  have k5 : Try.prog.cellsOf 22 = 1 := by kernel_rfl
  rw [k5] at g5
  have q5 : ∃ (a : Option Addr) (n c : Nat) (zs : List Int), [c5] = [.slice a n c] ∧ IsRow .i64 w a n c zs ∧ n * 8 ≤ 140737488351232 := by
    rcases open_ints Try.underlying22 Try.underlying2 (by kernel_rfl) g5 with ⟨hcs, _⟩ | ⟨x, l, c, zs, hcs, _, hl, hm, hz, _, hcell, hwz⟩
    · exact ⟨none, 0, 0, [], hcs, .inl ⟨rfl, rfl, rfl, rfl⟩, by decide⟩
    · refine ⟨some x, l, c, zs, hcs, .inr ⟨_, rfl, hl, hm, by simpa using hz, hcell, hwz⟩, ?_⟩
      have hcs' : [c5] = [Value.slice (some x) l c] := hcs
      exact Go.Proofs.YtjeghhheenenbaaW.PrintWords.sized_ints hz' (j := 5) (t := 22) (d := x5.1) (ps := x5.2) rfl rfl Try.underlying22 Try.underlying2 (by kernel_rfl) (by kernel_rfl) ⟨m, by have g := g5; simp only [List.drop, List.take] at g; rw [hcs'] at g; exact g⟩
  obtain ⟨a5, n5, c_5, z5, e5, w5⟩ := q5
  simp only [List.cons.injEq, and_true] at e5
  subst e5
  exact ⟨z0, z1, z2, z3, z4, a5, n5, c_5, z5, rfl, w0, w1, w2, w3, w4, w5⟩
set_option maxRecDepth 100000 in
theorem lifted (os : Os) (started : os.Started) (H : Type) (enc : TypeId × Value → H) :
    ReturnsInHanded {} Try.checked os 4 .any (Rows.spreadWholeSpec.pre6 enc Try.prog Try.f4 Rows.spreadWholeRow.domain false) (Rows.spreadWholeSpec.post enc Try.prog Try.f4 false true false false) := by
  refine returnsInHanded_of_change_sized (C := Try.checked) own started (by kernel_rfl) Try.func4
    (ChangeSpec.witness6 (enc := enc) (C := Try.checked) false ⟨#[], #[.agg #[.int .i64 0, .int .i64 0, .int .i64 0, .int .i64 0, .int .i64 0, .slice none 0 0], .int .i64 0, .bool false], []⟩ 8 (by kernel_rfl) (by kernel_rfl) (by kernel_rfl) (by kernel_rfl)) ?_
  intro W base args ds gs before hval0 hW hcnd hsz0 _
  have hsz : (DataW.weightsEach Try.prog (Try.f4.params.toList ++ Rows.spreadWholeSpec.plain.varTypes Try.prog) (ds ++ gs)).all (· ≤ reachBytes) = true := hsz0
  have hval : ∀ (j : Nat) t v, Try.f4.params[j]? = some t → args[j]? = some v → Value.okWide Try.prog W .any base t v := hval0
  have hW' := hW
  obtain ⟨p, q, hA0, hV, rfl, hfz, hnd⟩ := hW
  have hA : DataW.TrodAll enc Try.prog W 0 (fun _ => true) true Try.f4.params.toList args.toList ds p := hA0
  rw [Try.params4] at hA hval hsz
  obtain ⟨v0, vs0, d0, ds0, p0, q0, hargs, rfl, rfl, h0, r0⟩ := trodAll_cons hA
  obtain ⟨v1, vs1, d1, ds1, p1, q1, rfl, rfl, rfl, h1, r1⟩ := trodAll_cons r0
  obtain ⟨v2, vs2, d2, ds2, p2, q2, rfl, rfl, rfl, h2, r2⟩ := trodAll_cons r1
  obtain ⟨rfl, rfl, rfl⟩ := trodAll_nil r2
  obtain rfl : args = #[v0, v1, v2] := by cases args; simp_all
  obtain ⟨rfl, rfl⟩ := trodVars_none hV
  obtain ⟨cs0, rfl, hsz0⟩ := okWide_struct Try.underlying24 (hval 0 24 v0 rfl rfl)
  have k0 := h0
  have lt0 : ∀ x ∈ p0, x.block < W.heap.size := by obtain ⟨m, hm⟩ := k0; exact DataW.trod_lt m _ _ _ hm
  obtain ⟨a0_0, a0_1, a0_2, a0_3, a0_4, a0_5, len0_5, cap0_5, z0_5, he0, w0_0, w0_1, w0_2, w0_3, w0_4, ⟨w0_5, y0_5⟩⟩ : ∃ (a0_0 : Int) (a0_1 : Int) (a0_2 : Int) (a0_3 : Int) (a0_4 : Int) (a0_5 : Option Addr) (len0_5 cap0_5 : Nat) (z0_5 : List Int), cs0.toList = [.int .i64 a0_0, .int .i64 a0_1, .int .i64 a0_2, .int .i64 a0_3, .int .i64 a0_4, .slice a0_5 len0_5 cap0_5] ∧ (Lit.int .i64 a0_0).wf = true ∧ (Lit.int .i64 a0_1).wf = true ∧ (Lit.int .i64 a0_2).wf = true ∧ (Lit.int .i64 a0_3).wf = true ∧ (Lit.int .i64 a0_4).wf = true ∧ (IsRow .i64 W a0_5 len0_5 cap0_5 z0_5 ∧ len0_5 * 8 ≤ 140737488351232) := by obtain ⟨fuel, hf⟩ := h0; exact leafs24 hf (List.all_eq_true.2 fun n hn => List.all_eq_true.1 hsz n (DataW.weights_mem_each (j := 0) rfl rfl n hn))
  obtain rfl : cs0 = #[.int .i64 a0_0, .int .i64 a0_1, .int .i64 a0_2, .int .i64 a0_3, .int .i64 a0_4, .slice a0_5 len0_5 cap0_5] := by cases cs0; simp_all
  clear he0
  obtain ⟨a1, rfl, rfl, rfl, w1⟩ := open_int Try.underlying2 (hval 1 2 v1 rfl rfl) h1
  obtain ⟨a2, rfl, rfl, rfl⟩ := open_bool Try.underlying4 (hval 2 4 v2 rfl rfl) h2
  clear hA0 hval0 hsz0 hsz
  refine (P.trivetlaw16_SpreadWhole.walk Pure.SpreadWhole a0_0 a0_1 a0_2 a0_3 a0_4 a0_5 len0_5 cap0_5 z0_5 a1 a2 W w0_0 w0_1 w0_2 w0_3 w0_4 w0_5 y0_5 w1).mono fun e W' ⟨he, bel⟩ => ?_
  subst he
  exact ⟨_, rfl, _, _, _, [], _, [], hW', trodAll_mk1 (shut_bool Try.underlying4 _), (trodAll_cons_mk (Below.trod laidOut (by kernel_rfl) (of_decide_eq_true (by kernel_rfl)) k0 bel lt0) (trodAll_cons_mk (shut_int Try.underlying2 w1) (trodAll_cons_mk (shut_bool Try.underlying4 _) trodAll_mk0))), rfl, bel.frame _, fun h => by cases h⟩
theorem over : Rows.spreadWholeRow.holds Try.pinned (OpenSpec.ofChange Rows.spreadWholeSpec) :=
  OpenClaim.holds_of_wide 4 Try.f4 rfl rfl rfl rfl rfl rfl rfl ⟨rfl, rfl, rfl, rfl, rfl⟩ rfl rfl rfl rfl rfl (by kernel_rfl) Try.func4 (by kernel_rfl)
    (of_decide_eq_true (by kernel_rfl)) (by unfold Func.isWrapper; first | (rw [if_pos (by decide +kernel)]; kernel_rfl) | (rw [if_neg (by decide +kernel)]; exact ⟨rfl, rfl⟩))
    (fun os started H enc _ => lifted os started H enc)
theorem proved : Rows.SpreadWholeSaid := over
#print axioms proved
end Go.Proofs.Ytjeghhheenenbaa.spreadWhole
namespace Go.Proofs.Ytjeghhheenenbaa
/-- The row, under a short name, for the claim. -/
theorem spreadWhole_holds : Rows.SpreadWholeSaid := spreadWhole.proved
end Go.Proofs.Ytjeghhheenenbaa
