-- Written by a program of this session out of the translation of the seat: Lean functions and the proofs that the Go functions come to them.
import Derived.Test.YtmkfbaoglmmhjaaRows
import Derived.Test.YtmkfbaoglmmhjaaPx10
import Derived.Test.YtmkfbaoglmmhjaaPureCalendarOuts
import Derived.WalkKit
import Derived.ProofKit
import Derived.OpenShut
import Derived.ShutString
import Derived.ChangeOld
import Derived.Below
import Derived.SizedLaws
import Derived.ChangeArms
import Derived.WideShapes
import Derived.Carry
import Derived.Deep.Slices
import Derived.Test.YtmkfbaoglmmhjaaWSized
namespace Go.Proofs.Ytmkfbaoglmmhjaa.calendarOuts
open Go.ChangeShapes Go.WideShapes Go.ChangeAt Go.RowKit
open Go.ChangeMaps (open_string shut_string)
set_option linter.unusedVariables false
theorem own : ownKnob Try.prog.godebug = none := by kernel_rfl
theorem laidOut : laidOutB Try.prog = true := by kernel_rfl
def IsRow (k : IntKind) (w : World) (a : Option Addr) (len cap : Nat) (zs : List Int) : Prop :=
  (a = none ∧ len = 0 ∧ cap = 0 ∧ zs = []) ∨
  ∃ x, a = some x ∧ len ≤ cap ∧ cap ≤ maxLen ∧ zs.length = cap ∧ (∀ i, i < zs.length → w.cell? (x.add i) = some (.int k (zs.getD i 0))) ∧ ∀ n ∈ zs, (Lit.int k n).wf = true
set_option maxRecDepth 100000 in
theorem leafs48 {H : Type} {enc : TypeId × Value → H} {w : World} {base : Nat} {spare : Nat → Bool} {held : Bool} {fuel : Nat} {cs : List Value} {y : DataW H × List MemPlace} (h : DataW.trod enc Try.prog w base spare held fuel 48 cs = some y) :
    ∃ (z0 : Int) (z1 : Int) (z2 : Int), cs = [.int .i64 z0, .int .i64 z1, .int .i64 z2] ∧ (Lit.int .i64 z0).wf = true ∧ (Lit.int .i64 z1).wf = true ∧ (Lit.int .i64 z2).wf = true := by
  obtain ⟨xs, m, _, hy, hlen, hxl, hf⟩ := DataW.trod_struct Try.underlying48 h
  have hC : Try.prog.cellsOf 48 = 3 := by kernel_rfl
  rw [hC] at hlen
  have hxs : xs.length = 3 := hxl
  match cs, hlen with
  | [c0, c1, c2], _ =>
    match xs, hxs with
    | [x0, x1, x2], _ =>
      have g0 : DataW.trod enc Try.prog w base spare held m 3 (List.take (Try.prog.cellsOf 3) (List.drop 0 [c0, c1, c2])) = some x0 := hf 0 _ rfl
      have k0 : Try.prog.cellsOf 3 = 1 := by kernel_rfl
      rw [k0] at g0
      obtain ⟨z0, e0, _, w0⟩ := DataW.trod_int Try.underlying3 g0
      simp only [List.drop, List.take, List.cons.injEq, and_true] at e0
      subst e0
      have g1 : DataW.trod enc Try.prog w base spare held m 3 (List.take (Try.prog.cellsOf 3) (List.drop 1 [.int .i64 z0, c1, c2])) = some x1 := hf 1 _ rfl
      have k1 : Try.prog.cellsOf 3 = 1 := by kernel_rfl
      rw [k1] at g1
      obtain ⟨z1, e1, _, w1⟩ := DataW.trod_int Try.underlying3 g1
      simp only [List.drop, List.take, List.cons.injEq, and_true] at e1
      subst e1
      have g2 : DataW.trod enc Try.prog w base spare held m 2 (List.take (Try.prog.cellsOf 2) (List.drop 2 [.int .i64 z0, .int .i64 z1, c2])) = some x2 := hf 2 _ rfl
      have k2 : Try.prog.cellsOf 2 = 1 := by kernel_rfl
      rw [k2] at g2
      obtain ⟨z2, e2, _, w2⟩ := DataW.trod_int Try.underlying2 g2
      simp only [List.drop, List.take, List.cons.injEq, and_true] at e2
      subst e2
      exact ⟨z0, z1, z2, rfl, w0, w1, w2⟩
theorem sized_rows {H : Type} {enc : TypeId × Value → H} {P : Program} {W : World} {base : Nat} {spare : Nat → Bool} {held : Bool} {t e : TypeId} {a : Option Addr} {len cap : Nat} {d : DataW H} {ps : List MemPlace} {ts : List TypeId} {ds : List (DataW H)} {j : Nat}
    (hsz : (DataW.weightsEach P ts ds).all (· ≤ reachBytes) = true) (ht : ts[j]? = some t) (hd : ds[j]? = some d) (hu : P.underlying t = some (.slice e)) {B : Nat} (hB : P.bytesOf e = B)
    (h : DataW.Trod enc P W base spare held t (.slice a len cap) d ps) : len * B ≤ 140737488351232 := by
  obtain ⟨fuel, hf⟩ := h
  rcases Go.Deep.open_slice hu hf with ⟨hcs, _⟩ | ⟨x, l, c, m, n, D, Pl, hcs, _, hl, hm, hmm, hx, _⟩
  · simp [Value.cells] at hcs
    obtain ⟨rfl, rfl, rfl⟩ := hcs
    simp
  · simp [Value.cells] at hcs
    obtain ⟨rfl, rfl, rfl⟩ := hcs
    obtain ⟨hx, _⟩ := Prod.mk.inj hx
    subst hx
    have z := sized_slice hsz ht hd hu
    rw [hB] at z
    exact Nat.le_trans (Nat.mul_le_mul_right _ (by simp)) z
set_option maxRecDepth 100000 in
theorem rows48 {H : Type} {enc : TypeId × Value → H} {w : World} {base : Nat} {held : Bool} {fuel : Nat} {a : Option Addr} {len cap : Nat} {y : DataW H × List MemPlace} (h : DataW.trod enc Try.prog w base (fun _ => true) held fuel 22 [.slice a len cap] = some y) :
    ∃ zs : List P.S48, Go.Proofs.YtmkfbaoglmmhjaaW.PrintWords.Kd.C P.k48 w a len zs ∧ len ≤ cap ∧ len ≤ maxLen ∧ (∀ x ∈ zs, (Lit.int .i64 x.f0).wf = true ∧ (Lit.int .i64 x.f1).wf = true ∧ (Lit.int .i64 x.f2).wf = true) := by
  haveI : Inhabited P.S48 := ⟨P.z48⟩
  rcases Go.Deep.open_slice Try.underlying22 h with ⟨hcs, _⟩ | ⟨x, l, c, m, n, D, Pl, hcs, hb, hl, hm, hmm, _, hx⟩
  · obtain ⟨rfl, rfl, rfl⟩ : a = none ∧ len = 0 ∧ cap = 0 := by simpa using hcs
    exact ⟨[], Go.Proofs.YtmkfbaoglmmhjaaW.PrintWords.Kd.C_nil _ _, Nat.le_refl _, Nat.zero_le _, by simp⟩
  · obtain ⟨rfl, rfl, rfl⟩ : a = some x ∧ len = l ∧ cap = c := by simpa using hcs
    have hC : Try.prog.cellsOf 48 = 3 := by kernel_rfl
    have hmc : m = cap := hmm
    subst hmc
    rw [hC] at hx
    have each : ∀ i, i < len → ∃ q : P.S48, (∀ j u, ([.int .i64 q.f0, .int .i64 q.f1, .int .i64 q.f2] : List Value)[j]? = some u → w.cell? (x.add (i * 3 + j)) = some u) ∧ (Lit.int .i64 q.f0).wf = true ∧ (Lit.int .i64 q.f1).wf = true ∧ (Lit.int .i64 q.f2).wf = true := by
      intro i hi
      obtain ⟨cs', h1, h2⟩ := hx i (by omega)
      obtain ⟨_, hlen, hcell⟩ := World.cells?_some h1
      obtain ⟨z0, z1, z2, rfl, w0, w1, w2⟩ := leafs48 h2
      refine ⟨⟨z0, z1, z2⟩, fun j u hj => ?_, w0, w1, w2⟩
      have hj3 : j < 3 := by have := (List.getElem?_eq_some_iff.mp hj).1; simpa using this
      have h3 := hcell j hj3
      rw [Go.Deep.add_add] at h3
      rw [h3]
      exact hj
    obtain ⟨q, hq⟩ := Go.Deep.choose_lt each
    refine ⟨(List.range len).map q, ⟨by simp, Nat.le_trans hl (Nat.le_trans hm (by decide)), fun _ => ⟨x, rfl, fun j p hp => ?_⟩⟩, hl, Nat.le_trans hl hm, fun p hp => ?_⟩
    · rw [List.getElem?_map] at hp
      obtain ⟨i, hi, rfl⟩ := Option.map_eq_some_iff.mp hp
      obtain ⟨hjl, hji⟩ := List.getElem?_eq_some_iff.mp hi
      rw [List.getElem_range] at hji
      subst hji
      exact ⟨_, rfl, P.k48_mk w _, (hq j (by simpa using hjl)).1⟩
    · obtain ⟨i, hi, rfl⟩ := List.mem_map.mp hp
      exact (hq i (List.mem_range.mp hi)).2
set_option maxRecDepth 100000 in
theorem lifted (os : Os) (started : os.Started) (H : Type) (enc : TypeId × Value → H) :
    ReturnsInHanded {} Try.checked os 4 .any (Rows.calendarOutsSpec.pre6 enc Try.prog Try.f4 Rows.calendarOutsRow.domain false) (Rows.calendarOutsSpec.post enc Try.prog Try.f4 false true false false) := by
  refine returnsInHanded_of_change_sized (C := Try.checked) own started (by kernel_rfl) Try.func4
    (ChangeSpec.witness6 (enc := enc) (C := Try.checked) false ⟨#[], #[.slice none 0 0, .int .i64 0, .int .i64 0], []⟩ 8 (by kernel_rfl) (by kernel_rfl) (by kernel_rfl) (by kernel_rfl)) ?_
  intro W base args ds gs before hval0 hW hcnd hsz0 _
  have hsz : (DataW.weightsEach Try.prog (Try.f4.params.toList ++ Rows.calendarOutsSpec.plain.varTypes Try.prog) (ds ++ gs)).all (· ≤ reachBytes) = true := hsz0
  have hval : ∀ (j : Nat) t v, Try.f4.params[j]? = some t → args[j]? = some v → Value.okWide Try.prog W .any base t v := hval0
  have hW' := hW
  obtain ⟨p, q, hA0, hV, rfl, hfz, hnd⟩ := hW
  have hA : DataW.TrodAll enc Try.prog W 0 (fun _ => true) true Try.f4.params.toList args.toList ds p := hA0
  rw [Try.params4] at hA hval hsz
  obtain ⟨v0, vs0, d0, ds0, p0, q0, hargs, rfl, rfl, h0, r0⟩ := trodAll_cons hA
  obtain ⟨v1, vs1, d1, ds1, p1, q1, rfl, rfl, rfl, h1, r1⟩ := trodAll_cons r0
  obtain ⟨v2, vs2, d2, ds2, p2, q2, rfl, rfl, rfl, h2, r2⟩ := trodAll_cons r1
  obtain ⟨rfl, rfl, rfl⟩ := trodAll_nil r2
  obtain rfl : args = #[v0, v1, v2] := by cases args; simp_all
  obtain ⟨rfl, rfl⟩ := trodVars_none hV
  obtain ⟨a0, len0, cap0, rfl⟩ := okWide_slice Try.underlying22 (hval 0 22 v0 rfl rfl)
  have k0 := h0
  have lt0 : ∀ x ∈ p0, x.block < W.heap.size := by obtain ⟨m, hm⟩ := k0; exact DataW.trod_lt m _ _ _ hm
  obtain ⟨z0, w0⟩ : ∃ zs : List P.S48, Go.Proofs.YtmkfbaoglmmhjaaW.PrintWords.Kd.C P.k48 W a0 len0 zs ∧ len0 ≤ cap0 ∧ len0 ≤ maxLen ∧ (∀ x ∈ zs, (Lit.int .i64 x.f0).wf = true ∧ (Lit.int .i64 x.f1).wf = true ∧ (Lit.int .i64 x.f2).wf = true) := by obtain ⟨fuel, hf⟩ := h0; exact rows48 hf
  have y0 : len0 * 24 ≤ 140737488351232 := sized_rows hsz (j := 0) (t := 22) rfl rfl Try.underlying22 (by kernel_rfl) h0
  obtain ⟨a1, rfl, rfl, rfl, w1⟩ := open_int Try.underlying3 (hval 1 3 v1 rfl rfl) h1
  obtain ⟨a2, rfl, rfl, rfl, w2⟩ := open_int Try.underlying3 (hval 2 3 v2 rfl rfl) h2
  clear hA0 hval0 hsz0 hsz
  refine (P.trivetlaw14_CalendarOuts.walk Pure.CalendarOuts a0 len0 cap0 z0 a1 a2 W w0 y0 w1 w2).mono fun e W' ⟨he, bel⟩ => ?_
  subst he
  exact ⟨_, rfl, _, _, _, [], _, [], hW', trodAll_mk1 (shut_bool Try.underlying4 _), (trodAll_cons_mk (Below.trod laidOut (by kernel_rfl) (of_decide_eq_true (by kernel_rfl)) k0 bel lt0) (trodAll_cons_mk (shut_int Try.underlying3 w1) (trodAll_cons_mk (shut_int Try.underlying3 w2) trodAll_mk0))), rfl, bel.frame _, fun h => by cases h⟩
theorem over : Rows.calendarOutsRow.holds Try.pinned (OpenSpec.ofChange Rows.calendarOutsSpec) :=
  OpenClaim.holds_of_wide 4 Try.f4 rfl rfl rfl rfl rfl rfl rfl ⟨rfl, rfl, rfl, rfl, rfl⟩ rfl rfl rfl rfl rfl (by kernel_rfl) Try.func4 (by kernel_rfl)
    (of_decide_eq_true (by kernel_rfl)) (by unfold Func.isWrapper; first | (rw [if_pos (by decide +kernel)]; kernel_rfl) | (rw [if_neg (by decide +kernel)]; exact ⟨rfl, rfl⟩))
    (fun os started H enc _ => lifted os started H enc)
theorem proved : Rows.CalendarOutsSaid := over
#print axioms proved
end Go.Proofs.Ytmkfbaoglmmhjaa.calendarOuts
namespace Go.Proofs.Ytmkfbaoglmmhjaa
/-- The row, under a short name, for the claim. -/
theorem calendarOuts_holds : Rows.CalendarOutsSaid := calendarOuts.proved
end Go.Proofs.Ytmkfbaoglmmhjaa
