-- Written by a program of this session out of the translation of the seat: Lean functions and the proofs that the Go functions come to them.
import Derived.Test.YtghimjkoaldafaaWMore
import Derived.Test.YtghimjkoaldafaaWWords
import Derived.Test.YtghimjkoaldafaaWLast
import Derived.Laws.Rows
import Derived.Laws.Tables
import Derived.Laws.CopyOwn
/-! What a block of a known size tells, all at once; a store into it. -/
namespace Go.Proofs.Ytghimjkoaldafaa.P
open Go Go.RowKit Go.Proofs.YtghimjkoaldafaaW.PrintWords Go.Proofs.YtghimjkoaldafaaW.PrintLast Go.Proofs.YtghimjkoaldafaaW.PrintMore
set_option linter.unusedVariables false
theorem blkAll2 {w : World} {g : Nat} {t : TypeId} {c0 c1 : Value} (h : w.heap[g]? = some (.cells #[c0, c1] t (0, 0))) : (w.cell? ⟨g, 0, none⟩ = some c0 ∧ w.cell? ⟨g, 1, none⟩ = some c1) ∧ w.frozen? ⟨g, 0, none⟩ = false ∧ w.frozen? ⟨g, 1, none⟩ = false :=
  ⟨⟨(blk_cell h 0).trans rfl, (blk_cell h 1).trans rfl⟩, blk_frozen h 0, blk_frozen h 1⟩
theorem blkPut2_0 {w : World} {g : Nat} {t : TypeId} {c0 c1 u : Value} (h : w.heap[g]? = some (.cells #[c0, c1] t (0, 0))) : (w.setCell ⟨g, 0, none⟩ u).heap[g]? = some (.cells #[u, c1] t (0, 0)) := blk_put h 0 u rfl
theorem blkPut2_1 {w : World} {g : Nat} {t : TypeId} {c0 c1 u : Value} (h : w.heap[g]? = some (.cells #[c0, c1] t (0, 0))) : (w.setCell ⟨g, 1, none⟩ u).heap[g]? = some (.cells #[c0, u] t (0, 0)) := blk_put h 1 u rfl
theorem kb1 {w : World} {g : Nat} {o : Obj} (h : w.heap[g]? = some o) (n : Nat) : (w.drewN n).heap[g]? = some o := h
theorem kb2 {w : World} {g : Nat} {o : Obj} (h : w.heap[g]? = some o) : w.drew.heap[g]? = some o := h
theorem kb3 {w : World} {g : Nat} {o : Obj} (h : w.heap[g]? = some o) (o' : Obj) : (w.alloc o').heap[g]? = some o := blk_alloc h o'
theorem kb4 {w : World} {g : Nat} {t : TypeId} {cs : Array Value} (h : w.heap[g]? = some (.cells cs t (0, 0))) {p : Addr} (hp : g ≠ p.block) (u : Value) : (w.setCell p u).heap[g]? = some (.cells cs t (0, 0)) := blk_far h hp u
theorem kc1 {w W : World} (h : Below w.heap.size w W) (o : Obj) : Below w.heap.size w (W.alloc o) := below_alloc h o
theorem kc2 {B : Nat} {w W : World} (h : Below B w W) (n : Nat) : Below B w (W.drewN n) := pw_below_drewN h n
theorem kc3 {base : Nat} {w W : World} (h : Below base w W) : Below base w W.drew := below_drew1 h
theorem kc4 {w W : World} {g j : Nat} {v : Value} (h : Below w.heap.size w W) (hg : w.heap.size ≤ g) : Below w.heap.size w (W.setCell ⟨g, j, none⟩ v) := below_set h hg
theorem ka {p : Prop} (h : p) : Aside0 p := ⟨h⟩
theorem kc5 {w W : World} {g j : Nat} {v : Value} (h : Below w.heap.size w W) (hg : Aside0 (w.heap.size ≤ g)) : Below w.heap.size w (W.setCell ⟨g, j, none⟩ v) := below_set h hg.out
theorem kz {w w' : World} {g : Nat} {o : Obj} (h : w.heap[g]? = some o) (k : w.heap[g]? = some o → w'.heap[g]? = some o := by intro h; (with_reducible repeat (first | apply kb1 | apply kb2 | apply kb3)); exact h) : w'.heap[g]? = some o := k h
theorem kw {B : Nat} {w W W' : World} (h : Below B w W) (k : Below B w W → Below B w W' := by intro h; repeat (first | (with_reducible first | exact h | apply kc1 | apply kc2 | apply kc3 | refine kc5 ?_ (by assumption)) | exact h)) : Below B w W' := k h
theorem kv {α : Type} {d : Kd α} {e : Nat} {w w' : World} {b : Nat} {ok : Nat → Prop} {v : Value} {xs : List α} (h : Kd.V d e w b ok v xs) (k : Kd.V d e w b ok v xs → Kd.V d e w' b ok v xs := by intro h; (with_reducible repeat (first | apply Kd.V_alloc | apply Kd.V_drewN | apply Kd.V_drew)); exact h) : Kd.V d e w' b ok v xs := k h
theorem kr {α : Type} {d : Kd α} {e : Nat} {w w' : World} {b : Nat} {ok : Nat → Prop} {v : Value} {xs : List α} (h : Kd.R d e w b ok v xs) (k : Kd.R d e w b ok v xs → Kd.R d e w' b ok v xs := by intro h; (with_reducible repeat (first | apply Kd.R_alloc | apply Kd.R_drewN | apply Kd.R_drew)); exact h) : Kd.R d e w' b ok v xs := k h
theorem ra2 {a0 a1 c : Prop} (h : (a0 ∧ a1) ∧ c) : a0 ∧ a1 ∧ c := ⟨h.1.1, h.1.2, h.2⟩
theorem ra3 {a0 a1 a2 c : Prop} (h : (a0 ∧ a1 ∧ a2) ∧ c) : a0 ∧ a1 ∧ a2 ∧ c := ⟨h.1.1, h.1.2.1, h.1.2.2, h.2⟩
theorem ra5 {a0 a1 a2 a3 a4 c : Prop} (h : (a0 ∧ a1 ∧ a2 ∧ a3 ∧ a4) ∧ c) : a0 ∧ a1 ∧ a2 ∧ a3 ∧ a4 ∧ c := ⟨h.1.1, h.1.2.1, h.1.2.2.1, h.1.2.2.2.1, h.1.2.2.2.2, h.2⟩
theorem ra6 {a0 a1 a2 a3 a4 a5 c : Prop} (h : (a0 ∧ a1 ∧ a2 ∧ a3 ∧ a4 ∧ a5) ∧ c) : a0 ∧ a1 ∧ a2 ∧ a3 ∧ a4 ∧ a5 ∧ c := ⟨h.1.1, h.1.2.1, h.1.2.2.1, h.1.2.2.2.1, h.1.2.2.2.2.1, h.1.2.2.2.2.2, h.2⟩
theorem ra7 {a0 a1 a2 a3 a4 a5 a6 c : Prop} (h : (a0 ∧ a1 ∧ a2 ∧ a3 ∧ a4 ∧ a5 ∧ a6) ∧ c) : a0 ∧ a1 ∧ a2 ∧ a3 ∧ a4 ∧ a5 ∧ a6 ∧ c := ⟨h.1.1, h.1.2.1, h.1.2.2.1, h.1.2.2.2.1, h.1.2.2.2.2.1, h.1.2.2.2.2.2.1, h.1.2.2.2.2.2.2, h.2⟩
theorem ra8 {a0 a1 a2 a3 a4 a5 a6 a7 c : Prop} (h : (a0 ∧ a1 ∧ a2 ∧ a3 ∧ a4 ∧ a5 ∧ a6 ∧ a7) ∧ c) : a0 ∧ a1 ∧ a2 ∧ a3 ∧ a4 ∧ a5 ∧ a6 ∧ a7 ∧ c := ⟨h.1.1, h.1.2.1, h.1.2.2.1, h.1.2.2.2.1, h.1.2.2.2.2.1, h.1.2.2.2.2.2.1, h.1.2.2.2.2.2.2.1, h.1.2.2.2.2.2.2.2, h.2⟩
theorem kbb {w W w' : World} {g : Nat} {o : Obj} (h : Aside0 (w.heap[g]? = some o)) (hb : Below W.heap.size W w') (k : w.heap[g]? = some o → W.heap[g]? = some o := by intro h; (with_reducible repeat (first | apply kb1 | apply kb2 | apply kb3)); exact h) : Aside0 (w'.heap[g]? = some o) := ka (blk_below (k h.out) hb)
theorem kvb {α : Type} {d : Kd α} {e : Nat} {w W w' : World} {b : Nat} {ok : Nat → Prop} {v : Value} {xs : List α} (h : Aside0 (Kd.V d e w b ok v xs)) (hb : Below W.heap.size W w') (k : Kd.V d e w b ok v xs → Kd.V d e W b ok v xs := by intro h; (with_reducible repeat (first | apply Kd.V_alloc | apply Kd.V_drewN | apply Kd.V_drew)); exact h) : Aside0 (Kd.V d e w' b ok v xs) := ka (Kd.V_below (k h.out) hb)
theorem knb {w W : World} {g x : Nat} {o : Obj} (hg : x = W.heap.size) (h : Aside0 (w.heap[g]? = some o)) (k : w.heap[g]? = some o → W.heap[g]? = some o := by intro h; (with_reducible repeat (first | apply kb1 | apply kb2 | apply kb3)); exact h) : Aside0 (g ≠ x) := ka (by rw [hg]; exact Nat.ne_of_lt (blk_lt (k h.out)))
theorem kf {w W : World} {g q : Nat} {o : Obj} (h : Aside0 (w.heap[g]? = some o)) (hq : W.heap.size ≤ q) (k : w.heap[g]? = some o → W.heap[g]? = some o := by intro h; (with_reducible repeat (first | apply kb1 | apply kb2 | apply kb3)); exact h) : q ≠ g := Kd.freshB (k h.out) q hq
theorem knt {w : World} {g g' : Nat} {c c' : Array Value} {t t' : TypeId} (h : w.heap[g]? = some (.cells c t (0, 0))) (h' : w.heap[g']? = some (.cells c' t' (0, 0))) (ht : t ≠ t') : g ≠ g' := by
  rintro rfl
  rw [h] at h'
  injection h' with h'
  injection h' with _ h2
  exact ht h2
theorem kx {P : Program} {ops : Array Oper} {rest : List Oper} {o : Oper} {a : Act} {Q : Exit → Act → World → Prop} {W : World} {N : Tmp} {cs : Array Value} {t : TypeId}
    (h : ∀ g, g = W.heap.size → ∀ w1, w1.heap[g]? = some (.cells cs t (0, 0)) → Below W.heap.size W w1 → wpList P ops Q rest (a.put o.dst (.pointer (some ⟨g, 0, none⟩))) w1) (hgd : o.guard = none := by rfl) (hd : o.dst = some N := by rfl)
    (hrun : (execOp a.eval o).run P W = .ok (.value (.pointer (some ⟨W.heap.size, 0, none⟩))) (W.alloc (.cells cs t (0, 0))) := by first | (go_simp; done) | (go_simp; rfl)) : wpList P ops Q (o :: rest) a W := box_event hgd hd hrun h
theorem vMine {α : Type} {d : Kd α} {e : Nat} {w : World} {b B : Nat} {P Q : Nat → Prop} {v : Value} {xs : List α} (h : Kd.V d e w b (fun k => B ≤ k ∧ Q k) v xs) : Kd.V d e w b (fun k => (P k ∨ B ≤ k) ∧ Q k) v xs := Kd.V_mono h (fun _ hk => ⟨.inr hk.1, hk.2⟩)
theorem vMine0 {α : Type} {d : Kd α} {e : Nat} {w : World} {b B : Nat} {P : Nat → Prop} {v : Value} {xs : List α} (h : Kd.V d e w b (fun k => B ≤ k) v xs) : Kd.V d e w b (fun k => P k ∨ B ≤ k) v xs := Kd.V_mono h (fun _ hk => .inr hk)
theorem kg {P : Program} {ops : Array Oper} {rest : List Oper} {oi : Oper} {a : Act} {Q : Exit → Act → World → Prop} {w : World} (N : Option Tmp) (hd : oi.dst = N) (hg : oi.guard = none) {f : FuncId} {fn : Func} {as : Array Operand} {ts : Array TypeId} (hf : P.funcs[f]? = some fn) (hname : (fn.name == "runtime.NumGoroutine") = false) (hb : fn.body.isSome = true) (args : Array Value)
    (hop : oi.op = .call { callee := .value (.func f), args := as, argTypes := ts }) (h : Calls P f args w fun e w' => ∃ v, e = .returned v ∧ wpList P ops Q rest (a.put N v) w')
    (hargs : as.map a.eval = args := by (try simp only [List.map_toArray, List.map_cons, List.map_nil]); first | done | rfl | (simp only [List.length_drop, List.length_take]; rfl)) : wpList P ops Q (oi :: rest) a w := goesL_ N hd hg hf hname hb args hop hargs h
end Go.Proofs.Ytghimjkoaldafaa.P
