-- Written by a program of this session out of the translation of the seat: Lean functions and the proofs that the Go functions come to them.
import Derived.Test.YtbbhdlbpefibeaaGreatDoorPx0
import Derived.Test.YtbbhdlbpefibeaaGreatDoorPx1
namespace Go.Proofs.YtbbhdlbpefibeaaGreatDoor.P
open Go.RowKit Go.Proofs.YtbbhdlbpefibeaaGreatDoorW.PrintWords Go.Proofs.YtbbhdlbpefibeaaGreatDoorW.PrintLast Go.Proofs.YtbbhdlbpefibeaaGreatDoorW.PrintMore
attribute [local go_sem] max2_int min2_int max_two min_two max_three min_three max_four min_four   -- for this text's walks alone
set_option linter.unusedVariables false
set_option linter.unusedSimpArgs false

/-! ### trivettop_up: function 6 -/
set_option maxHeartbeats 8000000
set_option maxRecDepth 100000
-- what an empty map does, what the books are
theorem Emp.chk {P : Program} {k : TypeId} {q : IntKind} {w : World} {x : Int} {b : Bool} (hk : P.underlying k = some (.int q)) : (Instr.checkKey b 10000 k (.int q x)).run P w = .ok () w := by
 rw [show (10000 : Nat) = 9999 + 1 from rfl]
 unfold Instr.checkKey
 simp [run_underlying hk, Result.andThen]
theorem Emp.look {P : Program} {t e k : TypeId} {q : IntKind} {b c : Nat} {w : World} {z : Value} {x : Int} {ok : Bool} (ht : P.underlying t = some (.map k e)) (hk : P.underlying k = some (.int q)) (hb : w.heap[b]? = some (.map #[] c)) (hz : (zeroValue e).run P w = .ok z w) :
  (Instr.lookup t (.map (some b)) (.int q x) ok).run P w = .ok (if ok then .tuple #[z, .bool false] else z) w := by
 simp [Instr.lookup, run_underlying ht, MapKept.run_getObj_map hb, Result.andThen, Emp.chk hk, run_underlying hk, Instr.findKey, Instr.findNow, hz]
theorem Emp.len {P : Program} {t e k ty : TypeId} {b c : Nat} {w : World} (ht : P.underlying t = some (.map k e)) (hb : w.heap[b]? = some (.map #[] c)) :
  (Builtin.len_ #[t] ty #[.map (some b)]).run P w = .ok (.int .i64 0) w := by
 simp [Builtin.len_, run_underlying ht, MapKept.run_getObj_map hb, goInt, Result.andThen]
theorem Emp.range {P : Program} {t e k : TypeId} {b c : Nat} {w : World} (ht : P.underlying t = some (.map k e)) (hb : w.heap[b]? = some (.map #[] c)) :
  (Instr.range t (.map (some b))).run P w = .ok (.pointer (some ⟨w.heap.size, 0, none⟩)) (w.alloc (.mapIter (some b) c #[] c)) := by
 simp [Instr.range, run_underlying ht, MapKept.run_getObj_map hb, Result.andThen]
theorem Emp.next {P : Program} {ty : TypeId} {b c r s : Nat} {w : World} {l : Nat} (hr : w.heap[r]? = some (.mapIter (some b) s #[] l)) (hb : w.heap[b]? = some (.map #[] c)) :
  (Instr.next (.pointer (some ⟨r, 0, none⟩)) false ty).run P w = .ok (.tuple #[.bool false]) w := by
 simp [Instr.next, getObj, Sem.run, hr, hb, Result.andThen, choose, Question.forced]
theorem Emp.update {P : Program} {t e k : TypeId} {q : IntKind} {b c : Nat} {w : World} {v : Value} {x : Int} (ht : P.underlying t = some (.map k e)) (hk : P.underlying k = some (.int q)) (hb : w.heap[b]? = some (.map #[] c)) :
  (Instr.mapUpdate t (.map (some b)) (.int q x) v).run P w = .ok () { w with heap := w.heap.setIfInBounds b (.map #[⟨.int q x, v, c⟩] (c + 1)) } := by
 simp [Instr.mapUpdate, run_underlying ht, MapKept.run_getObj_map hb, Result.andThen, Emp.chk hk, run_underlying hk, Instr.findKey, Instr.findNow, MapKept.run_setObj_map _ hb]
theorem al_at (w : World) (o : Obj) (i : Nat) : (w.alloc o).heap[i]? = if i = w.heap.size then some o else w.heap[i]? := by
 show (w.heap.push o)[i]? = _
 rw [Array.getElem?_push]
theorem al_new (w : World) (o : Obj) : (w.alloc o).heap[w.heap.size]? = some o := by rw [al_at, if_pos rfl]
theorem al_size (w : World) (o : Obj) : (w.alloc o).heap.size = w.heap.size + 1 := by
 show (w.heap.push o).size = _
 simp
theorem al_newn {w : World} {o : Obj} {i : Nat} (h : i = w.heap.size) : (w.alloc o).heap[i]? = some o := by rw [h]; exact al_new _ _
theorem dr_size (w : World) : w.drew.heap.size = w.heap.size := rfl
theorem at_lt {w : World} {i : Nat} {o : Obj} (h : w.heap[i]? = some o) : i < w.heap.size := by
 rcases Nat.lt_or_ge i w.heap.size with h1 | h1
 ·exact h1
 ·rw [Array.getElem?_eq_none h1] at h; cases h
theorem al_keep {w : World} {i : Nat} {o : Obj} (o' : Obj) (h : w.heap[i]? = some o) : (w.alloc o').heap[i]? = some o := by
 rw [al_at, if_neg (by have := at_lt h; omega)]; exact h
theorem be_keep {w w' : World} {i : Nat} {o : Obj} (hb : Below w.heap.size w w') (h : w.heap[i]? = some o) : w'.heap[i]? = some o := (hb.block i (at_lt h)).trans h
theorem be_al (w : World) (o : Obj) : Below w.heap.size w (w.alloc o) := (Below.refl _ w).alloc (Nat.le_refl _) _
theorem be_trans {a b c : World} (h : Below a.heap.size a b) (k : Below b.heap.size b c) : Below a.heap.size a c := h.trans (k.mono h.size)
theorem kd_cell {w : World} {a : Addr} {v : Value} (h : w.cell? a = some v) : w.drew.cell? a = some v := h
theorem cell_at {w : World} {a : Addr} {v : Value} (h : w.cell? a = some v) : ∃ o, w.heap[a.block]? = some o := by
 unfold World.cell? at h
 cases e : w.heap[a.block]? with
 | none => rw [e] at h; cases h
 | some o => exact ⟨o, rfl⟩
theorem kb_cell {w w' : World} {a : Addr} {v : Value} (hb : Below w.heap.size w w') (h : w.cell? a = some v) : w'.cell? a = some v := by
 obtain ⟨o, ho⟩ := cell_at h
 exact (hb.cell (at_lt ho)).trans h
theorem ka_cell {w : World} {a : Addr} {v : Value} (o : Obj) (h : w.cell? a = some v) : (w.alloc o).cell? a = some v := kb_cell (be_al w o) h
theorem kd_heap {w : World} {i : Nat} {o : Obj} (h : w.heap[i]? = some o) : w.drew.heap[i]? = some o := h
theorem kd_below {B : Nat} {u w : World} (h : Below B u w) : Below B u w.drew := ⟨h.os, h.tape, h.output, h.size, h.block⟩
theorem ka_below {u w : World} (o : Obj) (h : Below u.heap.size u w) : Below u.heap.size u (w.alloc o) := be_trans h (be_al w o)
/-- books without entries, at b -/
def IsBook (w : World) (b m : Nat) : Prop := (∃ c, w.heap[m]? = some (.map #[] c)) ∧ w.heap[b]? = some (.cells #[.slice none 0 0, .map (some m)] 107 (0, 0))
theorem IsBook.below {w w' : World} {b m : Nat} (h : IsBook w b m) (hb : Below w.heap.size w w') : IsBook w' b m := by
 obtain ⟨⟨c, h1⟩, h2⟩ := h
 exact ⟨⟨c, be_keep hb h1⟩, be_keep hb h2⟩
theorem book_New.calls (w : World) : Calls Tryz.prog 36 #[] w fun e w' => (∃ b m, e = .returned (.pointer (some ⟨b, 0, none⟩)) ∧ w.heap.size ≤ b ∧ w.heap.size ≤ m ∧ IsBook w' b m) ∧ Below w.heap.size w w' := by
 have hmm := @run_makeMap Tryz.prog
 go_enter Tryz.func36, Tryz.ntmps36
 go_wp2
 go_ret
 refine ⟨⟨_, _, rfl, by omega, Nat.le_refl _, ⟨⟨0, ?_⟩, ?_⟩⟩, be_trans (be_al _ _) (be_al _ _)⟩
 ·exact al_keep _ (al_new _ _)
 ·rw [← al_size w (.map #[] 0)]; exact al_new _ _
theorem book_Len.calls (b m : Nat) (w : World) (h : IsBook w b m) : Calls Tryz.prog 21 #[.pointer (some ⟨b, 0, none⟩)] w fun e w' => e = .returned (.int .i64 0) ∧ Below w.heap.size w w' := by
 obtain ⟨⟨c, hm⟩, hb⟩ := h
 have B := blkAll2 hb
 obtain ⟨⟨b0, b1⟩, f0, f1⟩ := B
 go_enter Tryz.func21, Tryz.ntmps21
 go_wp2
 go_ret
 exact ⟨rfl, Below.refl _ w⟩
theorem clone_entries.calls (w : World) : Calls Tryz.prog 75 #[.slice none 0 0] w fun e w' => e = .returned (.slice none 0 0) ∧ Below w.heap.size w w' := by
 have hq := fun w => run_eql_nil_slice (P := Tryz.prog) w 104 _ none 0 0 0 0 Tryz.underlying104
 go_enter Tryz.func75, Tryz.ntmps75
 go_wp2
 go_ret
 exact ⟨rfl, Below.refl _ w⟩
theorem clone_map.calls (b c : Nat) (w : World) (hb : w.heap[b]? = some (.map #[] c)) : Calls Tryz.prog 76 #[.map (some b)] w fun e w' => e = .returned (.map (some w.heap.size)) ∧ w' = w.alloc (.map #[] c) := by
 have hq := fun w => run_eql_map_nil_sl (P := Tryz.prog) w 105 _ _ (some b) Tryz.underlying105
 go_enter Tryz.func76, Tryz.ntmps76
 go_wp2
 rw [run_callFunc_extern Tryz.func118 (by kernel_rfl) (by kernel_rfl) (by kernel_rfl) (e := Extern.MapsClone.clone) (by kernel_rfl), run_maps_clone_sl w 105 hb]
 simp only [Result.andThen]
 rw [Oper.upon_value]
 go_wp2
 rw [run_typeAssert_map_sl _ 105 20 _ _ _ Tryz.underlying105]
 simp only [Result.andThen]
 rw [Oper.upon_value]
 go_wp2
 go_ret
 exact ⟨rfl, rfl⟩
theorem book_Clone.calls (b m : Nat) (w : World) (h : IsBook w b m) : Calls Tryz.prog 46 #[.pointer (some ⟨b, 0, none⟩)] w fun e w' => (∃ b m, e = .returned (.pointer (some ⟨b, 0, none⟩)) ∧ w.heap.size ≤ b ∧ w.heap.size ≤ m ∧ IsBook w' b m) ∧ Below w.heap.size w w' := by
 obtain ⟨⟨c, hm⟩, hb⟩ := h
 have B := blkAll2 hb
 obtain ⟨⟨b0, b1⟩, f0, f1⟩ := B
 have hc := fun w' hw => clone_map.calls m c w' hw
 go_enter Tryz.func46, Tryz.ntmps46
 go_wp2
 go_region_held3 (fun w' => w'.cell? ⟨b, 0, none⟩ = some (.slice none 0 0) ∧ w'.cell? ⟨b, 1, none⟩ = some (.map (some m)) ∧ w'.heap[m]? = some (.map #[] c) ∧ Below w.heap.size w w') (first | ((repeat' (with_reducible apply And.intro)) <;> first | assumption | exact Below.refl _ _ | exact kd_cell (by assumption) | exact ka_cell _ (by assumption) | exact kb_cell (by assumption) (by assumption) | exact kd_heap (by assumption) | exact al_keep _ (by assumption) | exact be_keep (by assumption) (by assumption) | exact kd_below (by assumption) | exact kd_below (Below.refl _ _) | exact ka_below _ (by assumption) | exact be_trans (by assumption) (by assumption)) | (obtain ⟨h1_, h2_, h3_, h4_⟩ := (‹_ ∧ _ ∧ _ ∧ Below w.heap.size w _›); (repeat' (with_reducible apply And.intro)) <;> first | assumption | exact Below.refl _ _ | exact kd_cell (by assumption) | exact ka_cell _ (by assumption) | exact kb_cell (by assumption) (by assumption) | exact kd_heap (by assumption) | exact al_keep _ (by assumption) | exact be_keep (by assumption) (by assumption) | exact kd_below (by assumption) | exact kd_below (Below.refl _ _) | exact ka_below _ (by assumption) | exact be_trans (by assumption) (by assumption)))
  (first
   | (go_at_call 75; refine (clone_entries.calls _).mono ?_; rintro e w' ⟨rfl, hb'⟩)
   | (go_at_call 76; refine (clone_map.calls m c _ (by simp [*])).mono ?_; rintro e w' ⟨rfl, rfl⟩))
 go_wp2
 go_ret
 have hs := hb'.size
 refine ⟨⟨w'.heap.size + 1, w'.heap.size, rfl, ?_, ?_, ⟨⟨c, ?_⟩, ?_⟩⟩, ?_⟩
 ·exact Nat.le_succ_of_le hs
 ·exact hs
 ·exact al_keep _ (al_new _ _)
 ·rw [← al_size w' (.map #[] c)]; exact al_new _ _
 ·exact be_trans (be_trans (be_trans (kd_below (Below.refl _ w)) hb') (be_al _ _)) (be_al _ _)
/-- a core at p on a day, without loans -/
def IsCore (w : World) (p : Nat) (d : Int) (f l b k m : Nat) : Prop :=
 w.heap[p]? = some (.cells #[.int .i64 d, .map (some f), .map (some l), .pointer (some ⟨b, 0, none⟩), .map (some k)] 94 (0, 0)) ∧
 (∃ c, w.heap[f]? = some (.map #[] c)) ∧ (∃ c, w.heap[l]? = some (.map #[] c)) ∧ (∃ c, w.heap[k]? = some (.map #[] c)) ∧ IsBook w b m
theorem IsCore.below {w w' : World} {p f l b k m : Nat} {d : Int} (h : IsCore w p d f l b k m) (hb : Below w.heap.size w w') : IsCore w' p d f l b k m := by
 obtain ⟨h1, ⟨c1, h2⟩, ⟨c2, h3⟩, ⟨c3, h4⟩, h5⟩ := h
 exact ⟨be_keep hb h1, ⟨c1, be_keep hb h2⟩, ⟨c2, be_keep hb h3⟩, ⟨c3, be_keep hb h4⟩, h5.below hb⟩
theorem core_New.calls (w : World) : Calls Tryz.prog 13 #[] w fun e w' => (∃ p f l b k m, e = .returned (.pointer (some ⟨p, 0, none⟩)) ∧ w.heap.size ≤ p ∧ w.heap.size ≤ k ∧ IsCore w' p 18262 f l b k m) ∧ Below w.heap.size w w' := by
 have hmm := @run_makeMap Tryz.prog
 have hn : date_Number_s.f 2020 1 1 = some (18262, none) := by decide
 go_enter Tryz.func13, Tryz.ntmps13
 go_wp2_with (first
  | (go_at_call 35; refine (date_Number_s.calls 2020 1 1 _ _ _ hn).mono ?_; rintro e w1 ⟨rfl, hb1⟩)
  | (go_at_call 36; refine (book_New.calls _).mono ?_; rintro e w2 ⟨⟨b, m, rfl, gb, gm, hbook⟩, hb2⟩))
 go_ret
 have s1 := hb1.size
 have s2 := hb2.size
 rw [al_size, al_size] at s2
 have B := be_trans (be_trans (be_trans (be_trans (be_trans hb1 (be_al _ _)) (be_al _ _)) hb2) (be_al w2 (.map #[] 0))) (be_al _ (.cells #[.int .i64 18262, .map (some w1.heap.size), .map (some (w1.heap.size + 1)), .pointer (some ⟨b, 0, none⟩), .map (some w2.heap.size)] 94))
 refine ⟨⟨w2.heap.size + 1, w1.heap.size, w1.heap.size + 1, b, w2.heap.size, m, rfl, by omega, by omega, ?_, ⟨0, ?_⟩, ⟨0, ?_⟩, ⟨0, ?_⟩, ?_⟩, B⟩
 ·rw [← al_size w2 (.map #[] 0)]; exact al_new _ _
 ·exact al_keep _ (al_keep _ (be_keep hb2 (al_keep _ (al_new _ _))))
 ·exact al_keep _ (al_keep _ (be_keep hb2 (by rw [← al_size w1 (.map #[] 0)]; exact al_new _ _)))
 ·exact al_keep _ (al_new _ _)
 ·exact (hbook.below (be_al _ _)).below (be_al _ _)
theorem core_Day.calls (p f l b k m : Nat) (d : Int) (w : World) (h : IsCore w p d f l b k m) : Calls Tryz.prog 18 #[.pointer (some ⟨p, 0, none⟩)] w fun e w' => e = .returned (.int .i64 d) ∧ Below w.heap.size w w' := by
 obtain ⟨⟨b0, b1, b2, b3, b4⟩, f0, f1, f2, f3, f4⟩ := blkAll5 h.1
 go_enter Tryz.func18, Tryz.ntmps18
 go_wp2
 go_ret
 exact ⟨rfl, Below.refl _ w⟩
theorem core_Book.calls (p f l b k m : Nat) (d : Int) (w : World) (h : IsCore w p d f l b k m) : Calls Tryz.prog 19 #[.pointer (some ⟨p, 0, none⟩)] w fun e w' => (∃ b m, e = .returned (.pointer (some ⟨b, 0, none⟩)) ∧ w.heap.size ≤ b ∧ w.heap.size ≤ m ∧ IsBook w' b m) ∧ Below w.heap.size w w' := by
 obtain ⟨⟨b0, b1, b2, b3, b4⟩, f0, f1, f2, f3, f4⟩ := blkAll5 h.1
 have hbk := h.2.2.2.2
 clear h
 go_enter Tryz.func19, Tryz.ntmps19
 go_wp2_with (go_at_call 46; refine (book_Clone.calls b m _ hbk).mono ?_; rintro e w2 ⟨⟨b', m', rfl, gb, gm, hbook⟩, hb2⟩)
 go_ret
 exact ⟨⟨b', m', rfl, gb, gm, hbook⟩, hb2⟩
theorem core_Clone.calls (p f l b k m : Nat) (d : Int) (w : World) (h : IsCore w p d f l b k m) : Calls Tryz.prog 59 #[.pointer (some ⟨p, 0, none⟩)] w fun e w' => (∃ p f l b k m, e = .returned (.pointer (some ⟨p, 0, none⟩)) ∧ w.heap.size ≤ p ∧ w.heap.size ≤ k ∧ IsCore w' p d f l b k m) ∧ Below w.heap.size w w' := by
 have hmm := @run_makeMap Tryz.prog
 obtain ⟨⟨b0, b1, b2, b3, b4⟩, f0, f1, f2, f3, f4⟩ := blkAll5 h.1
 go_enter Tryz.func59, Tryz.ntmps59
 go_wp2
 go_cut [3] (fun x wr => ∃ p' f' l' b' k' m' : Nat, x = .pointer (some ⟨p', 0, none⟩) ∧ Aside0 (w.heap.size ≤ p' ∧ w.heap.size ≤ k' ∧ IsCore wr p' d f' l' b' k' m') ∧ Aside0 (Below w.heap.size w wr))
 case first =>
  go_region_held3 (fun w' => w'.cell? ⟨p, 0, none⟩ = some (.int .i64 d) ∧ w'.cell? ⟨p, 3, none⟩ = some (.pointer (some ⟨b, 0, none⟩)) ∧ IsBook w' b m ∧ Below w.heap.size w w')
   (first
    | exact ⟨kd_cell b0, kd_cell b3, h.2.2.2.2, kd_below (Below.refl _ _)⟩
    | (obtain ⟨h1_, h2_, h3_, h4_⟩ := (‹_ ∧ _ ∧ IsBook _ b m ∧ Below w.heap.size w _›); first
     | exact ⟨ka_cell _ h1_, ka_cell _ h2_, h3_.below (be_al _ _), ka_below _ h4_⟩
     | exact ⟨kb_cell (by assumption) h1_, kb_cell (by assumption) h2_, h3_.below (by assumption), be_trans h4_ (by assumption)⟩
     | exact ⟨h1_, h2_, h3_, h4_⟩))
   (first
    | (go_at_call 46; refine (book_Clone.calls b m _ (by simp [*])).mono ?_; rintro e w2 ⟨⟨b', m', rfl, gb, gm, hbook⟩, hb2⟩))
  all_goals go_wp2
  all_goals go_meet
  all_goals (
   have HB2 : Below w.heap.size w w2 := by
    refine be_trans ?_ hb2
    repeat first | exact Below.refl _ _ | refine kd_below ?_ | refine ka_below _ ?_
   have hs := HB2.size
   refine ⟨_, _, _, b', _, m', rfl, ⟨⟨by omega, ?_, al_newn (by simp only [al_size, dr_size]), ⟨0, ?_⟩, ⟨0, ?_⟩, ⟨0, ?_⟩, ?_⟩⟩, ⟨?_⟩⟩
   ·omega
   ·repeat first | (refine al_newn ?_; first | with_reducible rfl | (simp only [al_size, dr_size]; done)) | refine al_keep _ ?_ | refine be_keep hb2 ?_ | refine kd_heap ?_
   ·repeat first | (refine al_newn ?_; first | with_reducible rfl | (simp only [al_size, dr_size]; done)) | refine al_keep _ ?_ | refine be_keep hb2 ?_ | refine kd_heap ?_
   ·repeat first | (refine al_newn ?_; first | with_reducible rfl | (simp only [al_size, dr_size]; done)) | refine al_keep _ ?_ | refine be_keep hb2 ?_ | refine kd_heap ?_
   ·repeat first | exact hbook | refine IsBook.below ?_ (be_al _ _)
   ·repeat first | exact HB2 | refine kd_below ?_ | refine ka_below _ ?_)
 case rest =>
  obtain ⟨p', f', l', b', k', m', rfl, HC, HB⟩ := hcut
  have hc := h.below HB.out
  obtain ⟨hp, ⟨c1, hf⟩, ⟨c2, hl⟩, ⟨c3, hk⟩, hbk⟩ := hc
  clear h b0 b1 b2 b3 b4 f0 f1 f2 f3 f4 hbk
  obtain ⟨⟨b0, b1, b2, b3, b4⟩, f0, f1, f2, f3, f4⟩ := blkAll5 hp
  have r1 := Emp.range (w := wc) Tryz.underlying90 hf
  go_wp2
  clear r1 b0 b1 b2 b3 b4 f0 f1 f2 f3 f4
  go_loopg [30] 0 (fun gg _ wr1 => wr1 = wc.alloc (.mapIter (some f) c1 #[] c1))
  case atStart => rfl
  case round =>
   obtain ⟨wr1, ew⟩ : ∃ x, x = wr := ⟨_, rfl⟩
   subst ew
   have n1 := Emp.next (P := Tryz.prog) (ty := 0) (al_new wc (.mapIter (some f) c1 #[] c1)) (al_keep (.mapIter (some f) c1 #[] c1) hf)
   have hB1 := be_al wc (.mapIter (some f) c1 #[] c1)
   rw [← hrel] at n1 hB1
   clear hrel
   replace HC := ka (And.intro HC.out.1 (And.intro HC.out.2.1 (HC.out.2.2.below hB1)))
   replace HB := ka (be_trans HB.out hB1)
   replace hp := be_keep hB1 hp
   replace hl := be_keep hB1 hl
   replace hk := be_keep hB1 hk
   clear hf hB1
   obtain ⟨⟨b0, b1, b2, b3, b4⟩, f0, f1, f2, f3, f4⟩ := blkAll5 hp
   have r1 := Emp.range (w := wr1) Tryz.underlying91 hl
   go_wp2
   clear r1 b0 b1 b2 b3 b4 f0 f1 f2 f3 f4
   go_loopg [47] 0 (fun gg _ wr2 => wr2 = wr1.alloc (.mapIter (some l) c2 #[] c2))
   case atStart => rfl
   case round =>
    obtain ⟨wr2, ew⟩ : ∃ x, x = wr := ⟨_, rfl⟩
    subst ew
    have n1 := Emp.next (P := Tryz.prog) (ty := 0) (al_new wr1 (.mapIter (some l) c2 #[] c2)) (al_keep (.mapIter (some l) c2 #[] c2) hl)
    have hB1 := be_al wr1 (.mapIter (some l) c2 #[] c2)
    rw [← hrel] at n1 hB1
    clear hrel
    replace HC := ka (And.intro HC.out.1 (And.intro HC.out.2.1 (HC.out.2.2.below hB1)))
    replace HB := ka (be_trans HB.out hB1)
    replace hp := be_keep hB1 hp
    replace hk := be_keep hB1 hk
    clear hl hB1
    obtain ⟨⟨b0, b1, b2, b3, b4⟩, f0, f1, f2, f3, f4⟩ := blkAll5 hp
    have r1 := Emp.range (w := wr2) Tryz.underlying92 hk
    go_wp2
    clear r1 b0 b1 b2 b3 b4 f0 f1 f2 f3 f4
    go_loopg [68] 0 (fun gg _ wr3 => wr3 = wr2.alloc (.mapIter (some k) c3 #[] c3))
    case atStart => rfl
    case round =>
     obtain ⟨wr3, ew⟩ : ∃ x, x = wr := ⟨_, rfl⟩
     subst ew
     have n1 := Emp.next (P := Tryz.prog) (ty := 0) (al_new wr2 (.mapIter (some k) c3 #[] c3)) (al_keep (.mapIter (some k) c3 #[] c3) hk)
     have hB1 := be_al wr2 (.mapIter (some k) c3 #[] c3)
     rw [← hrel] at n1 hB1
     clear hrel
     replace HC := ka (And.intro HC.out.1 (And.intro HC.out.2.1 (HC.out.2.2.below hB1)))
     replace HB := ka (be_trans HB.out hB1)
     replace hp := be_keep hB1 hp
     clear hk hB1
     go_wp2
     go_ret
     exact ⟨⟨p', f', l', b', k', m', rfl, HC.out.1, HC.out.2.1, HC.out.2.2⟩, HB.out⟩
theorem byte_info : (Tryz.prog.info? 5).map (fun i => (i.zero, i.size, i.bytes)) = some (some (.int .u8 0), 1, 1) := by kernel_rfl
theorem make128 (w : World) : (Instr.makeSlice 71 (.int .i64 128) (.int .i64 128)).run Tryz.prog w = .ok (.slice (some ⟨w.heap.size, 0, none⟩) 128 128) (w.alloc (.cells (madeCells #[.int .u8 0] 128) 5)) := by
 obtain ⟨i0, hi, hz0, hz1, hz2⟩ := info_parts byte_info
 have := run_make (P := Tryz.prog) w 71 5 i0 (.int .u8 0) Tryz.underlying71 hi hz0 .i64 .i64 128 128 (by decide) (by decide) (by rw [hz2]; decide) (by decide)
 rw [hz1] at this
 exact this
/-- 128 bytes of zeros at n -/
def Zr (w : World) (n : Nat) : Prop := w.heap[n]? = some (.cells (madeCells #[.int .u8 0] 128) 5 (0, 0))
theorem Zr.at_ {w : World} {n : Nat} (h : Zr w n) (j : Nat) (hj : j < 128) : w.cell? ⟨n, j, none⟩ = some (.int .u8 0) := by
 rw [blk_cell h j]
 simp [madeCells, hj, Nat.mod_one]
theorem Zr.below {w w' : World} {n : Nat} (h : Zr w n) (hb : Below w.heap.size w w') : Zr w' n := be_keep hb h
/-- a disk of two blocks at d, nothing written -/
def IsDisk (w : World) (d n : Nat) : Prop := (∃ v0 v2, w.heap[d]? = some (.cells #[v0, .slice (some ⟨n, 0, none⟩) 128 128, v2] 112 (0, 0))) ∧ Zr w n
theorem IsDisk.below {w w' : World} {d n : Nat} (h : IsDisk w d n) (hb : Below w.heap.size w w') : IsDisk w' d n := by
 obtain ⟨⟨v0, v2, h1⟩, h2⟩ := h
 exact ⟨⟨v0, v2, be_keep hb h1⟩, h2.below hb⟩
theorem disk_New.calls (w : World) : Calls Tryz.prog 29 #[.int .i64 2] w fun e w' => (∃ d n, e = .returned (.tuple #[.pointer (some ⟨d, 0, none⟩), .nilIface]) ∧ IsDisk w' d n) ∧ Below w.heap.size w w' := by
 have hmm := @run_makeMap Tryz.prog
 have hms := make128
 go_enter Tryz.func29, Tryz.ntmps29
 go_wp2
 go_region_held3 (fun w' => Below w.heap.size w w')
  (first
   | exact kd_below (Below.refl _ _)
   | exact ka_below _ (by assumption)
   | assumption)
  (fail)
 all_goals (
  go_wp2
  go_ret2
  refine ⟨⟨_, _, rfl, ⟨⟨_, _, kd_heap (al_newn (by simp only [al_size, dr_size]))⟩, ?_⟩⟩, by assumption⟩
  repeat first | (refine al_newn ?_; first | with_reducible rfl | (simp only [al_size, dr_size]; done)) | refine al_keep _ ?_ | refine kd_heap ?_)
theorem disk_Size.calls (d n : Nat) (w : World) (h : IsDisk w d n) : Calls Tryz.prog 79 #[.pointer (some ⟨d, 0, none⟩)] w fun e w' => e = .returned (.int .i64 128) ∧ Below w.heap.size w w' := by
 obtain ⟨⟨v0, v2, h1⟩, h2⟩ := h
 obtain ⟨⟨b0, b1, b2⟩, f0, f1, f2⟩ := blkAll3 h1
 go_enter Tryz.func79, Tryz.ntmps79
 go_wp2
 go_ret
 exact ⟨rfl, Below.refl _ w⟩
theorem disk_there.calls (d n : Nat) (w : World) (h : IsDisk w d n) : Calls Tryz.prog 119 #[.pointer (some ⟨d, 0, none⟩), .int .i64 0, .int .i64 128] w fun e w' => e = .returned (.bool true) ∧ Below w.heap.size w w' := by
 obtain ⟨⟨v0, v2, h1⟩, h2⟩ := h
 obtain ⟨⟨b0, b1, b2⟩, f0, f1, f2⟩ := blkAll3 h1
 go_enter Tryz.func119, Tryz.ntmps119
 go_wp2
 go_ret
 exact ⟨rfl, Below.refl _ w⟩
/-- a slice of 128 bytes of zeros -/
def Zs (w : World) (v : Value) : Prop := ∃ g c, v = .slice (some ⟨g, 0, none⟩) 128 c ∧ ∀ j, j < 128 → w.cell? ⟨g, j, none⟩ = some (.int .u8 0)
theorem Zs.below {w w' : World} {v : Value} (h : Zs w v) (hb : Below w.heap.size w w') : Zs w' v := by
 obtain ⟨g, c, h1, h2⟩ := h
 exact ⟨g, c, h1, fun j hj => kb_cell hb (h2 j hj)⟩
theorem clone_bytes.calls (n c : Nat) (w : World) (h : Zr w n) : Calls Tryz.prog 85 #[.slice (some ⟨n, 0, none⟩) 128 c] w fun e w' => (∃ v', e = .returned v' ∧ Zs w' v') ∧ Below w.heap.size w w' := by
 have q22 : ∀ (w : World) (a : Option Addr) (n c n' c' : Nat), (binOp .eql 71 (.slice a n c) (.slice none n' c')).run Tryz.prog w = .ok (.bool a.isNone) w := fun w a n c n' c' => Lib.run_eql_slice_nil w 71 5 a n c n' c' Tryz.underlying71
 obtain ⟨i0, hi, hz0, hz1, hz2⟩ := info_parts byte_info
 have A := ka h
 clear h
 obtain ⟨news, hn1, hn2⟩ : ∃ l : List Value, l.length = 128 ∧ ∀ j u, l[j]? = some u → j < 128 ∧ u = .int .u8 0 := ⟨List.replicate 128 (.int .u8 0), by simp, fun j u hj => by
  have hj2 : j < 128 := by
   rcases Nat.lt_or_ge j 128 with h1 | h1
   ·exact h1
   ·rw [List.getElem?_eq_none (by rw [List.length_replicate]; exact h1)] at hj; cases hj
  exact ⟨hj2, List.eq_of_mem_replicate (List.mem_of_getElem? hj)⟩⟩
 have N := ka (And.intro hn1 hn2)
 clear hn1 hn2
 go_enter Tryz.func85, Tryz.ntmps85
 go_wp2_with (at_builtin; refine wpList_append_own _ rfl _ _ 71 rfl w.heap.size 5 i0 (.int .u8 0) 1 1 Tryz.underlying71 hi hz0 hz1 hz2 rfl (by decide) _ _ _ rfl (World.ownsRow_made w #[] 0 (Nat.le_refl _) (Nat.zero_le _) (by simp)) ⟨n, 0, none⟩ 128 c news rfl ?qc1 ?qc2 ?qc3 ?qc4 ?qc5 ?qc6 ?_)
 case qc1 => exact N.out.1
 case qc2 =>
  intro j u hj
  obtain ⟨hj2, rfl⟩ := N.out.2 j u hj
  rw [Addr.add_lit]
  exact ka_cell _ (by simpa using A.out.at_ j hj2)
 case qc3 =>
  intro u hu
  obtain ⟨j, hj⟩ := List.getElem?_of_mem hu
  obtain ⟨_, rfl⟩ := N.out.2 j u hj
  rfl
 case qc4 => decide
 case qc5 => decide
 case qc6 => simp
 intro v' w1 hown hgrow hnil
 go_wp2
 go_ret
 refine ⟨⟨v', rfl, ?_⟩, ((Below.refl _ w).alloc (Nat.le_refl _) _).grown hgrow (by simp) (by intro k hk; simp [Value.ownBlock] at hk; omega)⟩
 have hc := hown
 rcases hown.2 with ⟨hv, _⟩ | ⟨g, cap, cur, hv, _⟩
 ·exact absurd hv hnil
 ·subst hv
  refine ⟨g, cap, rfl, fun j hj => ?_⟩
  rw [hc.cellAt j (by simpa using hj)]
  have hl : j < ([] ++ news : List Value).length := by simpa [N.out.1] using hj
  simp only [List.nil_append] at hl ⊢
  rw [List.getElem?_eq_getElem hl]
  obtain ⟨_, e⟩ := N.out.2 j news[j] (List.getElem?_eq_getElem hl)
  rw [e]
theorem disk_Read.calls (d n : Nat) (w : World) (h : IsDisk w d n) : Calls Tryz.prog 78 #[.pointer (some ⟨d, 0, none⟩), .int .i64 0, .int .i64 128] w fun e w' => (∃ v', e = .returned (.tuple #[v', .nilIface]) ∧ Zs w' v') ∧ Below w.heap.size w w' := by
 have H := h
 obtain ⟨⟨v0, v2, h1⟩, h2⟩ := h
 go_enter Tryz.func78, Tryz.ntmps78
 go_wp2_with (first
  | (go_at_call 119; refine (disk_there.calls d n _ H).mono ?_; rintro e w1 ⟨rfl, hb1⟩; have h1' := be_keep hb1 h1; have B := blkAll3 h1'; obtain ⟨⟨b0, b1, b2⟩, f0, f1, f2⟩ := B)
  | (go_at_call 85; refine (clone_bytes.calls n 128 _ (Zr.below h2 hb1)).mono ?_; rintro e w2 ⟨⟨v', rfl, hz⟩, hb2⟩))
 go_ret2
 exact ⟨⟨v', rfl, hz⟩, be_trans hb1 hb2⟩
theorem record_nil.calls (v : Value) (w : World) (h : Zs w v) : Calls Tryz.prog 80 #[v] w fun e w' => e = .returned (.slice none 0 0) ∧ Below w.heap.size w w' := by
 obtain ⟨g, c, rfl, hz⟩ := h
 have z0 := hz 0 (by decide)
 have z1 := hz 1 (by decide)
 have z2 := hz 2 (by decide)
 have z3 := hz 3 (by decide)
 clear hz
 go_enter Tryz.func80, Tryz.ntmps80
 go_wp2
 go_quiet (fail)
 simp only [show bits BinOp.or IntKind.i64 0 0 = 0 by decide]
 go_wp2
 go_quiet (fail)
 go_wp2
 go_ret
 exact ⟨rfl, ⟨rfl, rfl, rfl, Nat.le_refl _, fun _ _ => rfl⟩⟩
theorem odd_byte.calls (w : World) : Calls Tryz.prog 82 #[.int .u8 0] w fun e w' => e = .returned (.bool false) ∧ Below w.heap.size w w' := by
 go_enter Tryz.func82, Tryz.ntmps82
 go_wp2
 go_ret
 exact ⟨rfl, Below.refl _ w⟩
theorem index_bytes.calls (v : Value) (w : World) (h : Zs w v) : Calls Tryz.prog 122 #[v, .func (.func 82) #[] #[]] w fun e w' => e = .returned (.int .i64 (-1)) ∧ Below w.heap.size w w' := by
 obtain ⟨g, c, rfl, hz⟩ := h
 have HZ := ka hz
 clear hz
 have eg : ∀ args w, (callFunc 82 args).run Tryz.prog w = .ok (.enter 82 args) w := enters_of Tryz.func82 (by kernel_rfl) rfl
 go_enter Tryz.func122, Tryz.ntmps122
 go_wp2
 go_loopg [5, 8] 128 (fun gg _ s8 wr => ∃ kk : Nat, kk ≤ 128 ∧ 128 - kk ≤ gg ∧ s8 = .int .i64 kk ∧ Aside0 (Below w.heap.size w wr))
 case atStart => exact ⟨0, Nat.zero_le _, by omega, rfl, ⟨Below.refl _ w⟩⟩
 case round =>
  obtain ⟨kk, hkk, hg, rfl, HB⟩ := hrel
  by_cases hlt : kk < 128
  ·have hltz : (kk : Int) < 128 := by omega
   have p1 : 0 ≤ (kk : Int) := by omega
   have x0 := kb_cell HB.out (HZ.out kk hlt)
   go_wp2_with (go_at_fn 82; refine (odd_byte.calls _).mono ?_; rintro e w' ⟨rfl, hb'⟩)
   go_roundg (128 - (kk + 1))
   case measure => omega
   case rel => exact ⟨kk + 1, by omega, by omega, by go_num, ⟨be_trans HB.out hb'⟩⟩
  ·have hltz : ¬ (kk : Int) < 128 := by omega
   go_wp2
   go_ret
   exact ⟨rfl, HB.out⟩
theorem has_bytes.calls (v : Value) (w : World) (h : Zs w v) : Calls Tryz.prog 81 #[v, .func (.func 82) #[] #[]] w fun e w' => e = .returned (.bool false) ∧ Below w.heap.size w w' := by
 have hcon := index_bytes.calls v w h
 clear h
 go_enter Tryz.func81, Tryz.ntmps81
 go_wp2_with (go_at_call 122; refine hcon.mono ?_; rintro e w' ⟨rfl, hb'⟩)
 go_ret
 exact ⟨rfl, hb'⟩
/-- a journal without records at j -/
def IsJr (w : World) (j : Nat) : Prop := ∃ v0 v3, w.heap[j]? = some (.cells #[v0, .slice none 0 0, .int .i64 0, v3] 158 (0, 0))
theorem IsJr.below {w w' : World} {j : Nat} (h : IsJr w j) (hb : Below w.heap.size w w') : IsJr w' j := by
 obtain ⟨v0, v3, h1⟩ := h
 exact ⟨v0, v3, be_keep hb h1⟩
theorem journal_Open.calls (d n : Nat) (w : World) (h : IsDisk w d n) : Calls Tryz.prog 50 #[.pointer (some ⟨d, 0, none⟩)] w fun e w' => (∃ j, e = .returned (.tuple #[.pointer (some ⟨j, 0, none⟩), .nilIface]) ∧ IsJr w' j) ∧ Below w.heap.size w w' := by
 have q22 := fun w => run_neq_nil_slice (P := Tryz.prog) w 71 5 none 0 0 0 0 Tryz.underlying71
 have H := ka h
 go_enter Tryz.func50, Tryz.ntmps50
 go_wp2_with (first
  | (go_at_call 79; refine (disk_Size.calls d n _ H.out).mono ?_; rintro e w1 ⟨rfl, hb1⟩)
  | (go_at_call 78; refine (disk_Read.calls d n _ (H.out.below hb1)).mono ?_; rintro e w2 ⟨⟨v', rfl, hz⟩, hb2⟩)
  | (go_at_call 80; refine (record_nil.calls v' _ (hz.below (be_al _ _))).mono ?_; rintro e w3 ⟨rfl, hb3⟩))
 have hj : w3.heap[w2.heap.size]? = some (.cells #[.pointer (some ⟨d, 0, none⟩), .slice none 0 0, .int .i64 0, .bool false] 158 (0, 0)) := be_keep hb3 (al_new _ _)
 have hz3 := (hz.below (be_al w2 (.cells #[.pointer (some ⟨d, 0, none⟩), .slice none 0 0, .int .i64 0, .bool false] 158))).below hb3
 have HB := ka (be_trans (be_trans (be_trans hb1 hb2) (be_al _ _)) hb3)
 have HJ := ka hj
 have HZ := ka hz3
 obtain ⟨gz, cz, rfl, _⟩ := hz
 obtain ⟨⟨b0, b1, b2, b3⟩, f0, f1, f2, f3⟩ := blkAll4 hj
 clear hb1 hb2 hb3 hj hz3 h
 go_loopg [7] 0 (fun gg v7 wr => v7 = .slice none 0 0 ∧ wr = w3)
 case atStart => exact ⟨rfl, rfl⟩
 case round =>
  obtain ⟨rfl, rfl⟩ := hrel
  go_wp2_with (go_at_call 81; refine (has_bytes.calls _ _ HZ.out).mono ?_; rintro e w4 ⟨rfl, hb4⟩)
  go_ret2
  exact ⟨⟨_, rfl, ⟨_, _, be_keep hb4 HJ.out⟩⟩, be_trans HB.out hb4⟩
theorem journal_Records.calls (j : Nat) (w : World) (h : IsJr w j) : Calls Tryz.prog 51 #[.pointer (some ⟨j, 0, none⟩)] w fun e w' => e = .returned (.slice none 0 0) ∧ Below w.heap.size w w' := by
 obtain ⟨v0, v3, h1⟩ := h
 obtain ⟨⟨b0, b1, b2, b3⟩, f0, f1, f2, f3⟩ := blkAll4 h1
 go_enter Tryz.func51, Tryz.ntmps51
 go_wp2
 go_loopg [3, 11] 0 (fun gg v3 v wr => v3 = .slice none 0 0 ∧ v = .int .i64 0 ∧ wr = w)
 case atStart => exact ⟨rfl, rfl, rfl⟩
 case round =>
  obtain ⟨rfl, rfl, rfl⟩ := hrel
  go_wp2
  go_ret
  exact ⟨rfl, Below.refl _ _⟩
/-- a servicer at s, with the core p -/
def IsSv (w : World) (s p : Nat) : Prop := ∃ v0, w.heap[s]? = some (.cells #[v0, .pointer (some ⟨p, 0, none⟩)] 117 (0, 0))
theorem IsSv.below {w w' : World} {s p : Nat} (h : IsSv w s p) (hb : Below w.heap.size w w') : IsSv w' s p := by
 obtain ⟨v0, h1⟩ := h
 exact ⟨v0, be_keep hb h1⟩
theorem servicer_Open.calls (d n : Nat) (w : World) (h : IsDisk w d n) : Calls Tryz.prog 30 #[.pointer (some ⟨d, 0, none⟩)] w fun e w' => (∃ s p f l b k m, e = .returned (.tuple #[.pointer (some ⟨s, 0, none⟩), .nilIface]) ∧ IsSv w' s p ∧ IsCore w' p 18262 f l b k m) ∧ Below w.heap.size w w' := by
 have H := ka h
 clear h
 go_enter Tryz.func30, Tryz.ntmps30
 go_wp2_with (first
  | (go_at_call 50; refine (journal_Open.calls d n _ H.out).mono ?_; rintro e w1 ⟨⟨j, rfl, hj⟩, hb1⟩)
  | (go_at_call 13; refine (core_New.calls _).mono ?_; rintro e w2 ⟨⟨p, f, l, b, k, m, rfl, gp, gk, hcore⟩, hb2⟩)
  | (go_at_call 51; refine (journal_Records.calls j _ ((hj.below hb2).below (be_al _ _))).mono ?_; rintro e w3 ⟨rfl, hb3⟩))
 go_loopg [26] 0 (fun gg v wr => v = .int .i64 0 ∧ wr = w3)
 case atStart => exact ⟨rfl, rfl⟩
 case round =>
  obtain ⟨rfl, rfl⟩ := hrel
  go_wp2
  go_ret2
  exact ⟨⟨_, p, f, l, b, k, m, rfl, ⟨_, be_keep hb3 (al_new _ _)⟩, (hcore.below (be_al _ _)).below hb3⟩, be_trans (be_trans (be_trans hb1 hb2) (be_al _ _)) hb3⟩
theorem servicer_Core.calls (s p f l b k m : Nat) (d : Int) (w : World) (hs : IsSv w s p) (h : IsCore w p d f l b k m) : Calls Tryz.prog 34 #[.pointer (some ⟨s, 0, none⟩)] w fun e w' => (∃ p f l b k m, e = .returned (.pointer (some ⟨p, 0, none⟩)) ∧ w.heap.size ≤ p ∧ w.heap.size ≤ k ∧ IsCore w' p d f l b k m) ∧ Below w.heap.size w w' := by
 obtain ⟨v0, h1⟩ := hs
 obtain ⟨⟨b0, b1⟩, f0, f1⟩ := blkAll2 h1
 have H := ka h
 clear h
 go_enter Tryz.func34, Tryz.ntmps34
 go_wp2_with (go_at_call 59; refine (core_Clone.calls p f l b k m d _ H.out).mono ?_; rintro e w2 ⟨⟨p', f', l', b', k', m', rfl, gp, gk, hcore⟩, hb2⟩)
 go_ret
 exact ⟨⟨p', f', l', b', k', m', rfl, gp, gk, hcore⟩, hb2⟩
theorem index_acts.calls (v : Value) (w : World) : Calls Tryz.prog 49 #[.slice none 0 0, v] w fun e w' => e = .returned (.int .i64 (-1)) ∧ Below w.heap.size w w' := by
 go_enter Tryz.func49, Tryz.ntmps49
 go_wp2
 go_loopg [8] 0 (fun gg v wr => v = .int .i64 0 ∧ wr = w)
 case atStart => exact ⟨rfl, rfl⟩
 case round =>
  obtain ⟨rfl, rfl⟩ := hrel
  go_wp2
  go_ret
  exact ⟨rfl, Below.refl _ _⟩
theorem has_acts.calls (v : Value) (w : World) : Calls Tryz.prog 28 #[.slice none 0 0, v] w fun e w' => e = .returned (.bool false) ∧ Below w.heap.size w w' := by
 go_enter Tryz.func28, Tryz.ntmps28
 go_wp2_with (go_at_call 49; refine (index_acts.calls _ _).mono ?_; rintro e w' ⟨rfl, hb'⟩)
 go_ret
 exact ⟨rfl, hb'⟩
theorem world_Run.calls (w : World) : Calls Tryz.prog 12 #[.int .i64 2, .slice none 0 0] w fun e w' => (∃ p f l b k m, e = .returned (.tuple #[.pointer (some ⟨p, 0, none⟩), .slice none 0 0, .nilIface]) ∧ w.heap.size ≤ p ∧ w.heap.size ≤ k ∧ IsCore w' p 18262 f l b k m) ∧ Below w.heap.size w w' := by
 go_enter Tryz.func12, Tryz.ntmps12
 go_wp2_with (first
  | (go_at_call 28; refine (has_acts.calls _ _).mono ?_; rintro e w1 ⟨rfl, hb1⟩)
  | (go_at_call 29; refine (disk_New.calls _).mono ?_; rintro e w2 ⟨⟨d, n, rfl, hd⟩, hb2⟩)
  | (go_at_call 30; refine (servicer_Open.calls d n _ hd).mono ?_; rintro e w3 ⟨⟨s, p, f, l, b, k, m, rfl, hs, hc⟩, hb3⟩))
 go_loopg [10, 11, 41] 0 (fun gg v10 v11 v41 wr => v10 = .pointer (some ⟨s, 0, none⟩) ∧ v11 = .slice none 0 0 ∧ v41 = .int .i64 0 ∧ wr = w3)
 case atStart => exact ⟨rfl, rfl, rfl, rfl⟩
 case round =>
  obtain ⟨rfl, rfl, rfl, rfl⟩ := hrel
  go_wp2_with (go_at_call 34; refine (servicer_Core.calls s p f l b k m 18262 _ hs hc).mono ?_; rintro e w4 ⟨⟨p', f', l', b', k', m', rfl, gp, gk, hcore⟩, hb4⟩)
  go_ret3
  have HB := be_trans (be_trans hb1 hb2) hb3
  have hz := HB.size
  exact ⟨⟨p', f', l', b', k', m', rfl, Nat.le_trans hz gp, Nat.le_trans hz gk, hcore⟩, be_trans HB hb4⟩
theorem ans_zero (w : World) : (zeroValue 42).run Tryz.prog w = .ok (.agg #[.int .i64 0, .slice none 0 0]) w := by
 first | rfl | (simp [zeroValue, go_sem]) 
theorem clone_ints_nil.calls (w : World) : Calls Tryz.prog 69 #[.slice none 0 0] w fun e w' => (∃ (A' : Option Addr) (n' c' : Nat), e = .returned (.slice A' n' c') ∧ (A' = none ∧ n' = 0 ∧ c' = 0)) ∧ Below w.heap.size w w' := by
 have hq := fun w => run_eql_nil_slice (P := Tryz.prog) w 22 _ none 0 0 0 0 Tryz.underlying22
 go_enter Tryz.func69, Tryz.ntmps69
 go_wp2
 go_ret
 exact ⟨⟨none, 0, 0, rfl, rfl, rfl, rfl⟩, Below.refl _ w⟩
/-- an answer told in new memory, as its numbers are copied -/
theorem told.calls (A : Option Addr) (n c : Nat) (R : Option Addr → Nat → Nat → Prop) (w : World) (hcl : ∀ w1, Below w.heap.size w w1 → Calls Tryz.prog 69 #[.slice A n c] w1 fun e w' => (∃ (A' : Option Addr) (n' c' : Nat), e = .returned (.slice A' n' c') ∧ R A' n' c') ∧ Below w1.heap.size w1 w') :
  Calls Tryz.prog 41 #[.agg #[.int .i64 0, .slice A n c]] w fun e w' => (∃ (A' : Option Addr) (n' c' : Nat), e = .returned (.agg #[.int .i64 0, .slice A' n' c']) ∧ R A' n' c') ∧ Below w.heap.size w w' := by
 have hz := ans_zero
 have HC := ka hcl
 clear hcl
 go_enter Tryz.func41, Tryz.ntmps41
 go_wp2
 obtain ⟨w0, e0⟩ : ∃ x, x = (w.alloc (.cells #[.int .i64 0, .slice A n c] 42)).alloc (.cells #[.int .i64 0, .slice none 0 0] 42) := ⟨_, rfl⟩
 have HB : Below w.heap.size w w0 := by rw [e0]; exact be_trans (be_al _ _) (be_al _ _)
 have h1 : w0.heap[w.heap.size]? = some (.cells #[.int .i64 0, .slice A n c] 42 (0, 0)) := by rw [e0]; exact al_keep _ (al_new _ _)
 have h2 : w0.heap[w.heap.size + 1]? = some (.cells #[.int .i64 0, .slice none 0 0] 42 (0, 0)) := by rw [e0, ← al_size w (.cells #[.int .i64 0, .slice A n c] 42)]; exact al_new _ _
 rw [← e0]
 clear e0
 obtain ⟨g, hg⟩ : ∃ x, x = w.heap.size := ⟨_, rfl⟩
 obtain ⟨g1, hg1⟩ : ∃ x, x = w.heap.size + 1 := ⟨_, rfl⟩
 rw [← hg1] at h2 ⊢
 rw [← hg] at h1
 simp only [← hg]
 have hne : g1 ≠ g := by omega
 have HG := ka (And.intro hg hg1)
 clear hg hg1
 obtain ⟨⟨a0, a1⟩, _, _⟩ := blkAll2 h1
 go_region_with (go_at_call 69; refine (HC.out _ (kd_below HB)).mono ?_; rintro e w2 ⟨⟨A', n', c', rfl, hv⟩, hb2⟩; have k1 := be_keep hb2 (kd_heap h1); have k2 := be_keep hb2 (kd_heap h2); have hB2 := be_trans (kd_below HB) hb2; obtain ⟨⟨d0, d1⟩, _, _⟩ := blkAll2 k1; obtain ⟨⟨e0, e1⟩, ef0, ef1⟩ := blkAll2 k2)
 all_goals (
  go_wp2
  refine bodyPost_ret (results_cell_row rfl _ _ g1 42 #[.int .i64 0, .slice A' n' c'] (0, 0) _ rfl (blkPut2_1 (blkPut2_0 k2)) Tryz.underlying42 rfl (by kernel_rfl)) rfl ?_
  exact ⟨⟨A', n', c', rfl, hv⟩, below_set (below_set hB2 (by have := HG.out.2; omega)) (by have := HG.out.2; omega)⟩)
theorem told_nil.calls (w : World) : Calls Tryz.prog 41 #[.agg #[.int .i64 0, .slice none 0 0]] w fun e w' => e = .returned (.agg #[.int .i64 0, .slice none 0 0]) ∧ Below w.heap.size w w' :=
 (told.calls none 0 0 (fun A' n' c' => A' = none ∧ n' = 0 ∧ c' = 0) w (fun w1 _ => clone_ints_nil.calls w1)).mono (by rintro e w' ⟨⟨A', n', c', rfl, rfl, rfl, rfl⟩, hb⟩; exact ⟨rfl, hb⟩)
theorem core_Known.calls (p f l b k m : Nat) (d x : Int) (w : World) (h : IsCore w p d f l b k m) : Calls Tryz.prog 37 #[.pointer (some ⟨p, 0, none⟩), .int .i64 x] w fun e w' => e = .returned (.tuple #[.agg #[.int .i64 0, .slice none 0 0], .bool false]) ∧ Below w.heap.size w w' := by
 have hz := ans_zero
 have ne : w.heap.size ≠ p := by have := at_lt h.1; omega
 obtain ⟨⟨b0, b1, b2, b3, b4⟩, f0, f1, f2, f3, f4⟩ := blkAll5 (al_keep (.cells #[.int .i64 0, .slice none 0 0] 42) h.1)
 obtain ⟨c, hk⟩ := h.2.2.2.1
 have hl := Emp.look (w := w.alloc (.cells #[.int .i64 0, .slice none 0 0] 42)) (x := x) (ok := true) Tryz.underlying92 Tryz.underlying2 (al_keep _ hk) (ans_zero _)
 clear h ne hk
 go_enter Tryz.func37, Tryz.ntmps37
 obtain ⟨g, hg⟩ : ∃ x, x = w.heap.size := ⟨_, rfl⟩
 go_wp2_with (go_at_call 41; refine (told_nil.calls _).mono ?_; rintro e w2 ⟨rfl, hb2⟩; have k2 := be_keep hb2 (i := g) (o := .cells #[.int .i64 0, .slice none 0 0] 42 (0, 0)) (by rw [hg]; exact al_keep _ (al_new _ _)); have hs := hg; rw [hg] at k2; obtain ⟨⟨e0, e1⟩, ef0, ef1⟩ := blkAll2 k2)
 refine bodyPost_ret (v := .tuple #[.agg #[.int .i64 0, .slice none 0 0], .bool false]) ?_ rfl ⟨rfl, below_set (below_set (be_trans (be_trans (be_al _ _) (be_al _ _)) hb2) (Nat.le_refl _)) (Nat.le_refl _)⟩
 have k3 := blkPut2_1 (u := .slice none 0 0) (blkPut2_0 (u := .int .i64 0) k2)
 obtain ⟨⟨e0, e1⟩, ef0, ef1⟩ := blkAll2 k3
 simp [results, Tryz.results37, go_sem, *]
theorem st_keep {w : World} {i g j : Nat} {o : Obj} {v : Value} (h : w.heap[i]? = some o) (hne : g ≠ i) : (w.setCell ⟨g, j, none⟩ v).heap[i]? = some o := by
 show (w.heap.modify g _)[i]? = some o
 rw [Array.getElem?_modify, if_neg hne]
 exact h
theorem fine.calls (A : Option Addr) (n c : Nat) (w : World) : Calls Tryz.prog 102 #[.slice A n c] w fun e w' => e = .returned (.agg #[.int .i64 0, .slice A n c]) ∧ Below w.heap.size w w' := by
 have hz := ans_zero
 go_enter Tryz.func102, Tryz.ntmps102
 go_wp2
 refine bodyPost_ret (v := .agg #[.int .i64 0, .slice A n c]) ?_ rfl ⟨rfl, ?_⟩
 ·simp [results, Tryz.results102, go_sem, *]
 ·exact be_al _ _
theorem clone_ints_one.calls (b : Nat) (y : Int) (c : Nat) (w : World) (h : w.cell? ⟨b, 0, none⟩ = some (.int .i64 y)) : Calls Tryz.prog 69 #[.slice (some ⟨b, 0, none⟩) 1 c] w fun e w' => (∃ (A' : Option Addr) (n' c' : Nat), e = .returned (.slice A' n' c') ∧ True) ∧ Below w.heap.size w w' := by
 have q22 : ∀ (w : World) (a : Option Addr) (n c n' c' : Nat), (binOp .eql 22 (.slice a n c) (.slice none n' c')).run Tryz.prog w = .ok (.bool a.isNone) w := fun w a n c n' c' => Lib.run_eql_slice_nil w 22 2 a n c n' c' Tryz.underlying22
 obtain ⟨i0, hi, hz0, hz1, hz2⟩ := info_parts (show (Tryz.prog.info? 2).map (fun i => (i.zero, i.size, i.bytes)) = some (some (.int .i64 0), 1, 8) by kernel_rfl)
 have A := ka h
 clear h
 go_enter Tryz.func69, Tryz.ntmps69
 go_wp2_with (at_builtin; refine wpList_append_own _ rfl _ _ 22 rfl w.heap.size 2 i0 (.int .i64 0) 1 8 Tryz.underlying22 hi hz0 hz1 hz2 rfl (by decide) _ _ _ rfl (World.ownsRow_made w #[] 0 (Nat.le_refl _) (Nat.zero_le _) (by simp)) ⟨b, 0, none⟩ 1 c [.int .i64 y] rfl ?qc1 ?qc2 ?qc3 ?qc4 ?qc5 ?qc6 ?_)
 case qc1 => rfl
 case qc2 =>
  intro j u hj
  rw [Addr.add_lit]
  match j, hj with
  | 0, hj =>
   obtain rfl : Value.int .i64 y = u := by simpa using hj
   exact ka_cell _ (by simpa using A.out)
  | j + 1, hj => simp at hj
 case qc3 => intro u hu; obtain rfl := List.mem_singleton.mp hu; rfl
 case qc4 => decide
 case qc5 => decide
 case qc6 => simp
 intro v' w1 hown hgrow hnil
 go_wp2
 go_ret
 have hB := ((Below.refl _ w).alloc (Nat.le_refl _) (.cells #[] 2)).grown hgrow (by simp) (by intro k hk; simp [Value.ownBlock] at hk; omega)
 rcases hown.2 with ⟨hv, _⟩ | ⟨g, cap, cur, hv, _⟩
 ·exact absurd hv hnil
 ·exact ⟨⟨_, _, _, congrArg Ending.returned hv, trivial⟩, hB⟩
theorem shaped_tick.calls (x : Int) (A : Option Addr) (c : Nat) (w : World) : Calls Tryz.prog 39 #[.agg #[.int .i64 9, .int .i64 x, .int .i64 0, .slice A 1 c]] w fun e w' => e = .returned (.bool true) ∧ Below w.heap.size w w' := by
 go_enter Tryz.func39, Tryz.ntmps39
 go_wp2
 go_ret
 exact ⟨rfl, be_al _ _⟩
/-- nothing below any B up to p has turned -/
def Mut (p : Nat) (w w' : World) : Prop := w.heap.size ≤ w'.heap.size ∧ ∀ B, B ≤ p → B ≤ w.heap.size → Below B w w'
theorem Mut.of {p : Nat} {w w' : World} (h : Below w.heap.size w w') : Mut p w w' := ⟨h.size, fun B _ hB => h.mono hB⟩
theorem Mut.trans {p : Nat} {a b c : World} (h : Mut p a b) (k : Mut p b c) : Mut p a c := ⟨Nat.le_trans h.1 k.1, fun B h1 h2 => (h.2 B h1 h2).trans (k.2 B h1 (Nat.le_trans h2 h.1))⟩
theorem st_size (w : World) (a : Addr) (v : Value) : (w.setCell a v).heap.size = w.heap.size := by
 show (w.heap.modify _ _).size = _
 simp
theorem Mut.set {p q j : Nat} {w : World} {v : Value} (h : p ≤ q) : Mut p w (w.setCell ⟨q, j, none⟩ v) := by
 refine ⟨by rw [st_size]; exact Nat.le_refl _, fun B h1 h2 => (Below.refl B w).setCell (by exact Nat.le_trans h1 h) _⟩
theorem IsCore.turn {w w' : World} {p f l b k m : Nat} {d d' : Int} (h : IsCore w p d f l b k m) (hp : w'.heap[p]? = some (.cells #[.int .i64 d', .map (some f), .map (some l), .pointer (some ⟨b, 0, none⟩), .map (some k)] 94 (0, 0)))
  (ho : ∀ i o, p ≠ i → w.heap[i]? = some o → w'.heap[i]? = some o) : IsCore w' p d' f l b k m := by
 obtain ⟨h1, ⟨c1, h2⟩, ⟨c2, h3⟩, ⟨c3, h4⟩, ⟨c4, h5⟩, h6⟩ := h
 refine ⟨hp, ⟨c1, ho _ _ ?_ h2⟩, ⟨c2, ho _ _ ?_ h3⟩, ⟨c3, ho _ _ ?_ h4⟩, ⟨c4, ho _ _ ?_ h5⟩, ho _ _ ?_ h6⟩
 ·intro e; subst e; rw [h1] at h2; cases h2
 ·intro e; subst e; rw [h1] at h3; cases h3
 ·intro e; subst e; rw [h1] at h4; cases h4
 ·intro e; subst e; rw [h1] at h5; cases h5
 ·intro e; subst e; rw [h1] at h6; cases h6
/-- what lay there stands, but for block p -/
def Oth (p : Nat) (w w' : World) : Prop := ∀ i o, p ≠ i → w.heap[i]? = some o → w'.heap[i]? = some o
theorem core_tick.calls (p f l b k m : Nat) (w : World) (h : IsCore w p 18262 f l b k m) : Calls Tryz.prog 65 #[.pointer (some ⟨p, 0, none⟩), .int .i64 1] w fun e w' => (∃ g c, e = .returned (.agg #[.int .i64 0, .slice (some ⟨g, 0, none⟩) 1 c]) ∧ w.heap.size ≤ g ∧ w'.cell? ⟨g, 0, none⟩ = some (.int .i64 18263)) ∧ IsCore w' p 18263 f l b k m ∧ Mut p w w' ∧ Oth p w w' := by
 have hz := ans_zero
 have ne : w.heap.size ≠ p := by have := at_lt h.1; omega
 have hd : ∀ w1, Calls Tryz.prog 103 #[.int .i64 18263] w1 fun e w' => e = .returned (.tuple #[.agg #[.int .i64 (M.yr 18263), .int .i64 (M.mo 18263), .int .i64 (M.dy 18263)], .nilIface]) ∧ Below w1.heap.size w1 w' := fun w1 => date_Of_s.calls 18263 _ _ _ _ w1 (date_Of_s.yes (n := 18263) (by decide))
 generalize M.yr 18263 = y1 at hd
 generalize M.mo 18263 = y2 at hd
 generalize M.dy 18263 = y3 at hd
 have hu27 := Tryz.underlying27
 obtain ⟨⟨b0, b1, b2, b3, b4⟩, f0, f1, f2, f3, f4⟩ := blkAll5 (al_keep (.cells #[.int .i64 0, .slice none 0 0] 42) h.1)
 have H := ka h
 have hsz := at_lt h.1
 clear h
 go_enter Tryz.func65, Tryz.ntmps65
 go_wp2_with (first
  | (go_at_call 103; refine (hd _).mono ?_; rintro e w1 ⟨rfl, hb1⟩; have kp := be_keep hb1 (al_keep _ H.out.1); have kq := al_keep (.cells #[.int .i64 y1, .int .i64 y2, .int .i64 y3] 89) kp; obtain ⟨⟨d0, d1, d2, d3, d4⟩, e0, e1, e2, e3, e4⟩ := blkAll5 kq)
  | (go_at_call 102; refine (fine.calls _ _ _ _).mono ?_; rintro e w2 ⟨rfl, hb2⟩; have kr := be_keep hb2 (i := w.heap.size) (o := .cells #[.int .i64 0, .slice none 0 0] 42 (0, 0)) (al_keep _ (st_keep (al_keep _ (be_keep hb1 (al_new _ _))) (by omega))); obtain ⟨⟨g0, g1⟩, gf0, gf1⟩ := blkAll2 kr))
 have hs1 := hb1.size
 have hs2 := hb2.size
 simp only [al_size, st_size] at hs1 hs2
 refine bodyPost_ret (results_cell_row rfl _ _ w.heap.size 42 #[.int .i64 0, .slice (some ⟨w1.heap.size + 1, 0, none⟩) 1 1] (0, 0) _ rfl (blkPut2_1 (blkPut2_0 kr)) Tryz.underlying42 rfl (by kernel_rfl)) rfl ?_
 refine ⟨⟨_, _, rfl, by omega, ?_⟩, H.out.turn ?_ ?_, ?_, ?_⟩
 ·have ks : w2.heap[w1.heap.size + 1]? = some (.cells #[.int .i64 18263] 2 (0, 0)) := be_keep hb2 (by rw [show w1.heap.size + 1 = ((w1.alloc (.cells #[.int .i64 y1, .int .i64 y2, .int .i64 y3] 89)).setCell ⟨p, 0, none⟩ (.int .i64 18263)).heap.size by rw [st_size, al_size]]; exact al_new _ _)
  exact (blk_cell (st_keep (st_keep ks (by omega)) (by omega)) 0).trans rfl
 ·exact st_keep (st_keep (be_keep hb2 (al_keep _ (blkPut5_0 kq))) ne) ne
 ·intro i o hi ho
  have := at_lt ho
  exact st_keep (st_keep (be_keep hb2 (al_keep _ (st_keep (al_keep _ (be_keep hb1 (al_keep _ ho))) hi))) (by omega)) (by omega)
 ·refine Mut.trans (Mut.of (be_trans (be_trans (be_al w (.cells #[.int .i64 0, .slice none 0 0] 42)) hb1) (be_al _ (.cells #[.int .i64 y1, .int .i64 y2, .int .i64 y3] 89)))) ?_
  refine Mut.trans (Mut.set (q := p) (j := 0) (v := .int .i64 18263) (Nat.le_refl _)) ?_
  refine Mut.trans (Mut.of (be_trans (be_al _ (.cells #[.int .i64 18263] 2)) hb2)) ?_
  exact Mut.trans (Mut.set (q := w.heap.size) (j := 0) (v := .int .i64 0) (by omega)) (Mut.set (by omega))
 ·intro i o hi ho
  have := at_lt ho
  exact st_keep (st_keep (be_keep hb2 (al_keep _ (st_keep (al_keep _ (be_keep hb1 (al_keep _ ho))) hi))) (by omega)) (by omega)
theorem core_dispatch.calls (p f l b k m gn c : Nat) (x : Int) (w : World) (h : IsCore w p 18262 f l b k m) (hn : w.cell? ⟨gn, 0, none⟩ = some (.int .i64 1)) :
  Calls Tryz.prog 40 #[.pointer (some ⟨p, 0, none⟩), .agg #[.int .i64 9, .int .i64 x, .int .i64 0, .slice (some ⟨gn, 0, none⟩) 1 c]] w fun e w' => (∃ g c, e = .returned (.agg #[.int .i64 0, .slice (some ⟨g, 0, none⟩) 1 c]) ∧ w.heap.size ≤ g ∧ w'.cell? ⟨g, 0, none⟩ = some (.int .i64 18263)) ∧ IsCore w' p 18263 f l b k m ∧ Mut p w w' ∧ Oth p w w' := by
 have hz := ans_zero
 have hsz := at_lt h.1
 have x0 := ka_cell (.cells #[.int .i64 0, .slice none 0 0] 42) (ka_cell (.cells #[.int .i64 9, .int .i64 x, .int .i64 0, .slice (some ⟨gn, 0, none⟩) 1 c] 47) hn)
 have H := ka ((h.below (be_al _ (.cells #[.int .i64 9, .int .i64 x, .int .i64 0, .slice (some ⟨gn, 0, none⟩) 1 c] 47))).below (be_al _ (.cells #[.int .i64 0, .slice none 0 0] 42)))
 have H0 := ka h
 clear h hn
 have hr : ((w.alloc (.cells #[.int .i64 9, .int .i64 x, .int .i64 0, .slice (some ⟨gn, 0, none⟩) 1 c] 47)).alloc (.cells #[.int .i64 0, .slice none 0 0] 42)).heap[w.heap.size + 1]? = some (.cells #[.int .i64 0, .slice none 0 0] 42 (0, 0)) := al_newn (by rw [al_size])
 have HR := ka hr
 clear hr
 go_enter Tryz.func40, Tryz.ntmps40
 go_wp2_with (go_at_call 65; refine (core_tick.calls p f l b k m _ H.out).mono ?_; rintro e w2 ⟨⟨g, c', rfl, hge, hg⟩, hc, hm, ho⟩; have kr := ho _ _ (by omega) HR.out; obtain ⟨⟨e0, e1⟩, ef0, ef1⟩ := blkAll2 kr)
 have hs2 := hm.1
 simp only [al_size] at hs2 hge
 refine bodyPost_ret (results_cell_row rfl _ _ (w.heap.size + 1) 42 #[.int .i64 0, .slice (some ⟨g, 0, none⟩) 1 c'] (0, 0) _ rfl (blkPut2_1 (blkPut2_0 kr)) Tryz.underlying42 rfl (by kernel_rfl)) rfl ?_
 obtain ⟨og, hog⟩ := cell_at hg
 have HO : Oth p w ((w2.setCell ⟨w.heap.size + 1, 0, none⟩ (.int .i64 0)).setCell ⟨w.heap.size + 1, 1, none⟩ (.slice (some ⟨g, 0, none⟩) 1 c')) := by
  intro i o hi hw
  have := at_lt hw
  exact st_keep (st_keep (ho _ _ hi (al_keep _ (al_keep _ hw))) (by omega)) (by omega)
 refine ⟨⟨_, _, rfl, by omega, ?_⟩, H0.out.turn (st_keep (st_keep hc.1 (by omega)) (by omega)) HO, ?_, HO⟩
 ·have e1 := st_keep (g := w.heap.size + 1) (j := 1) (v := .slice (some ⟨g, 0, none⟩) 1 c') (st_keep (g := w.heap.size + 1) (j := 0) (v := .int .i64 0) hog (by show w.heap.size + 1 ≠ g; omega)) (by show w.heap.size + 1 ≠ g; omega)
  unfold World.cell? at hg ⊢
  rw [hog] at hg
  rw [e1]
  exact hg
 ·exact Mut.trans (Mut.of (be_trans (be_al _ _) (be_al _ _))) (Mut.trans hm (Mut.trans (Mut.set (q := w.heap.size + 1) (j := 0) (v := .int .i64 0) (by omega)) (Mut.set (by omega))))
theorem mp_keep {w : World} {i k : Nat} {o x : Obj} (h : w.heap[i]? = some o) (hne : k ≠ i) : ({ w with heap := w.heap.setIfInBounds k x } : World).heap[i]? = some o := by
 show (w.heap.setIfInBounds k x)[i]? = some o
 rw [Array.getElem?_setIfInBounds_ne hne]
 exact h
theorem mp_below {B k : Nat} {w : World} {x : Obj} (h : B ≤ k) : Below B w { w with heap := w.heap.setIfInBounds k x } :=
 ⟨rfl, rfl, rfl, by simp, fun j hj => by
  show (w.heap.setIfInBounds k x)[j]? = _
  rw [Array.getElem?_setIfInBounds_ne (by omega)]⟩
theorem core_Do.calls (p f l b k m gn c : Nat) (w : World) (h : IsCore w p 18262 f l b k m) (hn : w.cell? ⟨gn, 0, none⟩ = some (.int .i64 1)) :
  Calls Tryz.prog 14 #[.pointer (some ⟨p, 0, none⟩), .agg #[.int .i64 9, .int .i64 9, .int .i64 0, .slice (some ⟨gn, 0, none⟩) 1 c]] w fun e w' => (∃ (A' : Option Addr) (n' c' : Nat), e = .returned (.agg #[.int .i64 0, .slice A' n' c'])) ∧
   (∃ v1 v2 v3 v4, w'.heap[p]? = some (.cells #[.int .i64 18263, v1, v2, v3, v4] 94 (0, 0))) ∧ (∀ i o, p ≠ i → k ≠ i → w.heap[i]? = some o → w'.heap[i]? = some o) ∧ (∀ B, B ≤ p → B ≤ k → B ≤ w.heap.size → Below B w w') := by
 have hz := ans_zero
 have hsz := at_lt h.1
 obtain ⟨w0, e0⟩ : ∃ x, x = (w.alloc (.cells #[.int .i64 9, .int .i64 9, .int .i64 0, .slice (some ⟨gn, 0, none⟩) 1 c] 47)).alloc (.cells #[.int .i64 0, .slice none 0 0] 42) := ⟨_, rfl⟩
 have x0 : w0.cell? ⟨gn, 0, none⟩ = some (.int .i64 1) := by rw [e0]; exact ka_cell _ (ka_cell _ hn)
 have hc0 : IsCore w0 p 18262 f l b k m := by rw [e0]; exact (h.below (be_al _ _)).below (be_al _ _)
 have hx0 : w0.heap[w.heap.size]? = some (.cells #[.int .i64 9, .int .i64 9, .int .i64 0, .slice (some ⟨gn, 0, none⟩) 1 c] 47 (0, 0)) := by rw [e0]; exact al_keep _ (al_new _ _)
 have hr0 : w0.heap[w.heap.size + 1]? = some (.cells #[.int .i64 0, .slice none 0 0] 42 (0, 0)) := by rw [e0]; exact al_newn (by rw [al_size])
 have hB0 : Below w.heap.size w w0 := by rw [e0]; exact be_trans (be_al _ _) (be_al _ _)
 have X := ka (And.intro h (And.intro x0 (And.intro hc0 (And.intro hx0 (And.intro hr0 hB0)))))
 have E0 := ka e0
 clear h hn x0 hc0 hr0 hB0 hx0 e0
 go_enter Tryz.func14, Tryz.ntmps14
 go_wp2_with (first
  | (go_at_call 37; rw [← E0.out]; refine (core_Known.calls p f l b k m 18262 9 _ X.out.2.2.1).mono ?_; rintro e w1 ⟨rfl, hb1⟩; have kc1 := (X.out.2.2.1.below hb1).below (be_al _ (.cells #[.int .i64 0, .slice none 0 0] 42)); have kx1 := al_keep (.cells #[.int .i64 0, .slice none 0 0] 42) (be_keep hb1 X.out.2.2.2.1); obtain ⟨⟨b0, b1, b2, b3, b4⟩, f0, f1, f2, f3, f4⟩ := blkAll5 kc1.1; obtain ⟨⟨y0, y1, y2, y3⟩, yf⟩ := blkAll4 kx1; obtain ⟨c3, hk3⟩ := kc1.2.2.2.1; have hl := fun ty => Emp.len (ty := ty) Tryz.underlying92 hk3; have K1 := ka (And.intro kc1 kx1); clear kc1 kx1 hk3)
  | (go_at_call 39; refine (shaped_tick.calls 9 _ c _).mono ?_; rintro e w2 ⟨rfl, hb2⟩; have kx2 := be_keep hb2 K1.out.2; obtain ⟨⟨z0, z1, z2, z3⟩, zf⟩ := blkAll4 kx2)
  | (go_at_call 40; refine (core_dispatch.calls p f l b k m gn c 9 _ (K1.out.1.below hb2) (kb_cell hb2 (ka_cell _ (kb_cell hb1 X.out.2.1)))).mono ?_; rintro e w3 ⟨⟨g, c', rfl, hge, hg⟩, hc, hm, ho⟩))
 have hs1 := hb1.size
 have hs2 := hb2.size
 have hs3 := hm.1
 have hs0 := X.out.2.2.2.2.2.size
 have hsx := at_lt X.out.2.2.2.1
 have hsr := at_lt X.out.2.2.2.2.1
 simp only [al_size] at hs2
 obtain ⟨w4, e4⟩ : ∃ x, x = w3.alloc (.cells #[.int .i64 0, .slice (some ⟨g, 0, none⟩) 1 c'] 42) := ⟨_, rfl⟩
 have hc4 : IsCore w4 p 18263 f l b k m := by rw [e4]; exact hc.below (be_al _ _)
 have hx4 : w4.heap[w.heap.size]? = some (.cells #[.int .i64 9, .int .i64 9, .int .i64 0, .slice (some ⟨gn, 0, none⟩) 1 c] 47 (0, 0)) := by rw [e4]; exact al_keep _ (ho _ _ (by omega) (be_keep hb2 K1.out.2))
 have hr4 : w4.heap[w.heap.size + 1]? = some (.cells #[.int .i64 0, .slice none 0 0] 42 (0, 0)) := by rw [e4]; exact al_keep _ (ho _ _ (by omega) (be_keep hb2 (al_keep _ (be_keep hb1 X.out.2.2.2.2.1))))
 have ha4 : w4.heap[w3.heap.size]? = some (.cells #[.int .i64 0, .slice (some ⟨g, 0, none⟩) 1 c'] 42 (0, 0)) := by rw [e4]; exact al_new _ _
 have hg4 : w4.cell? ⟨g, 0, none⟩ = some (.int .i64 18263) := by rw [e4]; exact ka_cell _ hg
 have hm4 : ∀ B, B ≤ p → B ≤ w.heap.size → Below B w w4 := by
  intro B h1 h2
  refine (X.out.2.2.2.2.2.mono h2).trans ((Below.mono ?_ (Nat.le_trans h2 hs0)).trans ((hm.2 B h1 (by omega)).trans ?_))
  ·exact be_trans (be_trans hb1 (be_al _ _)) hb2
  ·rw [e4]; exact Below.mono (be_al _ _) (by omega)
 have ho4 : ∀ i o, p ≠ i → w.heap[i]? = some o → w4.heap[i]? = some o := by
  intro i o h1 h2
  rw [e4]
  exact al_keep _ (ho _ _ h1 (be_keep hb2 (al_keep _ (be_keep hb1 (be_keep X.out.2.2.2.2.2 h2)))))
 rw [← e4]
 clear e4 b0 b1 b2 b3 b4 f0 f1 f2 f3 f4 y0 y1 y2 y3 yf z0 z1 z2 z3 zf hl hb1 hb2 hm ho hg kx2 hc hs2 hs3 hs1
 generalize w3.heap.size = ga at ha4 ⊢
 obtain ⟨ck, hk4⟩ := hc4.2.2.2.1
 have nek : k ≠ p ∧ k ≠ w.heap.size ∧ k ≠ w.heap.size + 1 ∧ k ≠ ga := by
  have h1 := hc4.1
  refine ⟨?_, ?_, ?_, ?_⟩ <;> intro e <;> rw [e] at hk4
  ·rw [h1] at hk4; cases hk4
  ·rw [hx4] at hk4; cases hk4
  ·rw [hr4] at hk4; cases hk4
  ·rw [ha4] at hk4; cases hk4
 obtain ⟨n1, n2, n3, n4⟩ := nek
 obtain ⟨⟨b0, b1, b2, b3, b4⟩, f0, f1, f2, f3, f4⟩ := blkAll5 hc4.1
 obtain ⟨⟨y0, y1, y2, y3⟩, yf⟩ := blkAll4 hx4
 obtain ⟨⟨a0, a1⟩, af⟩ := blkAll2 ha4
 have M := ka (And.intro hm4 (And.intro ho4 (And.intro hc4 (And.intro hx4 (And.intro hr4 (And.intro ha4 hk4))))))
 clear hm4 ho4 hc4 hx4 hr4 ha4 hk4 hge hs0 hsx hsr
 go_region_with (go_at_call 41; refine (told.calls (some ⟨g, 0, none⟩) 1 c' (fun _ _ _ => True) _ (fun w1' hb' => clone_ints_one.calls g 18263 c' w1' (kb_cell hb' (kd_cell hg4)))).mono ?_; rintro e w5 ⟨⟨A', n', d', rfl, _⟩, hb5⟩; have k5 := be_keep hb5 (kd_heap M.out.2.2.2.2.2.2); have hu := Emp.update (w := w5) (x := 9) (v := .agg #[.int .i64 0, .slice A' n' d']) Tryz.underlying92 Tryz.underlying2 k5; have c5 := be_keep hb5 (kd_heap M.out.2.2.1.1); obtain ⟨⟨q0, q1, q2, q3, q4⟩, _, _, _, _, _⟩ := blkAll5 c5; have x5 := be_keep hb5 (kd_heap M.out.2.2.2.1); obtain ⟨⟨t0, t1, t2, t3⟩, _⟩ := blkAll4 x5)
 all_goals (
  have a6 := mp_keep (x := .map #[⟨.int .i64 9, .agg #[.int .i64 0, .slice A' n' d'], ck⟩] (ck + 1)) (be_keep hb5 (kd_heap M.out.2.2.2.2.2.1)) n4
  have r6 := mp_keep (x := .map #[⟨.int .i64 9, .agg #[.int .i64 0, .slice A' n' d'], ck⟩] (ck + 1)) (be_keep hb5 (kd_heap M.out.2.2.2.2.1)) n3
  have p6 := mp_keep (x := .map #[⟨.int .i64 9, .agg #[.int .i64 0, .slice A' n' d'], ck⟩] (ck + 1)) c5 n1
  have o6 : ∀ i o, p ≠ i → k ≠ i → w.heap[i]? = some o → ({ w5 with heap := w5.heap.setIfInBounds k (.map #[⟨.int .i64 9, .agg #[.int .i64 0, .slice A' n' d'], ck⟩] (ck + 1)) } : World).heap[i]? = some o := fun i o h1 h2 h3 => mp_keep (be_keep hb5 (kd_heap (M.out.2.1 i o h1 h3))) h2
  have hz4 : w.heap.size ≤ w4.heap.size := by have := at_lt M.out.2.2.2.2.1; omega
  have m6 : ∀ B, B ≤ p → B ≤ k → B ≤ w.heap.size → Below B w ({ w5 with heap := w5.heap.setIfInBounds k (.map #[⟨.int .i64 9, .agg #[.int .i64 0, .slice A' n' d'], ck⟩] (ck + 1)) } : World) := fun B h1 h2 h3 => ((M.out.1 B h1 h3).trans ((kd_below (Below.refl B w4)).trans (hb5.mono (Nat.le_trans h3 hz4)))).trans (mp_below h2)
  have R := ka (And.intro p6 (And.intro o6 m6))
  clear p6 o6 m6 hu c5 k5 x5 q0 q1 q2 q3 q4 t0 t1 t2 t3 b0 b1 b2 b3 b4 y0 y1 y2 y3 yf a0 a1 af
  obtain ⟨w6, e6⟩ : ∃ x, x = ({ w5 with heap := w5.heap.setIfInBounds k (.map #[⟨.int .i64 9, .agg #[.int .i64 0, .slice A' n' d'], ck⟩] (ck + 1)) } : World) := ⟨_, rfl⟩
  rw [← e6] at a6 r6 R ⊢
  clear e6
  obtain ⟨⟨a0, a1⟩, af⟩ := blkAll2 a6
  obtain ⟨⟨g0, g1⟩, gf0, gf1⟩ := blkAll2 r6
  go_wp2
  refine bodyPost_ret (results_cell_row rfl _ _ (w.heap.size + 1) 42 #[.int .i64 0, .slice (some ⟨g, 0, none⟩) 1 c'] (0, 0) _ rfl (blkPut2_1 (blkPut2_0 r6)) Tryz.underlying42 rfl (by kernel_rfl)) rfl ?_
  obtain ⟨s1, s2, s3⟩ := R.out
  have hlt := at_lt r6
  refine ⟨⟨_, _, _, rfl⟩, ⟨_, _, _, _, st_keep (st_keep s1 ?_) ?_⟩, ?_, ?_⟩
  ·intro e; rw [← e] at s1; rw [s1] at r6; cases r6
  ·intro e; rw [← e] at s1; rw [s1] at r6; cases r6
  ·intro i o h1 h2 h3
   have := at_lt h3
   exact st_keep (st_keep (s2 i o h1 h2 h3) (by omega)) (by omega)
  ·intro B h1 h2 h3
   exact ((s3 B h1 h2 h3).setCell (by show B ≤ w.heap.size + 1; omega) _).setCell (by show B ≤ w.heap.size + 1; omega) _)
theorem IsBook.other {w1 w2 w3 : World} {p f l b k m b' m' : Nat} {d : Int} {o : Obj} (hbk : IsBook w2 b' m') (hc : IsCore w1 p d f l b k m) (gb : w1.heap.size ≤ b') (gm : w1.heap.size ≤ m') (ho : ∀ i x, p ≠ i → k ≠ i → (w2.alloc o).heap[i]? = some x → w3.heap[i]? = some x) : IsBook w3 b' m' := by
 have q1 := at_lt hc.1
 obtain ⟨ck, hk⟩ := hc.2.2.2.1
 have q2 := at_lt hk
 obtain ⟨⟨c1, h1⟩, h2⟩ := hbk.below (be_al _ o)
 exact ⟨⟨c1, ho _ _ (by omega) (by omega) h1⟩, ho _ _ (by omega) (by omega) h2⟩
theorem core_Day2.calls (p : Nat) (d : Int) (v1 v2 v3 v4 : Value) (w : World) (h : w.heap[p]? = some (.cells #[.int .i64 d, v1, v2, v3, v4] 94 (0, 0))) : Calls Tryz.prog 18 #[.pointer (some ⟨p, 0, none⟩)] w fun e w' => e = .returned (.int .i64 d) ∧ Below w.heap.size w w' := by
 obtain ⟨⟨b0, b1, b2, b3, b4⟩, f0, f1, f2, f3, f4⟩ := blkAll5 h
 go_enter Tryz.func18, Tryz.ntmps18
 go_wp2
 go_ret
 exact ⟨rfl, Below.refl _ w⟩
theorem top_up.calls (w : World) : Calls Tryz.prog 6 #[] w fun e w' => e = .returned (.bool true) ∧ Below w.heap.size w w' := by
 have hu27 := Tryz.underlying27
 go_enter Tryz.func6, Tryz.ntmps6
 go_wp2_with (first
  | (go_at_call 12; refine (world_Run.calls _).mono ?_; rintro e w1 ⟨⟨p, f, l, b, k, m, rfl, gp, gk, hc⟩, hb1⟩)
  | (go_at_call 19; refine (core_Book.calls p f l b k m 18262 _ hc).mono ?_; rintro e w2 ⟨⟨b', m', rfl, gb, gm, hbk⟩, hb2⟩)
  | (go_at_call 14; refine (core_Do.calls p f l b k m w2.heap.size 1 _ ((hc.below hb2).below (be_al _ _)) ((blk_cell (al_new _ _) 0).trans rfl)).mono ?_; rintro e w3 ⟨⟨A', n', d', rfl⟩, ⟨v1, v2, v3, v4, hp3⟩, ho3, hm3⟩; have bk3 := hbk.other hc gb gm ho3)
  | (go_at_call 21; refine (book_Len.calls b' m' _ (bk3.below (be_al _ _))).mono ?_; rintro e w4 ⟨rfl, hb4⟩; have a4 := be_keep hb4 (al_new w3 (.cells #[.int .i64 0, .slice A' n' d'] 42)); obtain ⟨⟨a40, a41⟩, af4⟩ := blkAll2 a4)
  | (go_at_call 18; refine (core_Day2.calls p _ v1 v2 v3 v4 _ (be_keep hb4 (al_keep _ hp3))).mono ?_; rintro e w5 ⟨rfl, hb5⟩))
 go_ret
 have q1 := hb1.size
 have q2 := hb2.size
 have B3 := be_trans (be_trans hb1 hb2) (be_al _ (.cells #[.int .i64 1] 2))
 have B4 := B3.trans (hm3 w.heap.size gp gk B3.size)
 have B5 := be_trans (be_trans (be_al w3 (.cells #[.int .i64 0, .slice A' n' d'] 42)) hb4) hb5
 exact ⟨rfl, B4.trans (B5.mono B4.size)⟩
def trivettop_up.f : Option Bool := some true
theorem trivettop_up.calls (r : Bool) (w : World) (h : trivettop_up.f = some r) : Calls Tryz.prog 6 #[] w fun e w' => e = .returned (.bool r) ∧ Below w.heap.size w w' := by
 obtain rfl := Option.some.inj h
 exact top_up.calls w

/-! ### analysis_cents: function 23 -/
def analysis_cents.f (a0 : Int) : Option (Bool) := if a0 ≥ 0 then (some (decide (a0 ≤ 10000000000000))) else (some false)
set_option maxHeartbeats 8000000 in
set_option maxRecDepth 100000 in
theorem analysis_cents.calls (a0 : Int) (r : Bool) (w : World) (h : analysis_cents.f a0 = some r) :
  Calls Tryz.prog 23 #[.int .i64 a0] w fun e w' => e = .returned (.bool r) ∧ Drawn0 w w' := by
 have H : (if a0 ≥ 0 then (some (decide (a0 ≤ 10000000000000))) else (some false)) = some r := h
 clear h
 by_cases c2 : a0 ≥ 0
 ·rw [if_pos c2] at H
  have c2b0 : decide (0 ≤ a0) = true := decide_eq_true c2
  clear c2
  obtain rfl := Option.some.inj H
  go_enter Tryz.func23, Tryz.ntmps23
  go_wp2
  go_ret
  exact ⟨by first | rfl | (simp; done) | (simp [*]; done), by repeat (first | exact Drawn0.refl _ | apply Drawn0.step)⟩
 ·rw [if_neg c2] at H
  have c2b0 : decide (0 ≤ a0) = false := decide_eq_false c2
  clear c2
  obtain rfl := Option.some.inj H
  go_enter Tryz.func23, Tryz.ntmps23
  go_wp2
  go_ret
  exact ⟨by first | rfl | (simp; done) | (simp [*]; done), by repeat (first | exact Drawn0.refl _ | apply Drawn0.step)⟩

-- NOT PRINTED: function 77 (slices_IndexFunc_int64_int64)

-- NOT PRINTED: function 47 (slices_ContainsFunc_int64_int64)

end Go.Proofs.YtbbhdlbpefibeaaGreatDoor.P
