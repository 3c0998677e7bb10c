-- Written by a program of this session out of the translation of the seat: Lean functions and the proofs that the Go functions come to them.
import Derived.Test.YtmkfbaoglmmhjaaPx0
import Derived.Test.YtmkfbaoglmmhjaaPx3
import Derived.Test.YtmkfbaoglmmhjaaPx5
import Derived.Test.YtmkfbaoglmmhjaaPx7
namespace Go.Proofs.Ytmkfbaoglmmhjaa.P
open Go.RowKit Go.Proofs.YtmkfbaoglmmhjaaW.PrintWords Go.Proofs.YtmkfbaoglmmhjaaW.PrintLast Go.Proofs.YtmkfbaoglmmhjaaW.PrintMore
attribute [local go_sem] max2_int min2_int max_two min_two max_three min_three max_four min_four   -- for this text's walks alone
set_option linter.unusedVariables false
set_option linter.unusedSimpArgs false

/-! ### api_Out_28: function 28 -/
/-! The library's stable sort of what is to be paid, by the days: as a step of a walk. -/
section
open Go.Shelf Go.Lib Go.Sort
def Sr3.enc (x : S45) : List Value := [.int .i64 x.f0, .int .i64 x.f1, .int .i64 x.f2]
def Sr3.cmp (x y : S45) : Int := if x.f0 < y.f0 then -1 else if x.f0 > y.f0 then 1 else 0
instance : Inhabited S45 := ⟨z45⟩
def Sr3.srt (l : List S45) : List S45 := (Stab.stable (ltOf Sr3.cmp) l.toArray l.length).toList
section
set_option maxHeartbeats 4000000
set_option maxRecDepth 100000
theorem Sr3.closure (x y : S45) (w : World) :
  Calls Try.prog 29 #[.agg #[.int .i64 x.f0, .int .i64 x.f1, .int .i64 x.f2], .agg #[.int .i64 y.f0, .int .i64 y.f1, .int .i64 y.f2]] w fun e w' => e = .returned (.int .i64 (Sr3.cmp x y)) ∧ ∃ q os', w' = grow (w.drewN q) os' := by
 have mixed : Try.prog.follows .mixedOrders = true := by kernel_rfl
 have hc : cmp_Compare_int.f x.f0 y.f0 = some (Sr3.cmp x y) := by
  unfold cmp_Compare_int.f cmp_isNaN_int.f Sr3.cmp
  simp
  split <;> simp_all
  split <;> simp_all
 have A5 := ka hc
 clear hc
 obtain ⟨a, b, c⟩ := x
 obtain ⟨a', b', c'⟩ := y
 simp only at A5
 generalize Sr3.cmp ⟨a, b, c⟩ ⟨a', b', c'⟩ = z at A5 ⊢
 go_enter Try.func29, Try.ntmps29
 go_wp2_with (go_at_call 30; (with_reducible refine (cmp_Compare_int.calls a a' z _ A5.out).mono ?_); rintro e w' ⟨rfl, ⟨nd, rfl⟩⟩)
 go_ret
 exact ⟨rfl, nd, _, by rw [alloc_eq_grow, alloc_eq_grow, grow_grow]; rfl⟩
theorem Sr3.lays (g size : Nat) (w : World) : CmpLays Try.prog 29 #[] Sr3.enc 3 Sr3.cmp g 0 size w := fun _ _ _ _ x y => Sr3.closure x y _
theorem Sr3.sortStable (cap blk : Nat) (d : Array S45) (w : World) (R : RowK Sr3.enc 3 w blk 0 d) (hsz : d.size < 1152921504606846976) :
  Calls Try.prog 28 #[.slice (some ⟨blk, 0, none⟩) d.size cap, .func (.func 29) #[] #[]] w fun e w' => e = .returned (.tuple #[]) ∧ SWK Sr3.enc 3 w blk 0 (Stab.stable (ltOf Sr3.cmp) d d.size) w' := by
 have hu43 := Try.underlying40
 have hC := stab_stable 3 Try.isAgg45 Try.sizeOf45 Sr3.enc Sr3.cmp 29 #[] blk 0 cap d.size d d w w (fun args w => enters_ Try.func29 (by kernel_rfl) rfl args w) (Sr3.lays blk d.size w) R rfl (SWK.start R.hH) (Nat.le_refl _) hsz
 have HC := ka hC
 clear hC R
 go_enter Try.func28, Try.ntmps28
 go_wp2_with (go_at_call 37; with_reducible refine HC.out.mono ?_; rintro e w' ⟨rfl, T⟩)
 go_end0
 exact ⟨rfl, T⟩
/-- a nil slice: nothing becomes of it -/
theorem Sr3.ins_nil (w : World) : Calls Try.prog 40 #[.slice none 0 0, .int .i64 0, .int .i64 0, .func (.func 29) #[] #[]] w fun e w' => e = .returned (.tuple #[]) ∧ w' = w := by
 go_enter Try.func40, Try.ntmps40
 go_wp2
 go_loopg [8] 0 (fun _ vi wr => vi = .int .i64 1 ∧ wr = w)
 case atStart => exact ⟨rfl, rfl⟩
 case round =>
  obtain ⟨rfl, rfl⟩ := hrel
  go_wp2
  go_end0
  exact ⟨rfl, rfl⟩
theorem Sr3.stable_nil (w : World) : Calls Try.prog 37 #[.slice none 0 0, .int .i64 0, .func (.func 29) #[] #[]] w fun e w' => e = .returned (.tuple #[]) ∧ w' = w := by
 go_enter Try.func37, Try.ntmps37
 go_wp2
 go_loopg [7, 8] 0 (fun _ va vb wr => va = .int .i64 0 ∧ vb = .int .i64 20 ∧ wr = w)
 case atStart => exact ⟨rfl, rfl, rfl⟩
 case round =>
  obtain ⟨rfl, rfl, rfl⟩ := hrel
  go_wp2_with (go_at_call 40; refine (Sr3.ins_nil _).mono ?_; rintro e w' ⟨rfl, rfl⟩)
  go_loopg [6] 0 (fun _ vz wr => vz = .int .i64 20 ∧ wr = w')
  case atStart => exact ⟨rfl, rfl⟩
  case round =>
   obtain ⟨rfl, rfl⟩ := hrel
   go_wp2
   go_end0
   exact ⟨rfl, rfl⟩
theorem Sr3.sort_nil (w : World) : Calls Try.prog 28 #[.slice none 0 0, .func (.func 29) #[] #[]] w fun e w' => e = .returned (.tuple #[]) ∧ w' = w := by
 have hu43 := Try.underlying40
 go_enter Try.func28, Try.ntmps28
 go_wp2_with (go_at_call 37; refine (Sr3.stable_nil _).mono ?_; rintro e w' ⟨rfl, rfl⟩)
 go_end0
 exact ⟨rfl, rfl⟩
end
section
theorem Sr3.holds {w : World} {g : Nat} {cur : Array Value} {e : TypeId} {F : Array Value} (hb : w.heap[g]? = some (.cells cur e (0, 0))) (ht : cur.toList.take F.size = F.toList) : Holds id w g 0 F := by
 intro j hj
 refine ⟨?_, by simp [World.frozen?, hb]⟩
 have h1 : (cur.toList.take F.size)[j]? = F.toList[j]? := by rw [ht]
 rw [List.getElem?_take_of_lt hj] at h1
 simp only [World.cell?, hb, Nat.zero_add]
 simp only [Option.isSome_none, Bool.false_eq_true, if_false]
 rw [← Array.getElem?_toList, h1]
 simp [hj]
theorem Sr3.heap {w : World} {g n : Nat} {os : Array Obj} {cur : Array Value} {e : TypeId} {fr : Nat × Nat} (F : Array Value) (hb : w.heap[g]? = some (.cells cur e fr)) :
  (grow (putRow id (Sort.ahead w n) g 0 F) os).heap[g]? = some (.cells (putCells id 0 F cur) e fr) := by
 have hg : g < w.heap.size := (Array.getElem?_eq_some_iff.1 hb).1
 rw [heap_grow_old _ _ (by simpa using hg)]
 simp [putRow, mapBlock, Sort.ahead, Array.getElem?_modify, hb, onCells]
theorem Sr3.grown {w : World} {g n : Nat} {os : Array Obj} (F : Array Value) : w.grownBy (grow (putRow id (Sort.ahead w n) g 0 F) os) (some g) := by
 refine ⟨rfl, rfl, rfl, by simp, fun k hk hne => ?_⟩
 rw [heap_grow_old _ _ (by simpa using hk)]
 have : g ≠ k := fun e => hne (by rw [e])
 simp [putRow, mapBlock, Sort.ahead, Array.getElem?_modify, this]
theorem Sr3.take (cur F : Array Value) (h : F.size ≤ cur.size) : (putCells id 0 F cur).toList.take F.size = F.toList := by
 apply List.ext_getElem?
 intro j
 by_cases hj : j < F.size
 ·rw [List.getElem?_take_of_lt hj, Array.getElem?_toList]
  simp [putCells, hj, show j < cur.size by omega]
 ·rw [List.getElem?_take_eq_none (by omega), List.getElem?_eq_none (by simp; omega)]
theorem Sr3.flat_get (l : List S45) (t : Nat) (h : t < l.length * 3) : (flatK Sr3.enc 3 l.toArray).toList[t]? = (Sr3.enc (l.getD (t / 3) z45))[t % 3]? := by
 have hs : t < (flatK Sr3.enc 3 l.toArray).size := by rw [size_flatK]; simpa using h
 have h1 := get_flatK Sr3.enc 3 l.toArray t (by simpa using h)
 have h3 : t / 3 < l.length := by omega
 have h4 : t % 3 < (Sr3.enc (l.getD (t / 3) z45)).length := by show t % 3 < 3; omega
 rw [getElem!_pos _ t hs] at h1
 rw [Array.getElem?_toList, Array.getElem?_eq_getElem hs, h1, List.getElem?_eq_getElem h4]
 have e1 : l.toArray[t / 3]! = l.getD (t / 3) z45 := by
  rw [getElem!_pos _ _ (by simpa using h3), List.getD_eq_getElem?_getD, List.getElem?_eq_getElem h3]; rfl
 rw [e1, getElem!_pos (Sr3.enc (l.getD (t / 3) z45)) (t % 3) h4]
theorem Sr3.chunk (l : List S45) (j : Nat) (h : j < l.length) : ((flatK Sr3.enc 3 l.toArray).toList.drop (j * 3)).take 3 = Sr3.enc (l.getD j z45) := by
 have h2 : ∀ i, i < 3 → (flatK Sr3.enc 3 l.toArray).toList[j * 3 + i]? = (Sr3.enc (l.getD j z45))[i]? := fun i hi => by
  rw [Sr3.flat_get l (j * 3 + i) (by omega), show (j * 3 + i) / 3 = j by omega, show (j * 3 + i) % 3 = i by omega]
 apply List.ext_getElem?
 intro i
 by_cases hi : i < 3
 ·rw [List.getElem?_take_of_lt hi, List.getElem?_drop]
  exact h2 i hi
 ·rw [List.getElem?_take_eq_none (by omega), List.getElem?_eq_none (show 3 ≤ i by omega)]
theorem Sr3.flat_reps (l : List S45) (w : World) (base : Nat) (ok : Nat → Prop) : Reps (k45.M w base ok) 3 l (flatK Sr3.enc 3 l.toArray).toList := by
 refine ⟨by simp, fun j p hp => ?_⟩
 obtain ⟨hj, rfl⟩ := List.getElem?_eq_some_iff.mp hp
 have e := Sr3.chunk l j hj
 rw [List.getD_eq_getElem?_getD, List.getElem?_eq_getElem hj] at e
 rw [e]
 exact k45_mkM w base ok _
theorem Sr3.flat_of {l : List S45} {cs : List Value} {w : World} {base : Nat} {ok : Nat → Prop} (h : Reps (k45.M w base ok) 3 l cs) : (flatK Sr3.enc 3 l.toArray).toList = cs := by
 apply List.ext_getElem?
 intro t
 by_cases ht : t < l.length * 3
 ·have h3 : t / 3 < l.length := by omega
  have hc := k45_openM (h.2 (t / 3) (l.getD (t / 3) z45) (by rw [List.getD_eq_getElem?_getD, List.getElem?_eq_getElem h3]; rfl))
  rw [Sr3.flat_get l t ht]
  have e : ((cs.drop (t / 3 * 3)).take 3)[t % 3]? = cs[t]? := by
   rw [List.getElem?_take_of_lt (by omega), List.getElem?_drop, show t / 3 * 3 + t % 3 = t by omega]
  rw [← e, hc]; rfl
 ·rw [List.getElem?_eq_none (by simp; omega), List.getElem?_eq_none (by have := h.1; omega)]
theorem Sr3.len (l : List S45) : (Sr3.srt l).length = l.length := by
 have h : ∀ (n : Nat) (f z : Nat) (d : Array S45) (lt), (Stab.merges lt n f z d).size = d.size := by
  intro n f
  induction f with
  | zero => intro z d lt; rfl
  | succ f ih =>
   intro z d lt
   have hp : ∀ (k a : Nat) (d : Array S45), (Stab.pass lt n z k a d).2.size = d.size := by
    intro k
    induction k with
    | zero => intro a d; rfl
    | succ k ihk =>
     intro a d
     rw [Stab.pass]
     split
     ·rw [ihk]; exact stab_size _ _ _ _ _ _
     ·rfl
   have hr : (Stab.round lt n z d).size = d.size := by
    rw [Stab.round]
    (try simp only [])
    split
    ·rw [stab_size]; exact hp _ _ _
    ·exact hp _ _ _
   rw [Stab.merges]
   split
   ·rw [ih, hr]
   ·rfl
 have h2 : ∀ (n f a : Nat) (d : Array S45) (lt), (Stab.firsts lt n f a d).2.size = d.size := by
  intro n f
  induction f with
  | zero => intro a d lt; rfl
  | succ f ih =>
   intro a d lt
   rw [Stab.firsts]
   split
   ·rw [ih]; exact stab_ins_size _ _ _ _
   ·rfl
 unfold Sr3.srt Stab.stable
 (try simp only [])
 rw [Array.length_toList, h, stab_ins_size, h2]
 simp
theorem Sr3.calls (v : Value) (l : List S45) (base : Nat) (ok : Nat → Prop) (w : World) (ho : Kd.R k45 45 w base ok v l) (hl : l.length < 1152921504606846976) :
  Calls Try.prog 28 #[v, .func (.func 29) #[] #[]] w fun e w' => e = .returned (.tuple #[]) ∧ Kd.R k45 45 w' base ok v (Sr3.srt l) ∧ w.grownBy w' v.ownBlock := by
 obtain ⟨hok, cs, hown, hreps⟩ := ho
 rcases hown.2 with ⟨rfl, h0⟩ | ⟨g, cap, cur, rfl, hbase, hcur, hc1, hc2, hc3, hc4⟩
 ·obtain rfl := List.length_eq_zero_iff.mp h0
  refine (Sr3.sort_nil w).mono ?_
  rintro e w' ⟨rfl, rfl⟩
  have e0 : Sr3.srt [] = [] := List.length_eq_zero_iff.mp (Sr3.len [])
  rw [e0]
  exact ⟨rfl, Kd.R_nil _ _ _ _ _, ⟨rfl, rfl, rfl, Nat.le_refl _, fun _ _ _ => rfl⟩⟩
 ·have hF := Sr3.flat_of hreps
  have hFs : (flatK Sr3.enc 3 l.toArray).size = l.length * 3 := by simp
  have hsz3 : k45.sz = 3 := rfl
  rw [hsz3] at hc3 hc4
  have R : RowK Sr3.enc 3 w g 0 l.toArray := by
   refine ⟨fun _ => rfl, fun x v hv => ?_, Sr3.holds hcur (by rw [hFs, hc4, hF]), blk_lt hcur⟩
   simp [Sr3.enc] at hv
   rcases hv with rfl | rfl | rfl <;> rfl
  have hC := Sr3.sortStable cap g l.toArray w R (by simpa using hl)
  have hls : l.toArray.size = l.length := by simp
  rw [hls] at hC
  refine hC.mono ?_
  rintro e w' ⟨rfl, q, os, hw⟩
  have hlen := Sr3.len l
  have hput : w' = grow (putRow id (Sort.ahead w q) g 0 (flatK Sr3.enc 3 (Sr3.srt l).toArray)) os := by
   rw [hw]
   unfold sortWorldK putRowK Sr3.srt
   rw [Array.toArray_toList]
  have hFs2 : (flatK Sr3.enc 3 (Sr3.srt l).toArray).size = l.length * 3 := by simp [hlen]
  refine ⟨rfl, ⟨hok, (flatK Sr3.enc 3 (Sr3.srt l).toArray).toList, ?_, Sr3.flat_reps _ _ _ _⟩, hput ▸ Sr3.grown _⟩
  rw [hlen, hsz3]
  refine ⟨by simp [hlen], .inr ⟨g, cap, _, rfl, hbase, by rw [hput]; exact Sr3.heap _ hcur, hc1, hc2, by simp [putCells, hc3], ?_⟩⟩
  rw [← hFs2]
  refine Sr3.take cur _ ?_
  rw [hFs2, hc3]
  exact Nat.mul_le_mul_right 3 hc1
end
end

/-! ### calendar_Outs: function 17 -/
mutual
def calendar_Outs.l0 : Nat → List (S48) → Int → Int → List (S45) → Int → Int → Int → Int → Option ((List (S45)) × Option Int)
 | 0, _, _, _, _, _, _, _, _ => none
 | k + 1, x0, x1, x2, x12, x13, x481000, x481001, x481002 => if x13 ≤ x481000 then (calendar_Outs.l1 k x0 x1 x2 x12 x13 x0 (x0.length : Int) 0 x481000 x481001 x481002) else (if x12.length < 1152921504606846976 then (some ((Sr3.srt x12), none)) else (none))
def calendar_Outs.l1 : Nat → List (S48) → Int → Int → List (S45) → Int → List (S48) → Int → Int → Int → Int → Int → Option ((List (S45)) × Option Int)
 | 0, _, _, _, _, _, _, _, _, _, _, _ => none
 | k + 1, x0, x1, x2, x12, x13, x46, x47, x48, x481000, x481001, x481002 => if x48 < x47 then (if 0 ≤ x48 then (if x48 < (x46.length : Int) then ((calendar_day.f ((rd_T48 x46 x48).f0) ((rd_T48 x46 x48).f1) ((rd_T48 x46 x48).f2) x13).bind fun t485 => (if t485 ≥ x1 then (if t485 < x2 then (if x12.length < 5864062014805 then (calendar_Outs.l1 k x0 x1 x2 (x12 ++ [(⟨t485, x48, (rd_T48 x46 x48).f2⟩ : S45)]) x13 x46 x47 (wrap64 (x48 + 1)) x481000 x481001 x481002) else (none)) else (calendar_Outs.l1 k x0 x1 x2 x12 x13 x46 x47 (wrap64 (x48 + 1)) x481000 x481001 x481002)) else (calendar_Outs.l1 k x0 x1 x2 x12 x13 x46 x47 (wrap64 (x48 + 1)) x481000 x481001 x481002))) else (none)) else (none)) else (calendar_Outs.l0 k x0 x1 x2 x12 (wrap64 (x13 + 1)) x481000 x481001 x481002)
end
def calendar_Outs.f (k : Nat) (l0 : List (S48)) (a1 : Int) (a2 : Int) : Option ((List (S45)) × Option Int) := (calendar_Check.f l0).bind fun t468 => (if t468.isNone = true then ((date_Of_s.f a1).bind fun bt470 => (if bt470.2.2.2.isNone = true then ((date_Of_s.f a2).bind fun bt476 => (if bt476.2.2.2.isNone = true then (calendar_Outs.l0 k l0 a1 a2 ([] : List (S45)) bt470.1 bt476.1 bt476.2.1 bt476.2.2.1) else (some (([] : List (S45)), some (bt476.2.2.2.getD 0))))) else (some (([] : List (S45)), some (bt470.2.2.2.getD 0))))) else (some (([] : List (S45)), some (t468.getD 0))))
theorem calendar_Outs.mono_l : ∀ k, (∀ y0 y1 y2 y3 y4 y5 y6 y7, LeO (calendar_Outs.l0 k y0 y1 y2 y3 y4 y5 y6 y7) (calendar_Outs.l0 (k + 1) y0 y1 y2 y3 y4 y5 y6 y7)) ∧ (∀ y0 y1 y2 y3 y4 y5 y6 y7 y8 y9 y10, LeO (calendar_Outs.l1 k y0 y1 y2 y3 y4 y5 y6 y7 y8 y9 y10) (calendar_Outs.l1 (k + 1) y0 y1 y2 y3 y4 y5 y6 y7 y8 y9 y10))
 | 0 => ⟨fun _ _ _ _ _ _ _ _ r h => by simp [calendar_Outs.l0] at h, fun _ _ _ _ _ _ _ _ _ _ _ r h => by simp [calendar_Outs.l1] at h⟩
 | k + 1 => by
  obtain ⟨ih0, ih1⟩ := calendar_Outs.mono_l k
  refine ⟨?_, ?_⟩
  ·intro y0 y1 y2 y3 y4 y5 y6 y7
   unfold calendar_Outs.l0
   repeat' first
   | (with_reducible exact ih0 _ _ _ _ _ _ _ _)
   | (with_reducible exact ih1 _ _ _ _ _ _ _ _ _ _ _)
   | (with_reducible exact LeO.refl _)
   | (with_reducible exact LeO.none _)
   | (with_reducible refine LeO.ite ?_ ?_)
   | (with_reducible refine LeO.bind ?_ (fun _ => ?_))
   | exact ih0 _ _ _ _ _ _ _ _
   | exact ih1 _ _ _ _ _ _ _ _ _ _ _
   | exact LeO.none _
   | refine LeO.ite ?_ ?_
   | refine LeO.bind ?_ (fun _ => ?_)
  ·intro y0 y1 y2 y3 y4 y5 y6 y7 y8 y9 y10
   unfold calendar_Outs.l1
   repeat' first
   | (with_reducible exact ih0 _ _ _ _ _ _ _ _)
   | (with_reducible exact ih1 _ _ _ _ _ _ _ _ _ _ _)
   | (with_reducible exact LeO.refl _)
   | (with_reducible exact LeO.none _)
   | (with_reducible refine LeO.ite ?_ ?_)
   | (with_reducible refine LeO.bind ?_ (fun _ => ?_))
   | exact ih0 _ _ _ _ _ _ _ _
   | exact ih1 _ _ _ _ _ _ _ _ _ _ _
   | exact LeO.none _
   | refine LeO.ite ?_ ?_
   | refine LeO.bind ?_ (fun _ => ?_)
theorem calendar_Outs.mono : ∀ a0 a1 a2 k, LeO (calendar_Outs.f k a0 a1 a2) (calendar_Outs.f (k + 1) a0 a1 a2) := by
 intro a0 a1 a2 k
 obtain ⟨ih0, ih1⟩ := calendar_Outs.mono_l k
 unfold calendar_Outs.f
 repeat' first
   | (with_reducible exact ih0 _ _ _ _ _ _ _ _)
   | (with_reducible exact ih1 _ _ _ _ _ _ _ _ _ _ _)
   | (with_reducible exact LeO.refl _)
   | (with_reducible exact LeO.none _)
   | (with_reducible refine LeO.ite ?_ ?_)
   | (with_reducible refine LeO.bind ?_ (fun _ => ?_))
   | exact ih0 _ _ _ _ _ _ _ _
   | exact ih1 _ _ _ _ _ _ _ _ _ _ _
   | exact LeO.none _
   | refine LeO.ite ?_ ?_
   | refine LeO.bind ?_ (fun _ => ?_)
set_option maxHeartbeats 8000000 in
set_option maxRecDepth 100000 in
theorem calendar_Outs.calls (k : Nat) (A0 : Option Addr) (c0 : Nat) (l0 : List (S48)) (a1 : Int) (a2 : Int) (r1 : List (S45)) (r2 : Option Int) (w : World) (hr0 : Kd.C k48 w A0 l0.length l0) (hc0 : l0.length ≤ c0) (h : calendar_Outs.f k l0 a1 a2 = some (r1, r2)) :
  Calls Try.prog 17 #[.slice A0 l0.length c0, .int .i64 a1, .int .i64 a2] w fun e w' => ∃ v0_ : Value, e = .returned (.tuple #[v0_, errW r2]) ∧ Kd.R k45 45 w' w.heap.size (fun _ => True) v0_ r1 ∧ Below w.heap.size w w' := by
 have hu30 := Try.underlying30
 have hu48 := Try.underlying48
 have hu45 := Try.underlying45
 have hu26 := Try.underlying26
 have hu35 := Try.underlying35
 have HR0 := ka hr0
 have HC0 := ka hc0
 clear hr0 hc0
 have HB := ka (Below.refl w.heap.size w)
 have H : ((calendar_Check.f l0).bind fun t468 => (if t468.isNone = true then ((date_Of_s.f a1).bind fun bt470 => (if bt470.2.2.2.isNone = true then ((date_Of_s.f a2).bind fun bt476 => (if bt476.2.2.2.isNone = true then (calendar_Outs.l0 k l0 a1 a2 ([] : List (S45)) bt470.1 bt476.1 bt476.2.1 bt476.2.2.1) else (some (([] : List (S45)), some (bt476.2.2.2.getD 0))))) else (some (([] : List (S45)), some (bt470.2.2.2.getD 0))))) else (some (([] : List (S45)), some (t468.getD 0))))) = some (r1, r2) := h
 clear h
 replace H := Option.bind_eq_some_iff.mp H
 obtain ⟨t468, A40, H⟩ := H
 replace H : (if t468.isNone = true then ((date_Of_s.f a1).bind fun bt470 => (if bt470.2.2.2.isNone = true then ((date_Of_s.f a2).bind fun bt476 => (if bt476.2.2.2.isNone = true then (calendar_Outs.l0 k l0 a1 a2 ([] : List (S45)) bt470.1 bt476.1 bt476.2.1 bt476.2.2.1) else (some (([] : List (S45)), some (bt476.2.2.2.getD 0))))) else (some (([] : List (S45)), some (bt470.2.2.2.getD 0))))) else (some (([] : List (S45)), some (t468.getD 0)))) = some (r1, r2) := H
 have A4 := ka A40
 clear A40
 rcases t468 with _ | q469
 ·have H1 : ((date_Of_s.f a1).bind fun bt470 => (if bt470.2.2.2.isNone = true then ((date_Of_s.f a2).bind fun bt476 => (if bt476.2.2.2.isNone = true then (calendar_Outs.l0 k l0 a1 a2 ([] : List (S45)) bt470.1 bt476.1 bt476.2.1 bt476.2.2.1) else (some (([] : List (S45)), some (bt476.2.2.2.getD 0))))) else (some (([] : List (S45)), some (bt470.2.2.2.getD 0))))) = some (r1, r2) := by rw [if_pos (show (none : Option Int).isNone = true by rfl)] at H; exact H
  clear H
  have H := H1
  clear H1
  try simp only [errW_none, errW_some]
  replace H := Option.bind_eq_some_iff.mp H
  obtain ⟨⟨t470, t471, t472, t473⟩, A50, H⟩ := H
  replace H : (if t473.isNone = true then ((date_Of_s.f a2).bind fun bt476 => (if bt476.2.2.2.isNone = true then (calendar_Outs.l0 k l0 a1 a2 ([] : List (S45)) t470 bt476.1 bt476.2.1 bt476.2.2.1) else (some (([] : List (S45)), some (bt476.2.2.2.getD 0))))) else (some (([] : List (S45)), some (t473.getD 0)))) = some (r1, r2) := H
  have A5 := ka A50
  clear A50
  rcases t473 with _ | q475
  ·have H1 : ((date_Of_s.f a2).bind fun bt476 => (if bt476.2.2.2.isNone = true then (calendar_Outs.l0 k l0 a1 a2 ([] : List (S45)) t470 bt476.1 bt476.2.1 bt476.2.2.1) else (some (([] : List (S45)), some (bt476.2.2.2.getD 0))))) = some (r1, r2) := by rw [if_pos (show (none : Option Int).isNone = true by rfl)] at H; exact H
   clear H
   have H := H1
   clear H1
   try simp only [errW_none, errW_some]
   replace H := Option.bind_eq_some_iff.mp H
   obtain ⟨⟨t476, t477, t478, t479⟩, A60, H⟩ := H
   replace H : (if t479.isNone = true then (calendar_Outs.l0 k l0 a1 a2 ([] : List (S45)) t470 t476 t477 t478) else (some (([] : List (S45)), some (t479.getD 0)))) = some (r1, r2) := H
   have A6 := ka A60
   clear A60
   rcases t479 with _ | q481
   ·have H1 : (calendar_Outs.l0 k l0 a1 a2 ([] : List (S45)) t470 t476 t477 t478) = some (r1, r2) := by rw [if_pos (show (none : Option Int).isNone = true by rfl)] at H; exact H
    clear H
    have H := H1
    clear H1
    try simp only [errW_none, errW_some]
    have H' := ka H
    clear H
    go_enter Try.func17, Try.ntmps17
    go_wp2_with (first | ((with_reducible refine gate_callee (f := 16) rfl ?_); refine kg (some 18) rfl rfl Try.func16 (by kernel_rfl) rfl #[.slice A0 l0.length c0] rfl ?_; (with_reducible refine (calendar_Check.calls _ _ l0 none _ ?side1 ?side2 A4.out).mono ?_); (case side1 => repeat (first | exact HR0.out | (with_reducible refine Kd.C_alloc ?_ _) | (with_reducible refine Kd.C_drewN ?_ _) | (with_reducible refine Kd.C_drew ?_))); (case side2 => exact HC0.out); rintro e w7 ⟨rfl, hb⟩; refine ⟨_, rfl, ?_⟩; replace HB := ka (below_step (kw HB.out) hb); (try clear hb); (try clear hb2); (try clear hk); (try clear hi); (try simp only [errW_none, errW_some])) | ((with_reducible refine gate_callee (f := 21) rfl ?_); refine kg (some 24) rfl rfl Try.func21 (by kernel_rfl) rfl #[.int .i64 a1] rfl ?_; (with_reducible refine (date_Of_s.calls a1 t470 t471 t472 none _ A5.out).mono ?_); rintro e w8 ⟨rfl, hb⟩; refine ⟨_, rfl, ?_⟩; replace HB := ka (below_step (kw HB.out) hb); (try clear hb); (try clear hb2); (try clear hk); (try clear hi); (try simp only [errW_none, errW_some])) | ((with_reducible refine gate_dst (N := 9) rfl ?_); refine kx (N := 9) (cs := #[.int .i64 0, .int .i64 0, .int .i64 0]) (t := 30) ?_; intro gb474 hg w9 hbox hb; have n0_ := ka (below_step (kw HB.out) hb); have n1_ := ka (hbox); have n2_ := ka ((by rw [hg]; exact (below_size (kw HB.out)) : w.heap.size ≤ gb474)); have n3_ := n2_; clear HB; have HB := n0_; have BK474 := n1_; have GW474 := n2_; have GE474 := n3_; clear n0_ n1_ n2_ n3_; clear hb hbox hg; have hcz10 := blkAll3 BK474.out) | ((with_reducible refine gate_callee (f := 21) rfl ?_); refine kg (some 32) rfl rfl Try.func21 (by kernel_rfl) rfl #[.int .i64 a2] rfl ?_; (with_reducible refine (date_Of_s.calls a2 t476 t477 t478 none _ A6.out).mono ?_); rintro e w11 ⟨rfl, hb⟩; refine ⟨_, rfl, ?_⟩; replace BK474 := ka (blk_below (g := gb474) (o := .cells #[.int .i64 t470, .int .i64 t471, .int .i64 t472] 30 (0, 0)) (by (with_reducible repeat (first | apply kb1 | apply kb2 | apply kb3 | apply blkPut3_2 | apply blkPut3_1 | apply blkPut3_0)); exact BK474.out) hb); replace HB := ka (below_step (kw HB.out) hb); (try clear hb); (try clear hb2); (try clear hk); (try clear hi); (try simp only [errW_none, errW_some])) | ((with_reducible refine gate_dst (N := 11) rfl ?_); refine kx (N := 11) (cs := #[.int .i64 0, .int .i64 0, .int .i64 0]) (t := 30) ?_; intro gb480 hg w12 hbox hb; have n0_ := ka (blk_below (g := gb474) (kz BK474.out) hb); have n1_ := ka (below_step (kw HB.out) hb); have n2_ := ka (hbox); have n3_ := ka ((by rw [hg]; exact (below_size (kw HB.out)) : w.heap.size ≤ gb480)); have n4_ := n3_; have n5_ := ka ((by rw [hg]; exact Nat.ne_of_lt (blk_lt (g := gb474) (kz BK474.out)) : gb474 ≠ gb480)); have n6_ := ka n5_.out.symm; clear BK474; clear HB; have BK474 := n0_; have HB := n1_; have BK480 := n2_; have GW480 := n3_; have GE480 := n4_; have NB474_480 := n5_; have NB480_474 := n6_; clear n0_ n1_ n2_ n3_ n4_ n5_ n6_; clear hb hbox hg; have hnb13 := NB480_474.out; have hnc13 := NB474_480.out; have hcz14 := blkAll3 BK480.out; have hcz15 := blkAll3 BK474.out))
    (try simp only [Act.put, List.setIfInBounds_toArray, List.set_cons_zero, List.set_cons_succ])
    go_loopg [12, 13] k (fun kq v12 v13 w' => ∃ (x12_1 : List (S45)) (x13_1 : Int), v13 = .int .i64 x13_1 ∧ Aside0 (calendar_Outs.l0 kq l0 a1 a2 x12_1 x13_1 t476 t477 t478 = some (r1, r2)) ∧ Aside0 (kq ≤ k) ∧ Aside0 (Kd.R k45 45 w' w.heap.size (fun _ => True) v12 x12_1) ∧ Aside0 (w'.heap[gb474]? = some (.cells #[.int .i64 t470, .int .i64 t471, .int .i64 t472] 30 (0, 0))) ∧ Aside0 (w'.heap[gb480]? = some (.cells #[.int .i64 t476, .int .i64 t477, .int .i64 t478] 30 (0, 0))) ∧ Aside0 (Below w.heap.size w w'))
    case atStart => exact ⟨(([] : List (S45))), (t470), (by first | rfl | (simp; done) | (simp [*]; done)), H', ⟨Nat.le_refl _⟩, ⟨by first | exact Kd.R_nil _ _ _ _ _ | exact Kd.N_nil _ _ _ _ _ | exact Kd.V_nil _ _ _ _ _ | exact Kd.Q_nil _ _ _ _ _ | exact Kd.S_nil _ _ _ _ _⟩, ⟨by (with_reducible repeat (first | apply kb1 | apply kb2 | apply kb3 | refine kb4 ?_ NB474_480.out _)); exact BK474.out⟩, ⟨by (with_reducible repeat (first | apply kb1 | apply kb2 | apply kb3 | apply blkPut3_2 | apply blkPut3_1 | apply blkPut3_0)); exact BK480.out⟩, ⟨by repeat (first | (with_reducible first | exact HB.out | apply kc1 | apply kc2 | apply kc3 | refine kc4 ?_ GE474.out | refine kc4 ?_ GE480.out) | exact HB.out)⟩⟩
    case round =>
     clear H'
     try clear c1
     try clear c2
     try clear p2
     try clear q4
     try clear c13
     try clear hcz10
     try clear hcz14
     try clear hcz15
     try clear q469
     try clear q475
     try clear q481
     obtain ⟨x12_1, x13_1, rfl, HA, HK1, HO_12, BK474, BK480, HB⟩ := hrel
     cases gk with
     | zero => exact absurd HA.out (by simp [calendar_Outs.l0])
     | succ k1 =>
      have H := HA.out
      clear HA
      simp only [calendar_Outs.l0] at H
      by_cases c16 : x13_1 ≤ t476
      ·rw [if_pos c16] at H
       have c16b0 : decide (x13_1 ≤ t476) = true := decide_eq_true c16
       clear c16
       have H' := ka H
       clear H
       have hnb17 := NB480_474.out
       have hnc17 := NB474_480.out
       have hcz18 := blkAll3 BK480.out
       go_wp2
       (try simp only [Act.put, List.setIfInBounds_toArray, List.set_cons_zero, List.set_cons_succ])
       go_loopg [12, 48] k1 (fun kq v12 v48 w' => ∃ (x12_2 : List (S45)) (x48_2 : Int), v48 = .int .i64 x48_2 ∧ Aside0 (calendar_Outs.l1 kq l0 a1 a2 x12_2 x13_1 l0 (l0.length : Int) x48_2 t476 t477 t478 = some (r1, r2)) ∧ Aside0 (kq ≤ k1) ∧ Aside0 (Kd.R k45 45 w' w.heap.size (fun _ => True) v12 x12_2) ∧ Aside0 (w'.heap[gb474]? = some (.cells #[.int .i64 t470, .int .i64 t471, .int .i64 t472] 30 (0, 0))) ∧ Aside0 (w'.heap[gb480]? = some (.cells #[.int .i64 t476, .int .i64 t477, .int .i64 t478] 30 (0, 0))) ∧ Aside0 (Below w.heap.size w w'))
       case atStart => exact ⟨(x12_1), (0), (by first | rfl | (simp; done) | (simp [*]; done)), H', ⟨Nat.le_refl _⟩, ⟨kr HO_12.out⟩, ⟨by (with_reducible repeat (first | apply kb1 | apply kb2 | apply kb3)); exact BK474.out⟩, ⟨by (with_reducible repeat (first | apply kb1 | apply kb2 | apply kb3)); exact BK480.out⟩, ⟨by repeat (first | (with_reducible first | exact HB.out | apply kc1 | apply kc2 | apply kc3 | refine kc4 ?_ GE474.out | refine kc4 ?_ GE480.out) | exact HB.out)⟩⟩
       case round =>
        clear H'
        try clear c1
        try clear c2
        try clear p2
        try clear q4
        try clear c13
        try clear c16
        try clear c16b0
        try clear c17
        try clear hcz10
        try clear hcz14
        try clear hcz15
        try clear hcz18
        try clear p2
        try clear q4
        try clear q469
        try clear q475
        try clear q481
        obtain ⟨x12_2, x48_2, rfl, HA, HK2, HO_12, BK474, BK480, HB⟩ := hrel
        cases gk with
        | zero => exact absurd HA.out (by simp [calendar_Outs.l1])
        | succ k2 =>
         have H := HA.out
         clear HA
         simp only [calendar_Outs.l1] at H
         by_cases c19 : x48_2 < (l0.length : Int)
         ·rw [if_pos c19] at H
          have c19b0 : decide (x48_2 < (l0.length : Int)) = true := decide_eq_true c19
          clear c19
          by_cases c20 : 0 ≤ x48_2
          ·rw [if_pos c20] at H
           have c20b0 : decide (0 ≤ x48_2) = true := decide_eq_true c20
           clear c20
           by_cases c21 : x48_2 < (l0.length : Int)
           ·rw [if_pos c21] at H
            have c21b0 : decide (x48_2 < (l0.length : Int)) = true := decide_eq_true c21
            clear c21
            replace H := Option.bind_eq_some_iff.mp H
            obtain ⟨t485, A220, H⟩ := H
            replace H : (if t485 ≥ a1 then (if t485 < a2 then (if x12_2.length < 5864062014805 then (calendar_Outs.l1 k2 l0 a1 a2 (x12_2 ++ [(⟨t485, x48_2, (rd_T48 l0 x48_2).f2⟩ : S45)]) x13_1 l0 (l0.length : Int) (wrap64 (x48_2 + 1)) t476 t477 t478) else (none)) else (calendar_Outs.l1 k2 l0 a1 a2 x12_2 x13_1 l0 (l0.length : Int) (wrap64 (x48_2 + 1)) t476 t477 t478)) else (calendar_Outs.l1 k2 l0 a1 a2 x12_2 x13_1 l0 (l0.length : Int) (wrap64 (x48_2 + 1)) t476 t477 t478)) = some (r1, r2) := H
            have A22 := ka A220
            clear A220
            by_cases c23 : t485 ≥ a1
            ·rw [if_pos c23] at H
             have c23b0 : decide (a1 ≤ t485) = true := decide_eq_true c23
             clear c23
             by_cases c24 : t485 < a2
             ·rw [if_pos c24] at H
              have c24b0 : decide (t485 < a2) = true := decide_eq_true c24
              clear c24
              by_cases c25 : x12_2.length < 5864062014805
              ·rw [if_pos c25] at H
               have LMc25 := ka c25
               clear c25
               obtain ⟨y486, hy486⟩ : ∃ y_ : List (S45), y_ = (x12_2 ++ [(⟨t485, x48_2, (rd_T48 l0 x48_2).f2⟩ : S45)]) := ⟨_, rfl⟩
               replace H : (calendar_Outs.l1 k2 l0 a1 a2 y486 x13_1 l0 (l0.length : Int) (wrap64 (x48_2 + 1)) t476 t477 t478) = some (r1, r2) := by first | (rw [hy486]; with_reducible exact H) | (have H2_ := (Option.bind_some _ _).symm.trans H; rw [hy486]; with_reducible exact H2_) | (have H2_ := (Option.bind_some _ _).symm.trans H; with_reducible exact H2_) | with_reducible exact H | (rw [hy486]; exact H) | exact H
               have Ny486 := ka hy486
               clear hy486
               have H' := ka H
               clear H
               have p483 : 0 ≤ (x48_2 : Int) := of_decide_eq_true (by first | (with_reducible assumption) | assumption)
               have q483 : x48_2 < (l0.length : Int) := of_decide_eq_true (by first | (with_reducible assumption) | assumption)
               obtain ⟨ad483, e483, hx483_0, hx483_1, hx483_2⟩ := at_T48 HR0.out x48_2 p483 q483
               cases e483
               replace hx483_0 := (HB.out.cell (World.block_lt_of_cell? w _ hx483_0)).trans hx483_0
               replace hx483_1 := (HB.out.cell (World.block_lt_of_cell? w _ hx483_1)).trans hx483_1
               replace hx483_2 := (HB.out.cell (World.block_lt_of_cell? w _ hx483_2)).trans hx483_2
               replace p483 := eq_true p483
               replace q483 := eq_true q483
               go_wp2_with (first | ((with_reducible refine gate_dst (N := 15) rfl ?_); refine kx (N := 15) (cs := #[.int .i64 0, .int .i64 0, .int .i64 0]) (t := 48) ?_; intro gb484 hg w26 hbox hb; have n0_ := ka (Kd.R_below (kr HO_12.out) hb); have n1_ := ka (blk_below (g := gb474) (kz BK474.out) hb); have n2_ := ka (blk_below (g := gb480) (kz BK480.out) hb); have n3_ := ka (below_step (kw HB.out) hb); have n4_ := ka (hbox); have n5_ := ka ((by rw [hg]; exact (below_size (kw HB.out)) : w.heap.size ≤ gb484)); have n6_ := n5_; have n7_ := ka ((by rw [hg]; exact Nat.ne_of_lt (blk_lt (g := gb474) (kz BK474.out)) : gb474 ≠ gb484)); have n8_ := ka n7_.out.symm; have n9_ := ka ((by rw [hg]; exact Nat.ne_of_lt (blk_lt (g := gb480) (kz BK480.out)) : gb480 ≠ gb484)); have n10_ := ka n9_.out.symm; clear HO_12; clear BK474; clear BK480; clear HB; have HO_12 := n0_; have BK474 := n1_; have BK480 := n2_; have HB := n3_; have BK484 := n4_; have GW484 := n5_; have GE484 := n6_; have NB474_484 := n7_; have NB484_474 := n8_; have NB480_484 := n9_; have NB484_480 := n10_; clear n0_ n1_ n2_ n3_ n4_ n5_ n6_ n7_ n8_ n9_ n10_; clear hb hbox hg; have hnb27 := NB484_474.out; have hnc27 := NB474_484.out; have hnb28 := NB484_480.out; have hnc28 := NB480_484.out; have hcz29 := blkAll3 BK484.out) | ((with_reducible refine gate_callee (f := 27) rfl ?_); refine kg (some 55) rfl rfl Try.func27 (by kernel_rfl) rfl #[.agg #[.int .i64 ((rd_T48 l0 x48_2).f0), .int .i64 ((rd_T48 l0 x48_2).f1), .int .i64 ((rd_T48 l0 x48_2).f2)], .int .i64 x13_1] rfl ?_; (with_reducible refine (calendar_day.calls ((rd_T48 l0 x48_2).f0) ((rd_T48 l0 x48_2).f1) ((rd_T48 l0 x48_2).f2) x13_1 t485 _ A22.out).mono ?_); rintro e w30 ⟨rfl, hb⟩; refine ⟨_, rfl, ?_⟩; replace HO_12 := ka (Kd.R_below (kr ((Kd.R_mono (Kd.R_far (p := ⟨gb484, 2, none⟩) (Kd.R_far (p := ⟨gb484, 1, none⟩) (Kd.R_far (p := ⟨gb484, 0, none⟩) (Kd.R_types HO_12.out BK484.out (by decide)) (fun _ hk => hk.2) (.int .i64 ((rd_T48 l0 x48_2).f0))) (fun _ hk => hk.2) (.int .i64 ((rd_T48 l0 x48_2).f1))) (fun _ hk => hk.2) (.int .i64 ((rd_T48 l0 x48_2).f2))) (fun _ h_ => h_.1)))) hb); replace BK474 := ka (blk_below (g := gb474) (o := .cells #[.int .i64 t470, .int .i64 t471, .int .i64 t472] 30 (0, 0)) (by (with_reducible repeat (first | apply kb1 | apply kb2 | apply kb3 | refine kb4 ?_ NB474_484.out _)); exact BK474.out) hb); replace BK480 := ka (blk_below (g := gb480) (o := .cells #[.int .i64 t476, .int .i64 t477, .int .i64 t478] 30 (0, 0)) (by (with_reducible repeat (first | apply kb1 | apply kb2 | apply kb3 | refine kb4 ?_ NB480_484.out _)); exact BK480.out) hb); replace BK484 := ka (blk_below (g := gb484) (o := .cells #[.int .i64 ((rd_T48 l0 x48_2).f0), .int .i64 ((rd_T48 l0 x48_2).f1), .int .i64 ((rd_T48 l0 x48_2).f2)] 48 (0, 0)) (by (with_reducible repeat (first | apply kb1 | apply kb2 | apply kb3 | apply blkPut3_2 | apply blkPut3_1 | apply blkPut3_0)); exact BK484.out) hb); replace HB := ka (below_step (kw HB.out) hb); (try clear hb); (try clear hb2); (try clear hk); (try clear hi); have hcz31 := blkAll3 BK484.out) | ((with_reducible refine gate_builtin (b := .append) (xs := #[.tmp 64, .tmp 70]) rfl ?_); at_builtin; refine Kd.R_append k45 (w0 := w) w.heap.size rfl (.tmp 64) (.tmp 70) 40 45 (.agg #[(.int .i64 0), (.int .i64 0), (.int .i64 0)]) 24 rfl Try.underlying40 info45 rfl (by decide) (by omega) u12 x12_2 (⟨t485, x48_2, (rd_T48 l0 x48_2).f2⟩ : S45) [.int .i64 t485, .int .i64 x48_2, .int .i64 ((rd_T48 l0 x48_2).f2)] (fun _ => True) (fun _ => False) rfl rfl ?aP (fun _ hk => hk.elim) ?aF ?aO ?aB ?aS ?aL ?_; (case aP => exact k45_mkM _ _ _ (⟨t485, x48_2, (rd_T48 l0 x48_2).f2⟩ : S45)); (case aB => exact (kw HB.out)); (case aF => exact (fun _ _ => trivial)); (case aO => exact (kr HO_12.out)); (case aS => exact (below_size (kw HB.out))); (case aL => have := LMc25.out; omega); intro v487 w32 ho hb hg hat; rw [← Ny486.out] at ho; replace BK474 := ka (blk_grown (g := gb474) (kz BK474.out) hg (Kd.R_ne HO_12.out BK474.out (by decide))); replace BK480 := ka (blk_grown (g := gb480) (kz BK480.out) hg (Kd.R_ne HO_12.out BK480.out (by decide))); replace BK484 := ka (blk_grown (g := gb484) (kz BK484.out) hg (Kd.R_ne HO_12.out BK484.out (by decide))); replace HB := ka (hb); have HO488 := ka (ho); clear HO_12; clear ho hb hg hat))
               go_roundg k2
               case measure => have := HK1.out; have := HK2.out; omega
               case rel => exact ⟨(y486), (wrap64 (x48_2 + 1)), (by first | rfl | (simp; done) | (simp [*]; done)), H', ⟨by have := HK1.out; have := HK2.out; omega⟩, ⟨kr HO488.out⟩, ⟨by (with_reducible repeat (first | apply kb1 | apply kb2 | apply kb3)); exact BK474.out⟩, ⟨by (with_reducible repeat (first | apply kb1 | apply kb2 | apply kb3)); exact BK480.out⟩, ⟨by repeat (first | (with_reducible first | exact HB.out | apply kc1 | apply kc2 | apply kc3 | refine kc4 ?_ GE474.out | refine kc4 ?_ GE480.out | refine kc4 ?_ GE484.out) | exact HB.out)⟩⟩
              ·rw [if_neg c25] at H
               exact absurd H (by simp)
             ·rw [if_neg c24] at H
              have c24b0 : decide (t485 < a2) = false := decide_eq_false c24
              clear c24
              have H' := ka H
              clear H
              have p483 : 0 ≤ (x48_2 : Int) := of_decide_eq_true (by first | (with_reducible assumption) | assumption)
              have q483 : x48_2 < (l0.length : Int) := of_decide_eq_true (by first | (with_reducible assumption) | assumption)
              obtain ⟨ad483, e483, hx483_0, hx483_1, hx483_2⟩ := at_T48 HR0.out x48_2 p483 q483
              cases e483
              replace hx483_0 := (HB.out.cell (World.block_lt_of_cell? w _ hx483_0)).trans hx483_0
              replace hx483_1 := (HB.out.cell (World.block_lt_of_cell? w _ hx483_1)).trans hx483_1
              replace hx483_2 := (HB.out.cell (World.block_lt_of_cell? w _ hx483_2)).trans hx483_2
              replace p483 := eq_true p483
              replace q483 := eq_true q483
              go_wp2_with (first | ((with_reducible refine gate_dst (N := 15) rfl ?_); refine kx (N := 15) (cs := #[.int .i64 0, .int .i64 0, .int .i64 0]) (t := 48) ?_; intro gb484 hg w33 hbox hb; have n0_ := ka (Kd.R_below (kr HO_12.out) hb); have n1_ := ka (blk_below (g := gb474) (kz BK474.out) hb); have n2_ := ka (blk_below (g := gb480) (kz BK480.out) hb); have n3_ := ka (below_step (kw HB.out) hb); have n4_ := ka (hbox); have n5_ := ka ((by rw [hg]; exact (below_size (kw HB.out)) : w.heap.size ≤ gb484)); have n6_ := n5_; have n7_ := ka ((by rw [hg]; exact Nat.ne_of_lt (blk_lt (g := gb474) (kz BK474.out)) : gb474 ≠ gb484)); have n8_ := ka n7_.out.symm; have n9_ := ka ((by rw [hg]; exact Nat.ne_of_lt (blk_lt (g := gb480) (kz BK480.out)) : gb480 ≠ gb484)); have n10_ := ka n9_.out.symm; clear HO_12; clear BK474; clear BK480; clear HB; have HO_12 := n0_; have BK474 := n1_; have BK480 := n2_; have HB := n3_; have BK484 := n4_; have GW484 := n5_; have GE484 := n6_; have NB474_484 := n7_; have NB484_474 := n8_; have NB480_484 := n9_; have NB484_480 := n10_; clear n0_ n1_ n2_ n3_ n4_ n5_ n6_ n7_ n8_ n9_ n10_; clear hb hbox hg; have hnb34 := NB484_474.out; have hnc34 := NB474_484.out; have hnb35 := NB484_480.out; have hnc35 := NB480_484.out; have hcz36 := blkAll3 BK484.out) | ((with_reducible refine gate_callee (f := 27) rfl ?_); refine kg (some 55) rfl rfl Try.func27 (by kernel_rfl) rfl #[.agg #[.int .i64 ((rd_T48 l0 x48_2).f0), .int .i64 ((rd_T48 l0 x48_2).f1), .int .i64 ((rd_T48 l0 x48_2).f2)], .int .i64 x13_1] rfl ?_; (with_reducible refine (calendar_day.calls ((rd_T48 l0 x48_2).f0) ((rd_T48 l0 x48_2).f1) ((rd_T48 l0 x48_2).f2) x13_1 t485 _ A22.out).mono ?_); rintro e w37 ⟨rfl, hb⟩; refine ⟨_, rfl, ?_⟩; replace HO_12 := ka (Kd.R_below (kr ((Kd.R_mono (Kd.R_far (p := ⟨gb484, 2, none⟩) (Kd.R_far (p := ⟨gb484, 1, none⟩) (Kd.R_far (p := ⟨gb484, 0, none⟩) (Kd.R_types HO_12.out BK484.out (by decide)) (fun _ hk => hk.2) (.int .i64 ((rd_T48 l0 x48_2).f0))) (fun _ hk => hk.2) (.int .i64 ((rd_T48 l0 x48_2).f1))) (fun _ hk => hk.2) (.int .i64 ((rd_T48 l0 x48_2).f2))) (fun _ h_ => h_.1)))) hb); replace BK474 := ka (blk_below (g := gb474) (o := .cells #[.int .i64 t470, .int .i64 t471, .int .i64 t472] 30 (0, 0)) (by (with_reducible repeat (first | apply kb1 | apply kb2 | apply kb3 | refine kb4 ?_ NB474_484.out _)); exact BK474.out) hb); replace BK480 := ka (blk_below (g := gb480) (o := .cells #[.int .i64 t476, .int .i64 t477, .int .i64 t478] 30 (0, 0)) (by (with_reducible repeat (first | apply kb1 | apply kb2 | apply kb3 | refine kb4 ?_ NB480_484.out _)); exact BK480.out) hb); replace BK484 := ka (blk_below (g := gb484) (o := .cells #[.int .i64 ((rd_T48 l0 x48_2).f0), .int .i64 ((rd_T48 l0 x48_2).f1), .int .i64 ((rd_T48 l0 x48_2).f2)] 48 (0, 0)) (by (with_reducible repeat (first | apply kb1 | apply kb2 | apply kb3 | apply blkPut3_2 | apply blkPut3_1 | apply blkPut3_0)); exact BK484.out) hb); replace HB := ka (below_step (kw HB.out) hb); (try clear hb); (try clear hb2); (try clear hk); (try clear hi)))
              go_roundg k2
              case measure => have := HK1.out; have := HK2.out; omega
              case rel => exact ⟨(x12_2), (wrap64 (x48_2 + 1)), (by first | rfl | (simp; done) | (simp [*]; done)), H', ⟨by have := HK1.out; have := HK2.out; omega⟩, ⟨kr HO_12.out⟩, ⟨by (with_reducible repeat (first | apply kb1 | apply kb2 | apply kb3)); exact BK474.out⟩, ⟨by (with_reducible repeat (first | apply kb1 | apply kb2 | apply kb3)); exact BK480.out⟩, ⟨by repeat (first | (with_reducible first | exact HB.out | apply kc1 | apply kc2 | apply kc3 | refine kc4 ?_ GE474.out | refine kc4 ?_ GE480.out | refine kc4 ?_ GE484.out) | exact HB.out)⟩⟩
            ·rw [if_neg c23] at H
             have c23b0 : decide (a1 ≤ t485) = false := decide_eq_false c23
             clear c23
             have H' := ka H
             clear H
             have p483 : 0 ≤ (x48_2 : Int) := of_decide_eq_true (by first | (with_reducible assumption) | assumption)
             have q483 : x48_2 < (l0.length : Int) := of_decide_eq_true (by first | (with_reducible assumption) | assumption)
             obtain ⟨ad483, e483, hx483_0, hx483_1, hx483_2⟩ := at_T48 HR0.out x48_2 p483 q483
             cases e483
             replace hx483_0 := (HB.out.cell (World.block_lt_of_cell? w _ hx483_0)).trans hx483_0
             replace hx483_1 := (HB.out.cell (World.block_lt_of_cell? w _ hx483_1)).trans hx483_1
             replace hx483_2 := (HB.out.cell (World.block_lt_of_cell? w _ hx483_2)).trans hx483_2
             replace p483 := eq_true p483
             replace q483 := eq_true q483
             go_wp2_with (first | ((with_reducible refine gate_dst (N := 15) rfl ?_); refine kx (N := 15) (cs := #[.int .i64 0, .int .i64 0, .int .i64 0]) (t := 48) ?_; intro gb484 hg w38 hbox hb; have n0_ := ka (Kd.R_below (kr HO_12.out) hb); have n1_ := ka (blk_below (g := gb474) (kz BK474.out) hb); have n2_ := ka (blk_below (g := gb480) (kz BK480.out) hb); have n3_ := ka (below_step (kw HB.out) hb); have n4_ := ka (hbox); have n5_ := ka ((by rw [hg]; exact (below_size (kw HB.out)) : w.heap.size ≤ gb484)); have n6_ := n5_; have n7_ := ka ((by rw [hg]; exact Nat.ne_of_lt (blk_lt (g := gb474) (kz BK474.out)) : gb474 ≠ gb484)); have n8_ := ka n7_.out.symm; have n9_ := ka ((by rw [hg]; exact Nat.ne_of_lt (blk_lt (g := gb480) (kz BK480.out)) : gb480 ≠ gb484)); have n10_ := ka n9_.out.symm; clear HO_12; clear BK474; clear BK480; clear HB; have HO_12 := n0_; have BK474 := n1_; have BK480 := n2_; have HB := n3_; have BK484 := n4_; have GW484 := n5_; have GE484 := n6_; have NB474_484 := n7_; have NB484_474 := n8_; have NB480_484 := n9_; have NB484_480 := n10_; clear n0_ n1_ n2_ n3_ n4_ n5_ n6_ n7_ n8_ n9_ n10_; clear hb hbox hg; have hnb39 := NB484_474.out; have hnc39 := NB474_484.out; have hnb40 := NB484_480.out; have hnc40 := NB480_484.out; have hcz41 := blkAll3 BK484.out) | ((with_reducible refine gate_callee (f := 27) rfl ?_); refine kg (some 55) rfl rfl Try.func27 (by kernel_rfl) rfl #[.agg #[.int .i64 ((rd_T48 l0 x48_2).f0), .int .i64 ((rd_T48 l0 x48_2).f1), .int .i64 ((rd_T48 l0 x48_2).f2)], .int .i64 x13_1] rfl ?_; (with_reducible refine (calendar_day.calls ((rd_T48 l0 x48_2).f0) ((rd_T48 l0 x48_2).f1) ((rd_T48 l0 x48_2).f2) x13_1 t485 _ A22.out).mono ?_); rintro e w42 ⟨rfl, hb⟩; refine ⟨_, rfl, ?_⟩; replace HO_12 := ka (Kd.R_below (kr ((Kd.R_mono (Kd.R_far (p := ⟨gb484, 2, none⟩) (Kd.R_far (p := ⟨gb484, 1, none⟩) (Kd.R_far (p := ⟨gb484, 0, none⟩) (Kd.R_types HO_12.out BK484.out (by decide)) (fun _ hk => hk.2) (.int .i64 ((rd_T48 l0 x48_2).f0))) (fun _ hk => hk.2) (.int .i64 ((rd_T48 l0 x48_2).f1))) (fun _ hk => hk.2) (.int .i64 ((rd_T48 l0 x48_2).f2))) (fun _ h_ => h_.1)))) hb); replace BK474 := ka (blk_below (g := gb474) (o := .cells #[.int .i64 t470, .int .i64 t471, .int .i64 t472] 30 (0, 0)) (by (with_reducible repeat (first | apply kb1 | apply kb2 | apply kb3 | refine kb4 ?_ NB474_484.out _)); exact BK474.out) hb); replace BK480 := ka (blk_below (g := gb480) (o := .cells #[.int .i64 t476, .int .i64 t477, .int .i64 t478] 30 (0, 0)) (by (with_reducible repeat (first | apply kb1 | apply kb2 | apply kb3 | refine kb4 ?_ NB480_484.out _)); exact BK480.out) hb); replace BK484 := ka (blk_below (g := gb484) (o := .cells #[.int .i64 ((rd_T48 l0 x48_2).f0), .int .i64 ((rd_T48 l0 x48_2).f1), .int .i64 ((rd_T48 l0 x48_2).f2)] 48 (0, 0)) (by (with_reducible repeat (first | apply kb1 | apply kb2 | apply kb3 | apply blkPut3_2 | apply blkPut3_1 | apply blkPut3_0)); exact BK484.out) hb); replace HB := ka (below_step (kw HB.out) hb); (try clear hb); (try clear hb2); (try clear hk); (try clear hi)))
             go_roundg k2
             case measure => have := HK1.out; have := HK2.out; omega
             case rel => exact ⟨(x12_2), (wrap64 (x48_2 + 1)), (by first | rfl | (simp; done) | (simp [*]; done)), H', ⟨by have := HK1.out; have := HK2.out; omega⟩, ⟨kr HO_12.out⟩, ⟨by (with_reducible repeat (first | apply kb1 | apply kb2 | apply kb3)); exact BK474.out⟩, ⟨by (with_reducible repeat (first | apply kb1 | apply kb2 | apply kb3)); exact BK480.out⟩, ⟨by repeat (first | (with_reducible first | exact HB.out | apply kc1 | apply kc2 | apply kc3 | refine kc4 ?_ GE474.out | refine kc4 ?_ GE480.out | refine kc4 ?_ GE484.out) | exact HB.out)⟩⟩
           ·rw [if_neg c21] at H
            exact absurd H (by simp)
          ·rw [if_neg c20] at H
           exact absurd H (by simp)
         ·rw [if_neg c19] at H
          have c19b0 : decide (x48_2 < (l0.length : Int)) = false := decide_eq_false c19
          clear c19
          have H' := ka H
          clear H
          go_wp2
          go_roundg k2
          case measure => have := HK1.out; have := HK2.out; omega
          case rel => exact ⟨(x12_2), (wrap64 (x13_1 + 1)), (by first | rfl | (simp; done) | (simp [*]; done)), H', ⟨by have := HK1.out; have := HK2.out; omega⟩, ⟨kr HO_12.out⟩, ⟨by (with_reducible repeat (first | apply kb1 | apply kb2 | apply kb3)); exact BK474.out⟩, ⟨by (with_reducible repeat (first | apply kb1 | apply kb2 | apply kb3)); exact BK480.out⟩, ⟨by repeat (first | (with_reducible first | exact HB.out | apply kc1 | apply kc2 | apply kc3 | refine kc4 ?_ GE474.out | refine kc4 ?_ GE480.out) | exact HB.out)⟩⟩
      ·rw [if_neg c16] at H
       have c16b0 : decide (x13_1 ≤ t476) = false := decide_eq_false c16
       clear c16
       by_cases c43 : x12_1.length < 1152921504606846976
       ·rw [if_pos c43] at H
        have LMc43 := ka c43
        clear c43
        obtain ⟨y482, hy482⟩ : ∃ y_ : List (S45), y_ = (Sr3.srt x12_1) := ⟨_, rfl⟩
        replace H : (some (y482, none)) = some (r1, r2) := by first | (rw [hy482]; with_reducible exact H) | (have H2_ := (Option.bind_some _ _).symm.trans H; rw [hy482]; with_reducible exact H2_) | (have H2_ := (Option.bind_some _ _).symm.trans H; with_reducible exact H2_) | with_reducible exact H | (rw [hy482]; exact H) | exact H
        have Ny482 := ka hy482
        clear hy482
        simp only [Option.some.injEq, Prod.mk.injEq] at H
        obtain ⟨rfl, rfl⟩ := H
        have hnb44 := NB480_474.out
        have hnc44 := NB474_480.out
        have hcz45 := blkAll3 BK480.out
        go_wp2_with (first | ((with_reducible refine gate_callee (f := 28) rfl ?_); refine kg (some 74) rfl rfl Try.func28 (by kernel_rfl) rfl #[u12, .func (.func 29) #[] #[]] rfl ?_; (with_reducible refine (Sr3.calls _ x12_1 ?sBase ?sOk _ ?sideO ?sideK).mono ?_); (case sideO => exact by (with_reducible repeat (first | apply Kd.R_alloc | apply Kd.R_drewN | apply Kd.R_drew)); exact HO_12.out); (case sideK => exact LMc43.out); rintro e w46 ⟨rfl, hp0_, hg⟩; refine ⟨_, rfl, ?_⟩; have hp_ : Kd.R k45 45 w46 w.heap.size (fun _ => True) u12 y482 := (by rw [Ny482.out]; exact hp0_); clear hp0_; replace BK474 := ka (blk_grown (g := gb474) (kz BK474.out) hg (Kd.R_ne HO_12.out BK474.out (by decide))); replace BK480 := ka (blk_grown (g := gb480) (kz BK480.out) hg (Kd.R_ne HO_12.out BK480.out (by decide))); replace HB := ka ((Below.grown (kw HB.out) hg (below_size (kw HB.out)) (fun k_ e_ => Kd.R_base HO_12.out k_ e_))); replace HO_12 := ka (hp_); clear hg hp_))
        go_ret2
        exact ⟨_, by first | rfl | (simp [errW_none, errW_some] <;> rfl) | (simp [*, errW_none, errW_some] <;> rfl), by (with_reducible repeat (first | apply Kd.R_alloc | apply Kd.R_drewN | apply Kd.R_drew)); exact HO_12.out, by repeat (first | (with_reducible first | exact HB.out | apply kc1 | apply kc2 | apply kc3 | refine kc4 ?_ GE474.out | refine kc4 ?_ GE480.out) | exact HB.out)⟩
       ·rw [if_neg c43] at H
        exact absurd H (by simp)
   ·have H1 : (some (([] : List (S45)), some q481)) = some (r1, r2) := by rw [if_neg (show ¬ (some q481).isNone = true by simp)] at H; exact H
    clear H
    have H := H1
    clear H1
    try simp only [errW_none, errW_some]
    simp only [Option.some.injEq, Prod.mk.injEq] at H
    obtain ⟨rfl, rfl⟩ := H
    go_enter Try.func17, Try.ntmps17
    go_wp2_with (first | ((with_reducible refine gate_callee (f := 16) rfl ?_); refine kg (some 18) rfl rfl Try.func16 (by kernel_rfl) rfl #[.slice A0 l0.length c0] rfl ?_; (with_reducible refine (calendar_Check.calls _ _ l0 none _ ?side1 ?side2 A4.out).mono ?_); (case side1 => repeat (first | exact HR0.out | (with_reducible refine Kd.C_alloc ?_ _) | (with_reducible refine Kd.C_drewN ?_ _) | (with_reducible refine Kd.C_drew ?_))); (case side2 => exact HC0.out); rintro e w47 ⟨rfl, hb⟩; refine ⟨_, rfl, ?_⟩; replace HB := ka (below_step (kw HB.out) hb); (try clear hb); (try clear hb2); (try clear hk); (try clear hi); (try simp only [errW_none, errW_some])) | ((with_reducible refine gate_callee (f := 21) rfl ?_); refine kg (some 24) rfl rfl Try.func21 (by kernel_rfl) rfl #[.int .i64 a1] rfl ?_; (with_reducible refine (date_Of_s.calls a1 t470 t471 t472 none _ A5.out).mono ?_); rintro e w48 ⟨rfl, hb⟩; refine ⟨_, rfl, ?_⟩; replace HB := ka (below_step (kw HB.out) hb); (try clear hb); (try clear hb2); (try clear hk); (try clear hi); (try simp only [errW_none, errW_some])) | ((with_reducible refine gate_dst (N := 9) rfl ?_); refine kx (N := 9) (cs := #[.int .i64 0, .int .i64 0, .int .i64 0]) (t := 30) ?_; intro gb474 hg w49 hbox hb; have n0_ := ka (below_step (kw HB.out) hb); have n1_ := ka (hbox); have n2_ := ka ((by rw [hg]; exact (below_size (kw HB.out)) : w.heap.size ≤ gb474)); have n3_ := n2_; clear HB; have HB := n0_; have BK474 := n1_; have GW474 := n2_; have GE474 := n3_; clear n0_ n1_ n2_ n3_; clear hb hbox hg; have hcz50 := blkAll3 BK474.out) | ((with_reducible refine gate_callee (f := 21) rfl ?_); refine kg (some 32) rfl rfl Try.func21 (by kernel_rfl) rfl #[.int .i64 a2] rfl ?_; (with_reducible refine (date_Of_s.calls a2 t476 t477 t478 (some q481) _ A6.out).mono ?_); rintro e w51 ⟨rfl, hb⟩; refine ⟨_, rfl, ?_⟩; replace BK474 := ka (blk_below (g := gb474) (o := .cells #[.int .i64 t470, .int .i64 t471, .int .i64 t472] 30 (0, 0)) (by (with_reducible repeat (first | apply kb1 | apply kb2 | apply kb3 | apply blkPut3_2 | apply blkPut3_1 | apply blkPut3_0)); exact BK474.out) hb); replace HB := ka (below_step (kw HB.out) hb); (try clear hb); (try clear hb2); (try clear hk); (try clear hi); (try simp only [errW_none, errW_some])) | ((with_reducible refine gate_dst (N := 11) rfl ?_); refine kx (N := 11) (cs := #[.int .i64 0, .int .i64 0, .int .i64 0]) (t := 30) ?_; intro gb480 hg w52 hbox hb; have n0_ := ka (blk_below (g := gb474) (kz BK474.out) hb); have n1_ := ka (below_step (kw HB.out) hb); have n2_ := ka (hbox); have n3_ := ka ((by rw [hg]; exact (below_size (kw HB.out)) : w.heap.size ≤ gb480)); have n4_ := n3_; have n5_ := ka ((by rw [hg]; exact Nat.ne_of_lt (blk_lt (g := gb474) (kz BK474.out)) : gb474 ≠ gb480)); have n6_ := ka n5_.out.symm; clear BK474; clear HB; have BK474 := n0_; have HB := n1_; have BK480 := n2_; have GW480 := n3_; have GE480 := n4_; have NB474_480 := n5_; have NB480_474 := n6_; clear n0_ n1_ n2_ n3_ n4_ n5_ n6_; clear hb hbox hg; have hnb53 := NB480_474.out; have hnc53 := NB474_480.out; have hcz54 := blkAll3 BK480.out))
    go_ret2
    exact ⟨_, by first | rfl | (simp [errW_none, errW_some] <;> rfl) | (simp [*, errW_none, errW_some] <;> rfl), by first | exact Kd.R_nil _ _ _ _ _ | exact Kd.N_nil _ _ _ _ _ | exact Kd.V_nil _ _ _ _ _ | exact Kd.Q_nil _ _ _ _ _ | exact Kd.S_nil _ _ _ _ _, by repeat (first | (with_reducible first | exact HB.out | apply kc1 | apply kc2 | apply kc3 | refine kc4 ?_ GE474.out | refine kc4 ?_ GE480.out) | exact HB.out)⟩
  ·have H1 : (some (([] : List (S45)), some q475)) = some (r1, r2) := by rw [if_neg (show ¬ (some q475).isNone = true by simp)] at H; exact H
   clear H
   have H := H1
   clear H1
   try simp only [errW_none, errW_some]
   simp only [Option.some.injEq, Prod.mk.injEq] at H
   obtain ⟨rfl, rfl⟩ := H
   go_enter Try.func17, Try.ntmps17
   go_wp2_with (first | ((with_reducible refine gate_callee (f := 16) rfl ?_); refine kg (some 18) rfl rfl Try.func16 (by kernel_rfl) rfl #[.slice A0 l0.length c0] rfl ?_; (with_reducible refine (calendar_Check.calls _ _ l0 none _ ?side1 ?side2 A4.out).mono ?_); (case side1 => repeat (first | exact HR0.out | (with_reducible refine Kd.C_alloc ?_ _) | (with_reducible refine Kd.C_drewN ?_ _) | (with_reducible refine Kd.C_drew ?_))); (case side2 => exact HC0.out); rintro e w55 ⟨rfl, hb⟩; refine ⟨_, rfl, ?_⟩; replace HB := ka (below_step (kw HB.out) hb); (try clear hb); (try clear hb2); (try clear hk); (try clear hi); (try simp only [errW_none, errW_some])) | ((with_reducible refine gate_callee (f := 21) rfl ?_); refine kg (some 24) rfl rfl Try.func21 (by kernel_rfl) rfl #[.int .i64 a1] rfl ?_; (with_reducible refine (date_Of_s.calls a1 t470 t471 t472 (some q475) _ A5.out).mono ?_); rintro e w56 ⟨rfl, hb⟩; refine ⟨_, rfl, ?_⟩; replace HB := ka (below_step (kw HB.out) hb); (try clear hb); (try clear hb2); (try clear hk); (try clear hi); (try simp only [errW_none, errW_some])) | ((with_reducible refine gate_dst (N := 9) rfl ?_); refine kx (N := 9) (cs := #[.int .i64 0, .int .i64 0, .int .i64 0]) (t := 30) ?_; intro gb474 hg w57 hbox hb; have n0_ := ka (below_step (kw HB.out) hb); have n1_ := ka (hbox); have n2_ := ka ((by rw [hg]; exact (below_size (kw HB.out)) : w.heap.size ≤ gb474)); have n3_ := n2_; clear HB; have HB := n0_; have BK474 := n1_; have GW474 := n2_; have GE474 := n3_; clear n0_ n1_ n2_ n3_; clear hb hbox hg; have hcz58 := blkAll3 BK474.out))
   go_ret2
   exact ⟨_, by first | rfl | (simp [errW_none, errW_some] <;> rfl) | (simp [*, errW_none, errW_some] <;> rfl), by first | exact Kd.R_nil _ _ _ _ _ | exact Kd.N_nil _ _ _ _ _ | exact Kd.V_nil _ _ _ _ _ | exact Kd.Q_nil _ _ _ _ _ | exact Kd.S_nil _ _ _ _ _, by repeat (first | (with_reducible first | exact HB.out | apply kc1 | apply kc2 | apply kc3 | refine kc4 ?_ GE474.out) | exact HB.out)⟩
 ·have H1 : (some (([] : List (S45)), some q469)) = some (r1, r2) := by rw [if_neg (show ¬ (some q469).isNone = true by simp)] at H; exact H
  clear H
  have H := H1
  clear H1
  try simp only [errW_none, errW_some]
  simp only [Option.some.injEq, Prod.mk.injEq] at H
  obtain ⟨rfl, rfl⟩ := H
  go_enter Try.func17, Try.ntmps17
  go_wp2_with (first | ((with_reducible refine gate_callee (f := 16) rfl ?_); refine kg (some 18) rfl rfl Try.func16 (by kernel_rfl) rfl #[.slice A0 l0.length c0] rfl ?_; (with_reducible refine (calendar_Check.calls _ _ l0 (some q469) _ ?side1 ?side2 A4.out).mono ?_); (case side1 => repeat (first | exact HR0.out | (with_reducible refine Kd.C_alloc ?_ _) | (with_reducible refine Kd.C_drewN ?_ _) | (with_reducible refine Kd.C_drew ?_))); (case side2 => exact HC0.out); rintro e w59 ⟨rfl, hb⟩; refine ⟨_, rfl, ?_⟩; replace HB := ka (below_step (kw HB.out) hb); (try clear hb); (try clear hb2); (try clear hk); (try clear hi); (try simp only [errW_none, errW_some])))
  go_ret2
  exact ⟨_, by first | rfl | (simp [errW_none, errW_some] <;> rfl) | (simp [*, errW_none, errW_some] <;> rfl), by first | exact Kd.R_nil _ _ _ _ _ | exact Kd.N_nil _ _ _ _ _ | exact Kd.V_nil _ _ _ _ _ | exact Kd.Q_nil _ _ _ _ _ | exact Kd.S_nil _ _ _ _ _, by repeat (first | (with_reducible first | exact HB.out | apply kc1 | apply kc2 | apply kc3) | exact HB.out)⟩

/-! ### trivetref14_paid: function 31 -/
def trivetref14_paid.f (a0_0 : Int) (a0_1 : Int) (a0_2 : Int) (a1_0 : Int) (a1_1 : Int) (a1_2 : Int) : Option (Bool) := if a0_0 = a1_1 then ((trivetref04_Days_s.f a1_0 a1_1).bind fun t491 => (if a0_1 = a1_2 then (some true) else (if a0_1 > t491 then (some (a1_2 == t491)) else (some false)))) else (some false)
set_option maxHeartbeats 8000000 in
set_option maxRecDepth 100000 in
theorem trivetref14_paid.calls (a0_0 : Int) (a0_1 : Int) (a0_2 : Int) (a1_0 : Int) (a1_1 : Int) (a1_2 : Int) (r : Bool) (w : World) (h : trivetref14_paid.f a0_0 a0_1 a0_2 a1_0 a1_1 a1_2 = some r) :
  Calls Try.prog 31 #[.agg #[.int .i64 a0_0, .int .i64 a0_1, .int .i64 a0_2], .agg #[.int .i64 a1_0, .int .i64 a1_1, .int .i64 a1_2]] w fun e w' => e = .returned (.bool r) ∧ Below w.heap.size w w' := by
 have hu48 := Try.underlying48
 have hu30 := Try.underlying30
 have HB := ka (Below.refl w.heap.size w)
 have H : (if a0_0 = a1_1 then ((trivetref04_Days_s.f a1_0 a1_1).bind fun t491 => (if a0_1 = a1_2 then (some true) else (if a0_1 > t491 then (some (a1_2 == t491)) else (some false)))) else (some false)) = some r := h
 clear h
 by_cases c3 : a0_0 = a1_1
 ·rw [if_pos c3] at H
  have c3b0 : (a0_0 == a1_1) = true := beq_iff_eq.mpr c3
  have c3b1 : (a0_0 != a1_1) = false := bne_eq_false_iff_eq.mpr c3
  clear c3
  replace H := Option.bind_eq_some_iff.mp H
  obtain ⟨t491, A40, H⟩ := H
  replace H : (if a0_1 = a1_2 then (some true) else (if a0_1 > t491 then (some (a1_2 == t491)) else (some false))) = some r := H
  have A4 := ka A40
  clear A40
  by_cases c5 : a0_1 = a1_2
  ·rw [if_pos c5] at H
   have c5b0 : (a0_1 == a1_2) = true := beq_iff_eq.mpr c5
   have c5b1 : (a0_1 != a1_2) = false := bne_eq_false_iff_eq.mpr c5
   clear c5
   obtain rfl := Option.some.inj H
   go_enter Try.func31, Try.ntmps31
   go_wp2_with (first | ((with_reducible refine gate_dst (N := 2) rfl ?_); refine kx (N := 2) (cs := #[.int .i64 a0_0, .int .i64 a0_1, .int .i64 a0_2]) (t := 48) ?_; intro gb489 hg w6 hbox hb; have n0_ := ka (below_step (kw HB.out) hb); have n1_ := ka (hbox); have n2_ := ka ((by rw [hg]; exact (below_size (kw HB.out)) : w.heap.size ≤ gb489)); have n3_ := n2_; clear HB; have HB := n0_; have BK489 := n1_; have GW489 := n2_; have GE489 := n3_; clear n0_ n1_ n2_ n3_; clear hb hbox hg) | ((with_reducible refine gate_dst (N := 3) rfl ?_); refine kx (N := 3) (cs := #[.int .i64 a1_0, .int .i64 a1_1, .int .i64 a1_2]) (t := 30) ?_; intro gb490 hg w7 hbox hb; have n0_ := ka (blk_below (g := gb489) (kz BK489.out) hb); have n1_ := ka (below_step (kw HB.out) hb); have n2_ := ka (hbox); have n3_ := ka ((by rw [hg]; exact (below_size (kw HB.out)) : w.heap.size ≤ gb490)); have n4_ := n3_; have n5_ := ka ((by rw [hg]; exact Nat.ne_of_lt (blk_lt (g := gb489) (kz BK489.out)) : gb489 ≠ gb490)); have n6_ := ka n5_.out.symm; clear BK489; clear HB; have BK489 := n0_; have HB := n1_; have BK490 := n2_; have GW490 := n3_; have GE490 := n4_; have NB489_490 := n5_; have NB490_489 := n6_; clear n0_ n1_ n2_ n3_ n4_ n5_ n6_; clear hb hbox hg; have hnb8 := NB489_490.out; have hnc8 := NB490_489.out; have hcz9 := blkAll3 BK489.out; have hcz10 := blkAll3 BK490.out) | ((with_reducible refine gate_callee (f := 24) rfl ?_); refine kg (some 15) rfl rfl Try.func24 (by kernel_rfl) rfl #[.int .i64 a1_0, .int .i64 a1_1] rfl ?_; (with_reducible refine (trivetref04_Days_s.calls a1_0 a1_1 t491 _ A4.out).mono ?_); rintro e w' ⟨rfl, ⟨nd, rfl⟩⟩; refine ⟨_, rfl, ?_⟩))
   go_ret
   exact ⟨by first | rfl | (simp [errW_none, errW_some] <;> rfl) | (simp [*, errW_none, errW_some] <;> rfl), by repeat (first | (with_reducible first | exact HB.out | apply kc1 | apply kc2 | apply kc3 | refine kc4 ?_ GE489.out | refine kc4 ?_ GE490.out) | exact HB.out)⟩
  ·rw [if_neg c5] at H
   have c5b0 : (a0_1 == a1_2) = false := beq_eq_false_iff_ne.mpr c5
   have c5b1 : (a0_1 != a1_2) = true := bne_iff_ne.mpr c5
   by_cases c11 : a0_1 > t491
   ·rw [if_pos c11] at H
    have c11b0 : decide (t491 < a0_1) = true := decide_eq_true c11
    clear c11
    obtain rfl := Option.some.inj H
    go_enter Try.func31, Try.ntmps31
    go_wp2_with (first | ((with_reducible refine gate_dst (N := 2) rfl ?_); refine kx (N := 2) (cs := #[.int .i64 a0_0, .int .i64 a0_1, .int .i64 a0_2]) (t := 48) ?_; intro gb489 hg w12 hbox hb; have n0_ := ka (below_step (kw HB.out) hb); have n1_ := ka (hbox); have n2_ := ka ((by rw [hg]; exact (below_size (kw HB.out)) : w.heap.size ≤ gb489)); have n3_ := n2_; clear HB; have HB := n0_; have BK489 := n1_; have GW489 := n2_; have GE489 := n3_; clear n0_ n1_ n2_ n3_; clear hb hbox hg) | ((with_reducible refine gate_dst (N := 3) rfl ?_); refine kx (N := 3) (cs := #[.int .i64 a1_0, .int .i64 a1_1, .int .i64 a1_2]) (t := 30) ?_; intro gb490 hg w13 hbox hb; have n0_ := ka (blk_below (g := gb489) (kz BK489.out) hb); have n1_ := ka (below_step (kw HB.out) hb); have n2_ := ka (hbox); have n3_ := ka ((by rw [hg]; exact (below_size (kw HB.out)) : w.heap.size ≤ gb490)); have n4_ := n3_; have n5_ := ka ((by rw [hg]; exact Nat.ne_of_lt (blk_lt (g := gb489) (kz BK489.out)) : gb489 ≠ gb490)); have n6_ := ka n5_.out.symm; clear BK489; clear HB; have BK489 := n0_; have HB := n1_; have BK490 := n2_; have GW490 := n3_; have GE490 := n4_; have NB489_490 := n5_; have NB490_489 := n6_; clear n0_ n1_ n2_ n3_ n4_ n5_ n6_; clear hb hbox hg; have hnb14 := NB489_490.out; have hnc14 := NB490_489.out; have hcz15 := blkAll3 BK489.out; have hcz16 := blkAll3 BK490.out) | ((with_reducible refine gate_callee (f := 24) rfl ?_); refine kg (some 15) rfl rfl Try.func24 (by kernel_rfl) rfl #[.int .i64 a1_0, .int .i64 a1_1] rfl ?_; (with_reducible refine (trivetref04_Days_s.calls a1_0 a1_1 t491 _ A4.out).mono ?_); rintro e w' ⟨rfl, ⟨nd, rfl⟩⟩; refine ⟨_, rfl, ?_⟩))
    go_ret
    exact ⟨by first | rfl | (simp [errW_none, errW_some] <;> rfl) | (simp [*, errW_none, errW_some] <;> rfl), by repeat (first | (with_reducible first | exact HB.out | apply kc1 | apply kc2 | apply kc3 | refine kc4 ?_ GE489.out | refine kc4 ?_ GE490.out) | exact HB.out)⟩
   ·rw [if_neg c11] at H
    have c11b0 : decide (t491 < a0_1) = false := decide_eq_false c11
    clear c11
    obtain rfl := Option.some.inj H
    go_enter Try.func31, Try.ntmps31
    go_wp2_with (first | ((with_reducible refine gate_dst (N := 2) rfl ?_); refine kx (N := 2) (cs := #[.int .i64 a0_0, .int .i64 a0_1, .int .i64 a0_2]) (t := 48) ?_; intro gb489 hg w17 hbox hb; have n0_ := ka (below_step (kw HB.out) hb); have n1_ := ka (hbox); have n2_ := ka ((by rw [hg]; exact (below_size (kw HB.out)) : w.heap.size ≤ gb489)); have n3_ := n2_; clear HB; have HB := n0_; have BK489 := n1_; have GW489 := n2_; have GE489 := n3_; clear n0_ n1_ n2_ n3_; clear hb hbox hg) | ((with_reducible refine gate_dst (N := 3) rfl ?_); refine kx (N := 3) (cs := #[.int .i64 a1_0, .int .i64 a1_1, .int .i64 a1_2]) (t := 30) ?_; intro gb490 hg w18 hbox hb; have n0_ := ka (blk_below (g := gb489) (kz BK489.out) hb); have n1_ := ka (below_step (kw HB.out) hb); have n2_ := ka (hbox); have n3_ := ka ((by rw [hg]; exact (below_size (kw HB.out)) : w.heap.size ≤ gb490)); have n4_ := n3_; have n5_ := ka ((by rw [hg]; exact Nat.ne_of_lt (blk_lt (g := gb489) (kz BK489.out)) : gb489 ≠ gb490)); have n6_ := ka n5_.out.symm; clear BK489; clear HB; have BK489 := n0_; have HB := n1_; have BK490 := n2_; have GW490 := n3_; have GE490 := n4_; have NB489_490 := n5_; have NB490_489 := n6_; clear n0_ n1_ n2_ n3_ n4_ n5_ n6_; clear hb hbox hg; have hnb19 := NB489_490.out; have hnc19 := NB490_489.out; have hcz20 := blkAll3 BK489.out; have hcz21 := blkAll3 BK490.out) | ((with_reducible refine gate_callee (f := 24) rfl ?_); refine kg (some 15) rfl rfl Try.func24 (by kernel_rfl) rfl #[.int .i64 a1_0, .int .i64 a1_1] rfl ?_; (with_reducible refine (trivetref04_Days_s.calls a1_0 a1_1 t491 _ A4.out).mono ?_); rintro e w' ⟨rfl, ⟨nd, rfl⟩⟩; refine ⟨_, rfl, ?_⟩))
    go_ret
    exact ⟨by first | rfl | (simp [errW_none, errW_some] <;> rfl) | (simp [*, errW_none, errW_some] <;> rfl), by repeat (first | (with_reducible first | exact HB.out | apply kc1 | apply kc2 | apply kc3 | refine kc4 ?_ GE489.out | refine kc4 ?_ GE490.out) | exact HB.out)⟩
 ·rw [if_neg c3] at H
  have c3b0 : (a0_0 == a1_1) = false := beq_eq_false_iff_ne.mpr c3
  have c3b1 : (a0_0 != a1_1) = true := bne_iff_ne.mpr c3
  obtain rfl := Option.some.inj H
  go_enter Try.func31, Try.ntmps31
  go_wp2_with (first | ((with_reducible refine gate_dst (N := 2) rfl ?_); refine kx (N := 2) (cs := #[.int .i64 a0_0, .int .i64 a0_1, .int .i64 a0_2]) (t := 48) ?_; intro gb489 hg w22 hbox hb; have n0_ := ka (below_step (kw HB.out) hb); have n1_ := ka (hbox); have n2_ := ka ((by rw [hg]; exact (below_size (kw HB.out)) : w.heap.size ≤ gb489)); have n3_ := n2_; clear HB; have HB := n0_; have BK489 := n1_; have GW489 := n2_; have GE489 := n3_; clear n0_ n1_ n2_ n3_; clear hb hbox hg) | ((with_reducible refine gate_dst (N := 3) rfl ?_); refine kx (N := 3) (cs := #[.int .i64 a1_0, .int .i64 a1_1, .int .i64 a1_2]) (t := 30) ?_; intro gb490 hg w23 hbox hb; have n0_ := ka (blk_below (g := gb489) (kz BK489.out) hb); have n1_ := ka (below_step (kw HB.out) hb); have n2_ := ka (hbox); have n3_ := ka ((by rw [hg]; exact (below_size (kw HB.out)) : w.heap.size ≤ gb490)); have n4_ := n3_; have n5_ := ka ((by rw [hg]; exact Nat.ne_of_lt (blk_lt (g := gb489) (kz BK489.out)) : gb489 ≠ gb490)); have n6_ := ka n5_.out.symm; clear BK489; clear HB; have BK489 := n0_; have HB := n1_; have BK490 := n2_; have GW490 := n3_; have GE490 := n4_; have NB489_490 := n5_; have NB490_489 := n6_; clear n0_ n1_ n2_ n3_ n4_ n5_ n6_; clear hb hbox hg; have hnb24 := NB489_490.out; have hnc24 := NB490_489.out; have hcz25 := blkAll3 BK489.out; have hcz26 := blkAll3 BK490.out))
  go_ret
  exact ⟨by first | rfl | (simp [errW_none, errW_some] <;> rfl) | (simp [*, errW_none, errW_some] <;> rfl), by repeat (first | (with_reducible first | exact HB.out | apply kc1 | apply kc2 | apply kc3 | refine kc4 ?_ GE489.out | refine kc4 ?_ GE490.out) | exact HB.out)⟩

end Go.Proofs.Ytmkfbaoglmmhjaa.P
