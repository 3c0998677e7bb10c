-- Written by a program of this session out of the translation of the seat: Lean functions and the proofs that the Go functions come to them.
import Derived.Test.YtghimjkoaldafaaPx0
import Derived.Test.YtghimjkoaldafaaPx1
namespace Go.Proofs.Ytghimjkoaldafaa.P
open Go.RowKit Go.Proofs.YtghimjkoaldafaaW.PrintWords Go.Proofs.YtghimjkoaldafaaW.PrintLast Go.Proofs.YtghimjkoaldafaaW.PrintMore
attribute [local go_sem] max2_int min2_int max_two min_two max_three min_three max_four min_four   -- for this text's walks alone
set_option linter.unusedVariables false
set_option linter.unusedSimpArgs false

/-! ### slices_SortStableFunc_int_int: function 36 -/
/-! What split.Shares sorts by, and the library's stable sort as a step of a walk. -/
section
open Go.Shelf Go.Lib Go.Sort
def Srt.cmp (r : List Int) (m : Nat) (x y : Fin (m + 1)) : Int := if rd r y.val < rd r x.val then -1 else if rd r y.val > rd r x.val then 1 else 0
def Srt.Ok (r o : List Int) : Prop := (∀ x ∈ o, 0 ≤ x ∧ x < (r.length : Int)) ∧ 0 < o.length ∧ o.length < 1152921504606846976 ∧ r.length < 1152921504606846976
instance (r o : List Int) : Decidable (Srt.Ok r o) := inferInstanceAs (Decidable (_ ∧ _ ∧ _ ∧ _))
def Srt.ok (r o : List Int) : Bool := decide (Srt.Ok r o)
def Srt.fin (m : Nat) (x : Int) : Fin (m + 1) := ⟨min x.toNat m, by omega⟩
/-- the places o by what is left there (r), greatest first, those that are alike as they stood -/
def Srt.srt (r o : List Int) : List Int := ((Stab.stable (ltOf (Srt.cmp r (r.length - 1))) (o.map (Srt.fin (r.length - 1))).toArray o.length).toList.map (fun x => (x.val : Int)))
def Srt.enc (m : Nat) (x : Fin (m + 1)) : Value := .int .i64 (x.val : Int)
section
set_option maxHeartbeats 4000000
set_option maxRecDepth 100000
theorem Srt.closure (gb : Nat) (A : Option Addr) (c : Nat) (r : List Int) (w : World) (hb : w.cell? ⟨gb, 0, none⟩ = some (.slice A r.length c)) (hr : Kd.C (Kd.int .u64) w A r.length r) (x y : Nat) (hx : x < r.length) (hy : y < r.length) (hl : r.length < 1152921504606846976) :
  Calls Try.prog 37 #[.int .i64 x, .int .i64 y, .pointer (some ⟨gb, 0, none⟩)] w fun e w' => e = .returned (.int .i64 (if rd r y < rd r x then -1 else if rd r y > rd r x then 1 else 0)) ∧ Drawn0 w w' := by
 have mixed : Try.prog.follows .mixedOrders = true := by kernel_rfl
 have hu32 := Try.underlying49
 have hc : cmp_Compare_uint64.f (rd r y) (rd r x) = some (if rd r y < rd r x then -1 else if rd r y > rd r x then 1 else 0) := by
  unfold cmp_Compare_uint64.f cmp_isNaN_uint64.f
  simp
  split <;> simp_all
  split <;> simp_all
 have A5 := ka hc
 clear hc
 obtain ⟨z, hz⟩ : ∃ z, z = (if rd r y < rd r x then (-1 : Int) else if rd r y > rd r x then 1 else 0) := ⟨_, rfl⟩
 rw [← hz] at A5 ⊢
 clear hz
 have pa : (0 : Int) ≤ (y : Int) := by omega
 have qa : (y : Int) < (r.length : Int) := by omega
 have pb : (0 : Int) ≤ (x : Int) := by omega
 have qb : (x : Int) < (r.length : Int) := by omega
 obtain ⟨ad, ea, ha⟩ := Kd.at_int hr (y : Int) pa qa
 obtain ⟨ad2, eb, hb2⟩ := Kd.at_int hr (x : Int) pb qb
 subst ea
 injection eb with eb
 subst eb
 simp only [Int.toNat_natCast] at ha hb2
 replace pa := eq_true pa
 replace qa := eq_true qa
 replace pb := eq_true pb
 replace qb := eq_true qb
 clear hr hx hy
 obtain ⟨yv, hyv⟩ : ∃ v, v = rd r (y : Int) := ⟨_, rfl⟩
 obtain ⟨xv, hxv⟩ : ∃ v, v = rd r (x : Int) := ⟨_, rfl⟩
 rw [← hyv] at ha A5
 rw [← hxv] at hb2 A5
 clear hyv hxv
 go_enter Try.func37, Try.ntmps37
 go_wp2
 go_quiet (first | (go_at_call 38; (with_reducible refine (cmp_Compare_uint64.calls yv xv z _ A5.out).mono ?_); rintro e w' ⟨rfl, ⟨nd, rfl⟩⟩; (try first | exact ⟨rfl, _, World.drewN_drewN _ _ _⟩ | exact ⟨rfl, _, Eq.trans (World.drewN_drewN _ _ _) (congrArg (World.drewN _) (Nat.add_assoc _ _ _))⟩)))
 try go_wp2
 go_ret
 exact ⟨by first | rfl | (simp; done) | (simp [*]; done), by repeat (first | exact Drawn0.refl _ | apply Drawn0.step)⟩
end
section
set_option maxHeartbeats 4000000
theorem Srt.grown {α : Type} [Inhabited α] (enc : α → Value) (w : World) (g m : Nat) (dk : Array α) (os : Array Obj) : w.grownBy (sortWorld enc w g 0 m dk os) (some g) := by
 refine ⟨rfl, rfl, rfl, by simp [sortWorld], fun k hk hne => ?_⟩
 unfold sortWorld
 rw [heap_grow_old _ _ (by simpa using hk)]
 have : g ≠ k := fun e => hne (by rw [e])
 simp [putRow, mapBlock, Sort.ahead, Array.getElem?_modify, this]
theorem Srt.put {α : Type} [Inhabited α] (enc : α → Value) (f : α → Int) (hf : ∀ x, enc x = .int .i64 (f x)) (w : World) (g : Nat) (d : Array α) : putRow enc w g 0 d = putRow (Value.int .i64) w g 0 (d.map f) := by
 unfold putRow
 congr 1
 funext c
 unfold putCells
 apply Array.ext
 ·simp
 ·intro k h1 h2
  simp only [Array.getElem_mapIdx, Array.size_map]
  split
  ·rename_i hk
   rw [hf]
   congr 1
   rw [getElem!_pos d _ (by omega), getElem!_pos (d.map f) _ (by simp; omega)]
   simp
  ·rfl
theorem Srt.lays (g n cap : Nat) (o : List Int) (gb : Nat) (vr : Value) (r : List Int) (base : Nat) (ok okr : Nat → Prop) (w : World)
  (ho : Kd.R (Kd.int .i64) 3 w base ok (.slice (some ⟨g, 0, none⟩) n cap) o) (hb : w.heap[gb]? = some (.cells #[vr] 49 (0, 0))) (hr : Kd.R (Kd.int .u64) 60 w base okr vr r) (hp : 0 < r.length) (hl : r.length < 1152921504606846976) (size : Nat) :
  CmpLays1 Try.prog 37 #[.pointer (some ⟨gb, 0, none⟩)] (Srt.enc (r.length - 1)) (Srt.cmp r (r.length - 1)) g 0 size w := by
 intro mm os dk hs x y
 have hg := Srt.grown (Srt.enc (r.length - 1)) w g mm dk os
 obtain ⟨A, c, hv⟩ := Kd.R_slice hr
 have hne := Kd.R_ne ho hb (by decide)
 have hR := Kd.R_over' (v := .slice (some ⟨g, 0, none⟩) n cap) hr (Kd.R_typed ho) (by decide) hg
 have hW : (sortWorld (Srt.enc (r.length - 1)) w g 0 mm dk os).heap[gb]? = some (.cells #[vr] 49 (0, 0)) := (hg.block gb (blk_lt hb) hne).trans hb
 subst hv
 refine (Srt.closure gb A c r _ ((blk_cell hW 0).trans rfl) (Kd.R_reads' hR).2.2 x.val y.val (by omega) (by omega) hl).mono ?_
 rintro e w' ⟨he, q, hq⟩
 exact ⟨he, q, #[], by rw [hq, grow_empty]⟩
theorem stab_sortStable {α : Type} [Inhabited α] (enc : α → Value) (cf : α → α → Int) (g : Nat) (cb : Array Value) (blk off cap : Nat) (d0 d : Array α) (w0 w : World) (eg : ∀ args w, (callFunc g args).run Try.prog w = .ok (.enter g args) w) (hcmp : CmpLays1 Try.prog g cb enc cf blk off d0.size w0) (R : Row1 enc w0 blk off d0) (hs : d0.size = d.size) (S : SW enc w0 blk off d w) (hsz : d0.size < 1152921504606846976) :
  Calls Try.prog 36 #[.slice (some ⟨blk, off, none⟩) d.size cap, .func (.func g) #[] cb] w fun e w' => e = .returned (.tuple #[]) ∧ SW enc w0 blk off (Stab.stable (ltOf cf) d d.size) w' := by
 have hu43 := Try.underlying68
 have hC := stab_stable enc cf g cb blk off cap d.size d0 d w0 w eg hcmp R hs S (Nat.le_refl _) hsz
 have HC := ka hC
 clear hC hcmp S
 go_enter Try.func36, Try.ntmps36
 go_wp2_with (go_at_call 45; with_reducible refine HC.out.mono ?_; rintro e w' ⟨rfl, T⟩)
 go_end0
 exact ⟨rfl, T⟩
theorem Srt.len (r o : List Int) : (Srt.srt r o).length = o.length := by
 have h : ∀ (n : Nat) (f z : Nat) (d : Array (Fin (r.length - 1 + 1))) (lt), (Stab.merges lt n f z d).size = d.size := by
  intro n f
  induction f with
  | zero => intro z d lt; rfl
  | succ f ih =>
   intro z d lt
   have hp : ∀ (k a : Nat) (d : Array (Fin (r.length - 1 + 1))), (Stab.pass lt n z k a d).2.size = d.size := by
    intro k
    induction k with
    | zero => intro a d; rfl
    | succ k ihk =>
     intro a d
     rw [Stab.pass]
     split
     ·rw [ihk]; exact stab_size _ _ _ _ _ _
     ·rfl
   have hr : (Stab.round lt n z d).size = d.size := by
    rw [Stab.round]
    (try simp only [])
    split
    ·rw [stab_size]; exact hp _ _ _
    ·exact hp _ _ _
   rw [Stab.merges]
   split
   ·rw [ih, hr]
   ·rfl
 have h2 : ∀ (n f a : Nat) (d : Array (Fin (r.length - 1 + 1))) (lt), (Stab.firsts lt n f a d).2.size = d.size := by
  intro n f
  induction f with
  | zero => intro a d lt; rfl
  | succ f ih =>
   intro a d lt
   rw [Stab.firsts]
   split
   ·rw [ih]; exact stab_ins_size _ _ _ _
   ·rfl
 unfold Srt.srt Stab.stable
 simp only [List.length_map, Array.length_toList, h, stab_ins_size, h2, List.size_toArray]
theorem Srt.calls (g n cap : Nat) (o : List Int) (gb : Nat) (vr : Value) (r : List Int) (base : Nat) (ok okr : Nat → Prop) (w : World)
  (ho : Kd.R (Kd.int .i64) 3 w base ok (.slice (some ⟨g, 0, none⟩) n cap) o) (hb : w.heap[gb]? = some (.cells #[vr] 49 (0, 0))) (hr : Kd.R (Kd.int .u64) 60 w base okr vr r) (h : Srt.Ok r o) :
  Calls Try.prog 36 #[.slice (some ⟨g, 0, none⟩) n cap, .func (.func 37) #[] #[.pointer (some ⟨gb, 0, none⟩)]] w fun e w' => e = .returned (.tuple #[]) ∧ Kd.R (Kd.int .i64) 3 w' base ok (.slice (some ⟨g, 0, none⟩) n cap) (Srt.srt r o) ∧ w.grownBy w' (some g) := by
 obtain ⟨h1, h2, h3, h4⟩ := h
 have hp : 0 < r.length := by
  cases o with
  | nil => simp at h2
  | cons x o => have := h1 x (by simp); omega
 obtain rfl := (Kd.R_reads' ho).1
 have hown := Kd.own_of_R ho
 rcases hown.2 with ⟨he, _⟩ | ⟨g', cap', cur, hv, hbase, hcur, hc1, hc2, hc3, hc4⟩
 ·cases he
 cases hv
 rw [Nat.mul_one] at hc4
 obtain ⟨m, hm⟩ : ∃ m, m = r.length - 1 := ⟨_, rfl⟩
 have hval : ∀ x ∈ o, ((Srt.fin m x).val : Int) = x := by
  intro x hx
  have := h1 x hx
  simp only [Srt.fin]
  omega
 have R1 : Row1 (Srt.enc m) w g 0 (o.map (Srt.fin m)).toArray := by
  refine ⟨fun _ => rfl, ?_, blk_lt hcur⟩
  intro j hj
  have hj' : j < o.length := by simpa using hj
  have h0 := holds_of_blockI hcur hc4 j (by simpa using hj')
  refine ⟨h0.1.trans ?_, h0.2⟩
  rw [getElem!_pos _ j (by simpa using hj'), getElem!_pos _ j (by simpa using hj')]
  simp only [Srt.enc, List.getElem_toArray, List.getElem_map]
  rw [hval _ (List.getElem_mem hj')]
 have hL := Srt.lays g o.length cap o gb vr r base ok okr w ho hb hr hp h4 o.length
 rw [← hm] at hL
 have S0 : SW (Srt.enc m) w g 0 (o.map (Srt.fin m)).toArray w := ⟨0, #[], by unfold sortWorld; rw [grow_empty, Sort.ahead_zero, putRow_self _ _ _ _ _ R1.hH]⟩
 have hsz : (o.map (Srt.fin m)).toArray.size = o.length := by simp
 have hC := stab_sortStable (Srt.enc m) (Srt.cmp r m) 37 #[.pointer (some ⟨gb, 0, none⟩)] g 0 cap _ _ w w (fun args w => enters_ Try.func37 (by kernel_rfl) rfl args w) (by rw [hsz]; exact hL) R1 rfl S0 (by rw [hsz]; exact h3)
 rw [hsz] at hC
 refine hC.mono ?_
 rintro e w' ⟨he, q, os, hw⟩
 have hlen : (Srt.srt r o).length = o.length := Srt.len r o
 have hput : w' = grow (putRow (Value.int .i64) (Sort.ahead w q) g 0 (Srt.srt r o).toArray) os := by
  rw [hw]
  unfold sortWorld
  rw [Srt.put (Srt.enc m) (fun x => (x.val : Int)) (fun _ => rfl)]
  congr 2
  subst hm
  unfold Srt.srt
  generalize Stab.stable (ltOf (Srt.cmp r (r.length - 1))) (o.map (Srt.fin (r.length - 1))).toArray o.length = X
  rw [← List.map_toArray, Array.toArray_toList]
 refine ⟨he, ?_, hput ▸ grownBy_sortedI _⟩
 have hrow := ownsRow_sortedI (w := w) (base := base) (g := g) (cap := cap) (n := q) (e := 3) (os := os) (cur := cur) (ss := o) (ts := Srt.srt r o) hlen hbase hcur hc1 hc2 hc3
 rw [← hput] at hrow
 have hrow2 : w'.ownsRow base 3 1 (.slice (some ⟨g, 0, none⟩) o.length cap) (Srt.srt r o).length (encs (Value.int .i64) (Srt.srt r o)) := by rw [hlen]; exact hrow
 exact Kd.R_of_own hrow2 ho.1
end
end
section
open Go.Sort Go.Stab
/-- is place x ahead of place y: more is left there, or as much and it stands earlier -/
def Srt.T (r : List Int) (x y : Int) : Prop := rd r x > rd r y ∨ (rd r x = rd r y ∧ x < y)
instance (r : List Int) (x y : Int) : Decidable (Srt.T r x y) := inferInstanceAs (Decidable (_ ∨ _))
def Srt.upto (n : Nat) : List Int := (List.range n).map (fun i : Nat => (i : Int))
theorem Srt.ok_upto {r : List Int} (h : 0 < r.length) (h2 : r.length < 1152921504606846976) : Srt.Ok r (Srt.upto r.length) := by
 refine ⟨?_, by simp [Srt.upto]; exact h, by simp [Srt.upto]; exact h2, h2⟩
 intro x hx
 obtain ⟨i, hi, rfl⟩ := List.mem_map.mp hx
 have := List.mem_range.mp hi
 omega
theorem Srt.spec {r : List Int} (h : 0 < r.length) (h2 : r.length < 1152921504606846976) :
  (Srt.srt r (Srt.upto r.length)).Perm (Srt.upto r.length) ∧ (Srt.srt r (Srt.upto r.length)).Pairwise (Srt.T r) := by
 have hfin : (Srt.upto r.length).map (Srt.fin (r.length - 1)) = (List.range r.length).map (fun i : Nat => (⟨min i (r.length - 1), by omega⟩ : Fin (r.length - 1 + 1))) := by
  unfold Srt.upto
  rw [List.map_map]
  apply List.map_congr_left
  intro i hi
  apply Fin.ext
  simp [Srt.fin]
 let T' : Fin (r.length - 1 + 1) → Fin (r.length - 1 + 1) → Prop := fun a b => Srt.T r a.val b.val
 have hT : ∀ x y z, T' x y → T' y z → T' x z := by
  intro x y z h1 h2
  simp only [T', Srt.T] at *
  omega
 obtain ⟨d, hd⟩ : ∃ d, d = ((Srt.upto r.length).map (Srt.fin (r.length - 1))).toArray := ⟨_, rfl⟩
 have hd2 := hd.trans (congrArg List.toArray hfin)
 have hsz : d.size = r.length := by rw [hd2]; simp
 have hget : ∀ i, i < r.length → (d[i]!).val = i := by
  intro i hi
  rw [getElem!_pos d i (by omega)]
  simp only [hd2, List.getElem_toArray, List.getElem_map, List.getElem_range]
  omega
 have hcross : ∀ x y, x < y → y < r.length → Cross (ltOf (Srt.cmp r (r.length - 1))) T' d[x]! d[y]! := by
  intro x y hxy hy
  have ex := hget x (by omega)
  have ey := hget y hy
  unfold Cross
  simp only [ltOf, T', Srt.T, Srt.cmp, ex, ey]
  constructor
  ·intro hlt
   have hlt := of_decide_eq_true hlt
   left
   split at hlt
   ·assumption
   ·split at hlt <;> omega
  ·intro hlt
   have hlt := of_decide_eq_false hlt
   split at hlt
   ·omega
   ·omega
 have hs := stable_spec hT r.length d (by omega) hcross
 have hlen : (Srt.upto r.length).length = r.length := by simp [Srt.upto]
 have hdef : Srt.srt r (Srt.upto r.length) = (Stab.stable (ltOf (Srt.cmp r (r.length - 1))) d r.length).toList.map (fun x => (x.val : Int)) := by
  unfold Srt.srt
  rw [hd, hlen]
 rw [hdef]
 obtain ⟨⟨p1, p2, p3⟩, s⟩ := hs
 obtain ⟨d', hd'⟩ : ∃ d', d' = Stab.stable (ltOf (Srt.cmp r (r.length - 1))) d r.length := ⟨_, rfl⟩
 rw [← hd'] at p1 p2 p3 s ⊢
 have ex : ∀ {α : Type} (a : Array α) (n : Nat), n = a.size → a.extract 0 n = a := by
  intro α a n hn
  subst hn
  simp
 have e1 := ex d' r.length (by omega)
 have e2 := ex d r.length (by omega)
 rw [e1, e2] at p3
 constructor
 ·have p4 := p3.map (fun x => (x.val : Int))
  refine p4.trans ?_
  have : d.toList.map (fun x => (x.val : Int)) = Srt.upto r.length := by
   rw [hd2]
   simp only [List.toList_toArray, List.map_map]
   unfold Srt.upto
   apply List.map_congr_left
   intro i hi
   have := List.mem_range.mp hi
   simp
   omega
  rw [this]
 ·rw [List.pairwise_map, List.pairwise_iff_getElem]
  intro i j hi hj hij
  have hi' : i < d'.size := by simpa using hi
  have hj' : j < d'.size := by simpa using hj
  have := s i j (Nat.zero_le _) hij (by omega)
  rw [getElem!_pos d' i hi', getElem!_pos d' j hj'] at this
  simpa using this
end
theorem Srt.uniq {r : List Int} : ∀ {a b : List Int}, a.Perm b → a.Pairwise (Srt.T r) → b.Pairwise (Srt.T r) → a = b
 | [], b, p, _, _ => (List.Perm.nil_eq p)
 | x :: a, [], p, _, _ => by have := p.length_eq; simp at this
 | x :: a, y :: b, p, ha, hb => by
  have ha' := List.pairwise_cons.mp ha
  have hb' := List.pairwise_cons.mp hb
  have hxy : x = y := by
   have h1 : x ∈ y :: b := p.mem_iff.mp (by simp)
   have h2 : y ∈ x :: a := p.mem_iff.mpr (by simp)
   rcases List.mem_cons.mp h1 with h | h
   ·exact h
   ·rcases List.mem_cons.mp h2 with h' | h'
    ·exact h'.symm
    ·have t1 := hb'.1 x h
     have t2 := ha'.1 y h'
     unfold Srt.T at t1 t2
     omega
  subst hxy
  rw [Srt.uniq (List.Perm.cons_inv p) ha'.2 hb'.2]
theorem Srt.is {r L : List Int} (h : 0 < r.length) (h2 : r.length < 1152921504606846976) (p : L.Perm (Srt.upto r.length)) (s : L.Pairwise (Srt.T r)) : Srt.srt r (Srt.upto r.length) = L :=
 Srt.uniq ((Srt.spec h h2).1.trans p.symm) (Srt.spec h h2).2 s

end Go.Proofs.Ytghimjkoaldafaa.P
