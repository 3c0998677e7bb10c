-- Written by a program of this session out of the translation of the seat: Lean functions and the proofs that the Go functions come to them.
import Derived.Test.YtjeghhheenenbaaPx0
import Derived.Test.YtjeghhheenenbaaPx1
import Derived.Test.YtjeghhheenenbaaPx2
import Derived.Test.YtjeghhheenenbaaPx3
namespace Go.Proofs.Ytjeghhheenenbaa.P
open Go.RowKit Go.Proofs.YtjeghhheenenbaaW.PrintWords Go.Proofs.YtjeghhheenenbaaW.PrintLast Go.Proofs.YtjeghhheenenbaaW.PrintMore
attribute [local go_sem] max2_int min2_int max_two min_two max_three min_three max_four min_four   -- for this text's walks alone
set_option linter.unusedVariables false
set_option linter.unusedSimpArgs false

/-! ### split_Shares: function 19, its laws -/
def Shr.qs (a all : Int) (l : List Int) : List Int := l.map (fun w => a * w / all)
def Shr.rs (a all : Int) (l : List Int) : List Int := l.map (fun w => a * w % all)
def Shr.inc (q o : List Int) : List Int := o.foldl (fun q i => q.set i.toNat (rd q i + 1)) q
/-- a total's shares by weights -/
def Shr.sh (a : Int) (l : List Int) : List Int := Shr.inc (Shr.qs a l.sum l) ((Srt.srt (Shr.rs a l.sum l) (Srt.upto l.length)).take (a - (Shr.qs a l.sum l).sum).toNat)
def Shr.may (a : Int) (l : List Int) : Prop := 0 ≤ a ∧ a ≤ 10000000000000 ∧ l.length ≤ 480 ∧ (∀ w ∈ l, 0 ≤ w ∧ w ≤ 10000000000000) ∧ 0 < l.sum
instance (a : Int) (l : List Int) : Decidable (Shr.may a l) := inferInstanceAs (Decidable (_ ∧ _ ∧ _ ∧ _ ∧ _))
def Shr.res (a : Int) (l : List Int) : List Int × Option Int := if Shr.may a l then (Shr.sh a l, none) else ([], some 1)
theorem Shr.sum_nn : ∀ {l : List Int}, (∀ w ∈ l, 0 ≤ w ∧ w ≤ 10000000000000) → 0 ≤ l.sum ∧ l.sum ≤ 10000000000000 * (l.length : Int)
 | [], _ => by simp
 | x :: r, h => by
  have := Shr.sum_nn (l := r) (fun w hw => h w (by simp [hw]))
  have := h x (by simp)
  simp only [List.sum_cons, List.length_cons]
  omega
theorem Shr.le_sum : ∀ {l : List Int}, (∀ w ∈ l, 0 ≤ w) → ∀ w ∈ l, w ≤ l.sum
 | [], _, w, hw => by simp at hw
 | x :: r, h, w, hw => by
  have nn : ∀ {l : List Int}, (∀ w ∈ l, 0 ≤ w) → 0 ≤ l.sum := by
   intro l
   induction l with
   | nil => intro _; simp
   | cons y s ih => intro hl; have := hl y (by simp); have := ih (fun w hw => hl w (by simp [hw])); simp only [List.sum_cons]; omega
  have hx := h x (by simp)
  have hr := nn (l := r) (fun w hw => h w (by simp [hw]))
  simp only [List.sum_cons]
  rcases List.mem_cons.mp hw with rfl | hw
  ·omega
  ·have := Shr.le_sum (l := r) (fun w hw => h w (by simp [hw])) w hw
   omega
theorem Shr.left_eq (a all : Int) (h : 0 < all) : ∀ l : List Int, a * l.sum = all * (Shr.qs a all l).sum + (Shr.rs a all l).sum
 | [] => by simp [Shr.qs, Shr.rs]
 | x :: r => by
  have := Shr.left_eq a all h r
  have e := Int.mul_ediv_add_emod (a * x) all
  simp only [Shr.qs, Shr.rs, List.map_cons, List.sum_cons, Int.mul_add] at *
  omega
theorem Shr.rs_sum (a all : Int) (h : 0 < all) : ∀ l : List Int, 0 ≤ (Shr.rs a all l).sum ∧ (l ≠ [] → (Shr.rs a all l).sum < all * (l.length : Int))
 | [] => by simp [Shr.rs]
 | x :: r => by
  obtain ⟨h1, h2⟩ := Shr.rs_sum a all h r
  have e1 := Int.emod_nonneg (a * x) (show all ≠ 0 by omega)
  have e2 := Int.emod_lt_of_pos (a * x) h
  simp only [Shr.rs, List.map_cons, List.sum_cons, List.length_cons] at *
  refine ⟨by omega, fun _ => ?_⟩
  have e3 : all * ((r.length + 1 : Nat) : Int) = all * (r.length : Int) + all := by
   rw [show ((r.length + 1 : Nat) : Int) = (r.length : Int) + 1 by omega, Int.mul_add, Int.mul_one]
  rw [e3]
  cases r with
  | nil => simp at *; omega
  | cons y s => have := h2 (by simp); omega
theorem Shr.left_in {a : Int} {l : List Int} (h : Shr.may a l) : 0 ≤ a - (Shr.qs a l.sum l).sum ∧ a - (Shr.qs a l.sum l).sum < (l.length : Int) := by
 obtain ⟨h1, h2, h3, h4, h5⟩ := h
 have hl : l ≠ [] := by rintro rfl; simp at h5
 have e := Shr.left_eq a l.sum h5 l
 obtain ⟨r1, r2⟩ := Shr.rs_sum a l.sum h5 l
 have r2 := r2 hl
 have e2 : l.sum * (a - (Shr.qs a l.sum l).sum) = (Shr.rs a l.sum l).sum := by rw [Int.mul_sub, Int.mul_comm l.sum a]; omega
 constructor
 ·refine Classical.byContradiction fun hn => ?_
  have := Int.mul_le_mul_of_nonneg_left (show a - (Shr.qs a l.sum l).sum ≤ -1 by omega) (Int.le_of_lt h5)
  omega
 ·refine Classical.byContradiction fun hn => ?_
  have := Int.mul_le_mul_of_nonneg_left (show (l.length : Int) ≤ a - (Shr.qs a l.sum l).sum by omega) (Int.le_of_lt h5)
  omega
theorem split_Shares.sum (n : Nat) : ∀ (k i : Nat) (a : Int) (l : List Int), 0 ≤ a ∧ a ≤ 10000000000000 → l.length = i + n → l.length ≤ 480 → (∀ w ∈ l.take i, 0 ≤ w ∧ w ≤ 10000000000000) →
  split_Shares.l0 (k + n + 1) a l (l.take i).sum l (l.length : Int) i = if ∀ w ∈ l.drop i, 0 ≤ w ∧ w ≤ 10000000000000 then (if l.sum = 0 then some ([], some 1) else split_Shares.l1 k a l.sum (List.replicate l.length 0) a [] l (l.length : Int) 0 (List.replicate l.length 0)) else some ([], some 1) := by
 induction n with
 | zero =>
  intro k i a l ha hl hm hok
  simp only [split_Shares.l0]
  rw [if_neg (by omega), List.drop_eq_nil_of_le (by omega), List.take_of_length_le (by omega)]
  rw [if_pos (show ∀ w ∈ ([] : List Int), 0 ≤ w ∧ w ≤ 10000000000000 by simp)]
  by_cases hz : l.sum = 0
  ·rw [if_pos hz, if_pos hz]
  ·rw [if_neg hz, if_neg hz, if_pos (by omega), if_pos (by simp; omega)]
   rfl
 | succ n ih =>
  intro k i a l ha hl hm hok
  have hget : l.getD i 0 = l[i]'(by omega) := by rw [List.getD_eq_getElem?_getD, List.getElem?_eq_getElem (by omega)]; rfl
  have hdrop : l.drop i = l.getD i 0 :: l.drop (i + 1) := by rw [List.drop_eq_getElem_cons (by omega), hget]
  have htake : l.take (i + 1) = l.take i ++ [l.getD i 0] := by rw [List.take_add_one, List.getElem?_eq_getElem (by omega), hget]; rfl
  have hr : rd l (i : Int) = l.getD i 0 := rfl
  have ih' := ih k (i + 1) a l ha (by omega) hm
  have hs := Shr.sum_nn hok
  have hlt : (l.take i).length ≤ 480 := by simp; omega
  rw [htake, U.sum_add] at ih'
  obtain ⟨K, hK⟩ : ∃ K, K = k + n + 1 := ⟨_, rfl⟩
  rw [← hK] at ih'
  rw [show k + (n + 1) + 1 = K + 1 by omega]
  simp only [split_Shares.l0]
  rw [if_pos (by omega), if_pos (by omega), if_pos (by omega), hr, hdrop]
  generalize l.getD i 0 = x at *
  by_cases h1 : x < 0
  ·rw [if_pos h1, if_neg (by intro h; have := h x (by simp); omega)]
  ·rw [if_neg h1]
   by_cases h2 : x > 10000000000000
   ·rw [if_pos h2, if_neg (by intro h; have := h x (by simp); omega)]
   ·rw [if_neg h2, M.wrapu_id (n := x) (by omega) (by omega), M.wrapu_id (n := (l.take i).sum + x) (by omega) (by omega), M.w64_id (n := (i : Int) + 1) (by omega) (by omega)]
    have e : (l.take i).sum + [x].sum = (l.take i).sum + x := by simp
    rw [e] at ih'
    have := ih' (by
     intro w hw
     rcases List.mem_append.mp hw with h | h
     ·exact hok w h
     ·simp at h; omega)
    rw [show ((i : Int) + 1) = ((i + 1 : Nat) : Int) by omega, this]
    have hiff : (∀ w ∈ l.drop (i + 1), 0 ≤ w ∧ w ≤ 10000000000000) ↔ (∀ w ∈ x :: l.drop (i + 1), 0 ≤ w ∧ w ≤ 10000000000000) := by
     constructor
     ·intro h w hw
      rcases List.mem_cons.mp hw with rfl | hw
      ·omega
      ·exact h w hw
     ·intro h w hw
      exact h w (by simp [hw])
    by_cases hc : ∀ w ∈ l.drop (i + 1), 0 ≤ w ∧ w ≤ 10000000000000
    ·rw [if_pos hc, if_pos (hiff.mp hc)]
    ·rw [if_neg hc, if_neg (fun h => hc (hiff.mpr h))]

theorem split_Shares.parts (n : Nat) : ∀ (k i : Nat) (a all : Int) (l : List Int), 0 ≤ a ∧ a ≤ 10000000000000 → l.length = i + n → l.length ≤ 480 → (∀ w ∈ l, 0 ≤ w ∧ w ≤ all) → 0 < all ∧ all ≤ 10000000000000 * 480 →
  split_Shares.l1 (k + n + 1) a all ((Shr.qs a all l).take i ++ List.replicate n 0) (a - ((Shr.qs a all l).take i).sum) (Srt.upto i) l (l.length : Int) i ((Shr.rs a all l).take i ++ List.replicate n 0) =
   split_Shares.l1 (k + 1) a all (Shr.qs a all l) (a - (Shr.qs a all l).sum) (Srt.upto l.length) l (l.length : Int) (l.length : Int) (Shr.rs a all l) := by
 induction n with
 | zero =>
  intro k i a all l ha hl hm hok hall
  have h1 : (Shr.qs a all l).take i = Shr.qs a all l := List.take_of_length_le (by simp [Shr.qs]; omega)
  have h2 : (Shr.rs a all l).take i = Shr.rs a all l := List.take_of_length_le (by simp [Shr.rs]; omega)
  have h3 : i = l.length := by omega
  rw [h1, h2, h3]
  simp
 | succ n ih =>
  intro k i a all l ha hl hm hok hall
  have hx := hok (l.getD i 0) (by rw [List.getD_eq_getElem?_getD, List.getElem?_eq_getElem (by omega)]; exact List.getElem_mem _)
  have ih' := ih k (i + 1) a all l ha (by omega) hm hok hall
  have q1 : (Shr.qs a all l).take (i + 1) = (Shr.qs a all l).take i ++ [a * l.getD i 0 / all] := by
   rw [List.take_add_one]
   simp [Shr.qs, List.getD_eq_getElem?_getD, List.getElem?_eq_getElem (show i < l.length by omega)]
  have r1 : (Shr.rs a all l).take (i + 1) = (Shr.rs a all l).take i ++ [a * l.getD i 0 % all] := by
   rw [List.take_add_one]
   simp [Shr.rs, List.getD_eq_getElem?_getD, List.getElem?_eq_getElem (show i < l.length by omega)]
  have u1 : Srt.upto (i + 1) = Srt.upto i ++ [(i : Int)] := by simp [Srt.upto, List.range_succ]
  have lq : ((Shr.qs a all l).take i).length = i := by simp [Shr.qs]; omega
  have lr : ((Shr.rs a all l).take i).length = i := by simp [Shr.rs]; omega
  have hr : rd l (i : Int) = l.getD i 0 := rfl
  rw [q1, r1, u1, U.sum_add] at ih'
  obtain ⟨K, hK⟩ : ∃ K, K = k + n + 1 := ⟨_, rfl⟩
  rw [← hK] at ih'
  rw [show k + (n + 1) + 1 = K + 1 by omega]
  conv => lhs; simp only [split_Shares.l1]
  rw [if_pos (by omega), if_pos (by omega), if_pos (by omega), hr]
  generalize l.getD i 0 = x at *
  have p0 : 0 ≤ a * x := Int.mul_nonneg ha.1 hx.1
  have p1 : a * x ≤ a * all := Int.mul_le_mul_of_nonneg_left hx.2 ha.1
  have d0 : 0 ≤ a * x / all := Int.ediv_nonneg p0 (by omega)
  have d1 : a * x / all ≤ a := by
   have : a * x / all ≤ a * all / all := Int.ediv_le_ediv hall.1 p1
   rw [Int.mul_ediv_cancel _ (by omega)] at this
   exact this
  rw [M.wrapu_id (n := a) (by omega) (by omega), M.wrapu_id (n := x) (by omega) (by omega)]
  have hmul : bits_Mul64_s.f a x = some (a * x / 18446744073709551616, a * x % 18446744073709551616) := by
   unfold bits_Mul64_s.f
   rw [if_pos ⟨by omega, by omega, by omega, by omega⟩]
  have hdiv : bits_Div64_s.f (a * x / 18446744073709551616) (a * x % 18446744073709551616) all = some (a * x / all, a * x % all) := by
   have e1 : a * x ≤ 10000000000000 * (10000000000000 * 480) := by
    have := Int.mul_le_mul ha.2 (show x ≤ 10000000000000 * 480 by omega) hx.1 (by decide)
    omega
   have e2 : a * x < all * 18446744073709551616 := by
    have : a * all ≤ 10000000000000 * all := Int.mul_le_mul_of_nonneg_right ha.2 (by omega)
    omega
   have e3 : a * x / 18446744073709551616 < all := Int.ediv_lt_of_lt_mul (by decide) e2
   have e4 : a * x / 18446744073709551616 * 18446744073709551616 + a * x % 18446744073709551616 = a * x := by omega
   unfold bits_Div64_s.f
   rw [if_pos ⟨by omega, by omega, by omega, by omega, by omega⟩, e4]
  rw [hmul, Option.bind_some, hdiv, Option.bind_some]
  have hset : ∀ (p : List Int) (y : Int), p.length = i → (p ++ List.replicate (n + 1) 0).set (i : Int).toNat y = (p ++ [y]) ++ List.replicate n 0 := by
   intro p y hp
   rw [show ((i : Int)).toNat = i from rfl, List.set_append_right _ _ (by omega), hp, Nat.sub_self, List.replicate_succ, List.set_cons_zero]
   simp
  rw [if_pos (by simp [lq]; omega), if_pos (by simp [lr]; omega), if_pos (by simp [Srt.upto]; omega), hset _ _ lq, hset _ _ lr, M.w64_id (n := a * x / all) (by omega) (by omega), M.w64_id (n := (i : Int) + 1) (by omega) (by omega)]
  have hs0 : 0 ≤ ((Shr.qs a all l).take i).sum ∧ ((Shr.qs a all l).take i).sum ≤ 10000000000000 * 480 := by
   have : ∀ w ∈ (Shr.qs a all l).take i, 0 ≤ w ∧ w ≤ 10000000000000 := by
    intro w hw
    obtain ⟨y, hy, rfl⟩ := List.mem_map.mp (List.mem_of_mem_take hw)
    have hy := hok y hy
    have p0 : 0 ≤ a * y := Int.mul_nonneg ha.1 hy.1
    have p1 : a * y ≤ a * all := Int.mul_le_mul_of_nonneg_left hy.2 ha.1
    have d1 : a * y / all ≤ a * all / all := Int.ediv_le_ediv hall.1 p1
    rw [Int.mul_ediv_cancel _ (by omega)] at d1
    have d0 : 0 ≤ a * y / all := Int.ediv_nonneg p0 (by omega)
    omega
   have h := Shr.sum_nn this
   rw [lq] at h
   omega
  rw [M.w64_id (by omega) (by omega)]
  have e : a - (((Shr.qs a all l).take i).sum + [a * x / all].sum) = a - ((Shr.qs a all l).take i).sum - a * x / all := by simp; omega
  rw [e] at ih'
  exact ih'
theorem Shr.inc_len : ∀ (o q : List Int), (Shr.inc q o).length = q.length
 | [], q => rfl
 | x :: o, q => by
  have := Shr.inc_len o (q.set x.toNat (rd q x + 1))
  simp only [Shr.inc, List.foldl_cons] at *
  rw [this]
  simp
theorem split_Shares.give (n : Nat) : ∀ (k i : Nat) (q o : List Int), o.length = i + n → o.length ≤ 480 → (∀ x ∈ o, 0 ≤ x ∧ x < (q.length : Int)) → (∀ v ∈ q, -1000 ≤ v ∧ v + n ≤ 100000000000000) →
  split_Shares.l2 (k + n + 1) q o (o.length : Int) i = some (Shr.inc q (o.drop i), none) := by
 induction n with
 | zero =>
  intro k i q o hl hm ho hq
  simp only [split_Shares.l2]
  rw [if_neg (by omega), List.drop_eq_nil_of_le (by omega)]
  rfl
 | succ n ih =>
  intro k i q o hl hm ho hq
  have hget : o.getD i 0 = o[i]'(by omega) := by rw [List.getD_eq_getElem?_getD, List.getElem?_eq_getElem (by omega)]; rfl
  have hx := ho (o.getD i 0) (by rw [hget]; exact List.getElem_mem _)
  have hdrop : o.drop i = o.getD i 0 :: o.drop (i + 1) := by rw [List.drop_eq_getElem_cons (by omega), hget]
  have hr : rd o (i : Int) = o.getD i 0 := rfl
  have hv := hq (rd q (o.getD i 0)) (by
   unfold rd
   rw [List.getD_eq_getElem?_getD, List.getElem?_eq_getElem (by omega)]
   exact List.getElem_mem _)
  obtain ⟨K, hK⟩ : ∃ K, K = k + n + 1 := ⟨_, rfl⟩
  have ih' := fun q => ih k (i + 1) q o (by omega) hm
  rw [← hK] at ih'
  rw [show k + (n + 1) + 1 = K + 1 by omega]
  simp only [split_Shares.l2]
  rw [if_pos (by omega), if_pos (by omega), if_pos (by omega), hr, hdrop, if_pos hx.1, if_pos hx.2, M.w64_id (n := (i : Int) + 1) (by omega) (by omega), M.w64_id (n := rd q (o.getD i 0) + 1) (by omega) (by omega)]
  refine ih' _ ?_ ?_
  ·intro x hx
   rw [List.length_set]
   exact ho x hx
  ·intro v hv2
   rcases List.mem_or_eq_of_mem_set hv2 with h | h
   ·have := hq v h; omega
   ·subst h; omega
theorem split_Shares.num (k : Nat) (a : Int) (l : List Int) (ha : M.In a) (hl : ∀ w ∈ l, M.In w) (hm : l.length ≤ 100000) (hk : 2000 ≤ k) : split_Shares.f k a l = some (Shr.res a l) := by
 have hj : ∀ (b : Bool), b = true → ∀ k, 1 ≤ k → split_Shares.j0 k a l b = some ([], some 1) := by
  intro b hb k hk
  obtain ⟨j, rfl⟩ : ∃ j, k = j + 1 := ⟨k - 1, by omega⟩
  subst hb
  simp [split_Shares.j0]
 unfold split_Shares.f Shr.res
 by_cases h1 : a < 0
 ·rw [if_pos h1, hj true rfl k (by omega), if_neg (by unfold Shr.may; omega)]
 ·rw [if_neg h1]
  by_cases h2 : a > 10000000000000
  ·rw [if_pos h2, hj true rfl k (by omega), if_neg (by unfold Shr.may; omega)]
  ·rw [if_neg h2]
   by_cases h3 : (l.length : Int) > 480
   ·rw [hj _ (decide_eq_true h3) k (by omega), if_neg (by unfold Shr.may; omega)]
   ·rw [decide_eq_false h3]
    obtain ⟨k0, hk0⟩ : ∃ k0, k = (k0 + l.length + 1) + 1 := ⟨k - l.length - 2, by omega⟩
    rw [hk0]
    obtain ⟨K, hK⟩ : ∃ K, K = k0 + l.length + 1 := ⟨_, rfl⟩
    have s0 := split_Shares.sum l.length k0 0 a l (by omega) (by omega) (by omega) (by simp)
    rw [← hK] at s0 ⊢
    simp only [split_Shares.j0]
    rw [if_neg (by decide)]
    have e0 : split_Shares.l0 K a l 0 l (l.length : Int) 0 = _ := s0
    rw [e0, List.drop_zero]
    by_cases h4 : ∀ w ∈ l, 0 ≤ w ∧ w ≤ 10000000000000
    ·rw [if_pos h4]
     have hs := Shr.sum_nn h4
     by_cases h5 : l.sum = 0
     ·rw [if_pos h5, if_neg (by unfold Shr.may; omega)]
     ·have hmay : Shr.may a l := ⟨by omega, by omega, by omega, h4, by omega⟩
      have hleft := Shr.left_in hmay
      have hlen : 0 < l.length := by omega
      rw [if_neg h5, if_pos hmay]
      obtain ⟨k1, hk1⟩ : ∃ k1, k0 = k1 + l.length + 1 := ⟨k0 - l.length - 1, by omega⟩
      have hle : ∀ w ∈ l, 0 ≤ w ∧ w ≤ l.sum := fun w hw => ⟨(h4 w hw).1, Shr.le_sum (fun w hw => (h4 w hw).1) w hw⟩
      have p0 := split_Shares.parts l.length k1 0 a l.sum l (by omega) (by omega) (by omega) hle (by omega)
      have p1 : split_Shares.l1 k0 a l.sum (List.replicate l.length 0) a [] l (l.length : Int) 0 (List.replicate l.length 0) = split_Shares.l1 (k1 + 1) a l.sum (Shr.qs a l.sum l) (a - (Shr.qs a l.sum l).sum) (Srt.upto l.length) l (l.length : Int) (l.length : Int) (Shr.rs a l.sum l) := by
       rw [hk1]
       have := p0
       simp only [List.take_zero, List.nil_append, List.sum_nil, Int.sub_zero] at this
       exact this
      rw [p1]
      have lq : (Shr.qs a l.sum l).length = l.length := by simp [Shr.qs]
      have lr : (Shr.rs a l.sum l).length = l.length := by simp [Shr.rs]
      have hok := Srt.ok_upto (r := Shr.rs a l.sum l) (by omega) (by omega)
      have hsp := Srt.spec (r := Shr.rs a l.sum l) (by omega) (by omega)
      rw [lr] at hok hsp
      have lsrt := hsp.1.length_eq
      have lup : (Srt.upto l.length).length = l.length := by simp [Srt.upto]
      rw [lup] at lsrt
      simp only [split_Shares.l1]
      rw [if_neg (by omega), if_pos (show Srt.ok _ _ = true from decide_eq_true hok), if_pos hleft.1, if_pos (by omega), Option.bind_some]
      have lt : ((Srt.srt (Shr.rs a l.sum l) (Srt.upto l.length)).take (a - (Shr.qs a l.sum l).sum).toNat).length ≤ 480 := by simp; omega
      obtain ⟨o, hoo⟩ : ∃ o, o = (Srt.srt (Shr.rs a l.sum l) (Srt.upto l.length)).take (a - (Shr.qs a l.sum l).sum).toNat := ⟨_, rfl⟩
      have hres : Shr.sh a l = Shr.inc (Shr.qs a l.sum l) o := by rw [hoo]; rfl
      rw [hres]
      rw [← hoo] at lt ⊢
      obtain ⟨k2, hk2⟩ : ∃ k2, k1 = k2 + o.length + 1 := ⟨k1 - o.length - 1, by omega⟩
      rw [hk2]
      have g0 := split_Shares.give o.length k2 0 (Shr.qs a l.sum l) o (Nat.zero_add _).symm lt (by
       intro x hx
       rw [hoo] at hx
       have hx := hsp.1.mem_iff.mp (List.mem_of_mem_take hx)
       obtain ⟨i, hi, rfl⟩ := List.mem_map.mp hx
       have := List.mem_range.mp hi
       omega) (by
       intro v hv
       obtain ⟨y, hy, rfl⟩ := List.mem_map.mp hv
       have hy := hle y hy
       have p0 : 0 ≤ a * y := Int.mul_nonneg (by omega) hy.1
       have p1 : a * y ≤ a * l.sum := Int.mul_le_mul_of_nonneg_left hy.2 (by omega)
       have d1 : a * y / l.sum ≤ a * l.sum / l.sum := Int.ediv_le_ediv (by omega) p1
       rw [Int.mul_ediv_cancel _ (by omega)] at d1
       have d0 : 0 ≤ a * y / l.sum := Int.ediv_nonneg p0 (by omega)
       omega)
      exact g0
    ·rw [if_neg h4, if_neg (by unfold Shr.may; intro h; exact h4 h.2.2.2.1)]
theorem Shr.up : Shr.res 100 [1, 1, 1] = ([34, 33, 33], none) := by
 have e : Srt.srt [1, 1, 1] (Srt.upto 3) = [0, 1, 2] := Srt.is (r := [1, 1, 1]) (by decide) (by decide) (by decide) (by decide)
 have q : Shr.qs 100 3 [1, 1, 1] = [33, 33, 33] := by decide
 have r : Shr.rs 100 3 [1, 1, 1] = [1, 1, 1] := by decide
 have s : ([1, 1, 1] : List Int).sum = 3 := by decide
 have l : ([1, 1, 1] : List Int).length = 3 := rfl
 unfold Shr.res Shr.sh
 rw [if_pos (by decide), s, q, r, l, e]
 decide
theorem Shr.res_len (a : Int) (l : List Int) : (Shr.res a l).1.length = if Shr.may a l then l.length else 0 := by
 unfold Shr.res
 split
 ·simp [Shr.sh, Shr.inc_len, Shr.qs]
 ·rfl
theorem Shr.rd_set (q : List Int) (x y : Int) (j : Nat) (hx : 0 ≤ x ∧ x < (q.length : Int)) : rd (q.set x.toNat y) (j : Int) = if x = (j : Int) then y else rd q (j : Int) := by
 unfold rd
 simp only [List.getD_eq_getElem?_getD, Int.toNat_natCast]
 by_cases h : x = (j : Int)
 ·subst h
  rw [if_pos rfl]
  simp only [Int.toNat_natCast]
  rw [List.getElem?_set_self (by omega)]; rfl
 ·rw [if_neg h, List.getElem?_set_ne (by omega)]
theorem Shr.inc_get : ∀ (o q : List Int), o.Nodup → (∀ x ∈ o, 0 ≤ x ∧ x < (q.length : Int)) → ∀ j : Nat, rd (Shr.inc q o) (j : Int) = rd q (j : Int) + if (j : Int) ∈ o then 1 else 0
 | [], q, _, _, j => by simp [Shr.inc]
 | x :: o, q, hn, hr, j => by
  have hn' := List.nodup_cons.mp hn
  have hx := hr x (by simp)
  have ih := Shr.inc_get o (q.set x.toNat (rd q x + 1)) hn'.2 (fun y hy => by rw [List.length_set]; exact hr y (by simp [hy])) j
  have e : Shr.inc q (x :: o) = Shr.inc (q.set x.toNat (rd q x + 1)) o := rfl
  rw [e, ih, Shr.rd_set q x _ j hx]
  by_cases h : x = (j : Int)
  ·subst h
   rw [if_pos rfl, if_neg hn'.1, if_pos (by simp)]
   omega
  ·rw [if_neg h]
   have : ((j : Int) ∈ x :: o) ↔ ((j : Int) ∈ o) := by
    constructor
    ·intro hm
     rcases List.mem_cons.mp hm with h' | h'
     ·exact absurd h'.symm h
     ·exact h'
    ·intro hm; simp [hm]
   by_cases hm : (j : Int) ∈ o
   ·rw [if_pos hm, if_pos (this.mpr hm)]
   ·rw [if_neg hm, if_neg (fun h2 => hm (this.mp h2))]
theorem Shr.sum_set : ∀ (q : List Int) (i : Nat) (y : Int), i < q.length → (q.set i y).sum = q.sum - q.getD i 0 + y
 | [], i, y, h => by simp at h
 | x :: q, 0, y, h => by simp; omega
 | x :: q, i + 1, y, h => by
  have := Shr.sum_set q i y (by simpa using h)
  simp only [List.set_cons_succ, List.sum_cons, this]
  simp
  omega
theorem Shr.inc_sum : ∀ (o q : List Int), (∀ x ∈ o, 0 ≤ x ∧ x < (q.length : Int)) → (Shr.inc q o).sum = q.sum + o.length
 | [], q, _ => by simp [Shr.inc]
 | x :: o, q, hr => by
  have hx := hr x (by simp)
  have ih := Shr.inc_sum o (q.set x.toNat (rd q x + 1)) (fun y hy => by rw [List.length_set]; exact hr y (by simp [hy]))
  have e : Shr.inc q (x :: o) = Shr.inc (q.set x.toNat (rd q x + 1)) o := rfl
  rw [e, ih, Shr.sum_set _ _ _ (by omega)]
  unfold rd
  simp only [List.length_cons]
  omega
def Shr.ord (a : Int) (l : List Int) : List Int := Srt.srt (Shr.rs a l.sum l) (Srt.upto l.length)
def Shr.left (a : Int) (l : List Int) : Int := a - (Shr.qs a l.sum l).sum
theorem Srt.mem_upto {n : Nat} {x : Int} : x ∈ Srt.upto n ↔ 0 ≤ x ∧ x < (n : Int) := by
 unfold Srt.upto
 constructor
 ·intro h
  obtain ⟨i, hi, rfl⟩ := List.mem_map.mp h
  have := List.mem_range.mp hi
  omega
 ·intro h
  exact List.mem_map.mpr ⟨x.toNat, List.mem_range.mpr (by omega), by omega⟩
theorem Shr.order {a : Int} {l : List Int} (h : Shr.may a l) : (Shr.ord a l).Perm (Srt.upto l.length) ∧ (Shr.ord a l).Pairwise (Srt.T (Shr.rs a l.sum l)) ∧ (Shr.ord a l).Nodup ∧ (Shr.ord a l).length = l.length := by
 have lr : (Shr.rs a l.sum l).length = l.length := by simp [Shr.rs]
 have hl : 0 < l.length := by
  cases l with
  | nil => have := h.2.2.2.2; simp at this
  | cons x r => simp
 have hsp := Srt.spec (r := Shr.rs a l.sum l) (by omega) (by have := h.2.2.1; omega)
 rw [lr] at hsp
 refine ⟨hsp.1, hsp.2, ?_, ?_⟩
 ·refine List.Pairwise.imp ?_ hsp.2
  intro x y ht e
  subst e
  unfold Srt.T at ht
  omega
 ·have := hsp.1.length_eq
  rw [show (Srt.upto l.length).length = l.length by simp [Srt.upto]] at this
  exact this
theorem Shr.get {a : Int} {l : List Int} (h : Shr.may a l) (j : Nat) (hj : j < l.length) : rd (Shr.sh a l) (j : Int) = a * rd l (j : Int) / l.sum + if (j : Int) ∈ (Shr.ord a l).take (Shr.left a l).toNat then 1 else 0 := by
 have ho := Shr.order h
 have e : Shr.sh a l = Shr.inc (Shr.qs a l.sum l) ((Shr.ord a l).take (Shr.left a l).toNat) := rfl
 rw [e, Shr.inc_get]
 ·congr 1
  simp [rd, Shr.qs, List.getD_eq_getElem?_getD, List.getElem?_eq_getElem hj]
 ·exact List.Pairwise.sublist (List.take_sublist _ _) ho.2.2.1
 ·intro x hx
  have := Srt.mem_upto.mp (ho.1.mem_iff.mp (List.mem_of_mem_take hx))
  simpa [Shr.qs] using this
theorem Shr.sum {a : Int} {l : List Int} (h : Shr.may a l) : (Shr.sh a l).sum = a := by
 have ho := Shr.order h
 have hl := Shr.left_in h
 have e : Shr.sh a l = Shr.inc (Shr.qs a l.sum l) ((Shr.ord a l).take (Shr.left a l).toNat) := rfl
 rw [e, Shr.inc_sum]
 ·rw [List.length_take, ho.2.2.2]
  unfold Shr.left
  omega
 ·intro x hx
  have := Srt.mem_upto.mp (ho.1.mem_iff.mp (List.mem_of_mem_take hx))
  simpa [Shr.qs] using this
/-- an earlier place with as much left is ahead -/
theorem Shr.ahead {a : Int} {l : List Int} (h : Shr.may a l) (i j : Nat) (hij : i < j) (hj : j < l.length) (he : rd (Shr.rs a l.sum l) (i : Int) = rd (Shr.rs a l.sum l) (j : Int)) (n : Nat) (hm : (j : Int) ∈ (Shr.ord a l).take n) : (i : Int) ∈ (Shr.ord a l).take n := by
 have ho := Shr.order h
 obtain ⟨p, hp, hpe⟩ := List.mem_iff_getElem.mp hm
 have hp' : p < n ∧ p < (Shr.ord a l).length := by simp at hp; omega
 have hi : (i : Int) ∈ Shr.ord a l := ho.1.mem_iff.mpr (Srt.mem_upto.mpr ⟨by omega, by omega⟩)
 obtain ⟨q, hq, hqe⟩ := List.mem_iff_getElem.mp hi
 rw [List.getElem_take] at hpe
 have hqp : q < p := by
  refine Classical.byContradiction fun hn => ?_
  rcases Nat.lt_or_ge p q with h1 | h1
  ·have := (List.pairwise_iff_getElem.mp ho.2.1) p q hp'.2 hq h1
   rw [hpe, hqe] at this
   unfold Srt.T at this
   omega
  ·have : p = q := by omega
   subst this
   rw [hpe] at hqe
   omega
 refine List.mem_iff_getElem.mpr ⟨q, by simp; omega, ?_⟩
 rw [List.getElem_take]
 exact hqe

/-! ### bits_Mul32: function 30 -/
def bits_Mul32.f (a0 : Int) (a1 : Int) : Option (Int × Int) := some (((IntKind.u64.wrap ((IntKind.u64.wrap (a0)) * (IntKind.u64.wrap (a1)))) / 4294967296) % 4294967296, (IntKind.u64.wrap ((IntKind.u64.wrap (a0)) * (IntKind.u64.wrap (a1)))) % 4294967296)
set_option maxHeartbeats 8000000 in
set_option maxRecDepth 100000 in
theorem bits_Mul32.calls (a0 : Int) (a1 : Int) (r1 : Int) (r2 : Int) (w : World) (h : bits_Mul32.f a0 a1 = some (r1, r2)) :
  Calls Try.prog 30 #[.int .u32 a0, .int .u32 a1] w fun e w' => e = .returned (.tuple #[.int .u32 r1, .int .u32 r2]) ∧ Drawn0 w w' := by
 have H : (some (((IntKind.u64.wrap ((IntKind.u64.wrap (a0)) * (IntKind.u64.wrap (a1)))) / 4294967296) % 4294967296, (IntKind.u64.wrap ((IntKind.u64.wrap (a0)) * (IntKind.u64.wrap (a1)))) % 4294967296)) = some (r1, r2) := h
 clear h
 simp only [Option.some.injEq, Prod.mk.injEq] at H
 obtain ⟨rfl, rfl⟩ := H
 go_enter Try.func30, Try.ntmps30
 go_wp2
 go_ret2
 exact ⟨by first | rfl | (simp; done) | (simp [*]; done), by repeat (first | exact Drawn0.refl _ | apply Drawn0.step)⟩

/-! ### bits_Mul: function 26 -/
def bits_Mul.f (a0 : Int) (a1 : Int) : Option (Int × Int) := (bits_Mul64_s.f a0 a1).bind fun bt432 => (some (bt432.1, bt432.2))
set_option maxHeartbeats 8000000 in
set_option maxRecDepth 100000 in
theorem bits_Mul.calls (a0 : Int) (a1 : Int) (r1 : Int) (r2 : Int) (w : World) (h : bits_Mul.f a0 a1 = some (r1, r2)) :
  Calls Try.prog 26 #[.int .u64 a0, .int .u64 a1] w fun e w' => e = .returned (.tuple #[.int .u64 r1, .int .u64 r2]) ∧ Drawn0 w w' := by
 have H : ((bits_Mul64_s.f a0 a1).bind fun bt432 => (some (bt432.1, bt432.2))) = some (r1, r2) := h
 clear h
 replace H := Option.bind_eq_some_iff.mp H
 obtain ⟨⟨t432, t433⟩, A30, H⟩ := H
 replace H : (some (t432, t433)) = some (r1, r2) := H
 have A3 := ka A30
 clear A30
 simp only [Option.some.injEq, Prod.mk.injEq] at H
 obtain ⟨rfl, rfl⟩ := H
 go_enter Try.func26, Try.ntmps26
 go_wp2_with (first | ((with_reducible refine gate_callee (f := 21) rfl ?_); refine kg (some 25) rfl rfl Try.func21 (by kernel_rfl) rfl #[.int .u64 a0, .int .u64 a1] rfl ?_; (with_reducible refine (bits_Mul64_s.calls a0 a1 t432 t433 _ A3.out).mono ?_); rintro e w' ⟨rfl, ⟨nd, rfl⟩⟩; refine ⟨_, rfl, ?_⟩))
 go_ret2
 exact ⟨by first | rfl | (simp; done) | (simp [*]; done), by repeat (first | exact Drawn0.refl _ | apply Drawn0.step)⟩

/-! ### slices_Repeat_int64_int64: function 20 -/
def slices_Repeat_int64_int64.f (l0 : List Int) (a1 : Int) : Option (List Int) := if l0.length = 1 ∧ 1 ≤ a1 ∧ a1 ≤ 1000000 then some (List.replicate a1.toNat (rd l0 0)) else none
theorem slices_Repeat_int64_int64.splice (cur : List Value) (m c : Nat) (x : Value) (h1 : cur.take m = List.replicate m x) (h2 : m + c ≤ cur.length) : (Go.splice cur m (List.replicate c x)).take (m + c) = List.replicate (m + c) x ∧ (Go.splice cur m (List.replicate c x)).length = cur.length := by
 constructor
 ·unfold Go.splice
  rw [h1, ← List.append_assoc, List.replicate_append_replicate, List.take_append_of_le_length (by simp)]
  simp
 ·exact length_splice _ _ _ (by simpa using h2)
theorem slices_Repeat_int64_int64.row {w : World} {b n : Nat} {ok : Nat → Prop} {v : Value} (ho : Kd.R (Kd.int .i64) 2 w b ok v (List.replicate n 0)) (hn : 1 ≤ n) :
  ∃ (g cap : Nat) (cur : List Value), v = .slice (some ⟨g, 0, none⟩) n cap ∧ b ≤ g ∧ w.heap[g]? = some (.cells cur.toArray 2 (0, 0)) ∧ n ≤ cap ∧ cap ≤ maxLen ∧ cur.length = cap := by
 have hown := Kd.own_of_R ho
 rcases hown.2 with ⟨_, h0⟩ | ⟨g, cap, cur, hv, hb, hc, h1, h2, h3, _⟩
 ·simp at h0; omega
 ·refine ⟨g, cap, cur.toList, ?_, hb, by simpa using hc, by simpa using h1, h2, by simpa using h3⟩
  rw [hv]
  simp
theorem slices_Repeat_int64_int64.cell {w : World} {g m : Nat} {x : Value} {cu : List Value} (hc : w.heap[g]? = some (.cells cu.toArray 2 (0, 0))) (ht : cu.take m = List.replicate m x) (hm : m ≤ cu.length) (j : Nat) (hj : j < m) : w.cell? ((⟨g, 0, none⟩ : Addr).add j) = some x := by
 have h1 : (cu.take m)[j]? = some x := by rw [ht, List.getElem?_replicate, if_pos hj]
 rw [List.getElem?_take_of_lt hj] at h1
 have ha : (⟨g, 0, none⟩ : Addr).add j = ⟨g, j, none⟩ := by by_cases h : j = 0 <;> simp [Addr.add, h]
 rw [ha, blk_cell hc]
 simpa using h1
theorem slices_Repeat_int64_int64.done {w : World} {b g n cap : Nat} {x : Int} {cu : List Value} (hbg : b ≤ g) (hc : w.heap[g]? = some (.cells cu.toArray 2 (0, 0))) (h1 : n ≤ cap) (h2 : cap ≤ maxLen) (h3 : cu.length = cap) (h4 : cu.take n = List.replicate n (.int .i64 x)) : Kd.R (Kd.int .i64) 2 w b (fun _ => True) (.slice (some ⟨g, 0, none⟩) n cap) (List.replicate n x) := by
 refine Kd.R_of_own (enc := Value.int .i64) ?_ (fun _ _ => trivial)
 rw [List.length_replicate]
 refine ⟨by simp [encs], .inr ⟨g, cap, cu.toArray, rfl, hbg, hc, h1, h2, by simp [h3], ?_⟩⟩
 simp [encs, h4]
set_option maxHeartbeats 8000000 in
set_option maxRecDepth 100000 in
theorem slices_Repeat_int64_int64.calls (A0 : Option Addr) (c0 : Nat) (l0 : List Int) (a1 : Int) (r : List Int) (w : World) (hr0 : Kd.C (Kd.int .i64) w A0 l0.length l0) (hc0 : l0.length ≤ c0) (h : slices_Repeat_int64_int64.f l0 a1 = some r) :
  Calls Try.prog 20 #[.slice A0 l0.length c0, .int .i64 a1] w fun e w' => ∃ v0_ : Value, e = .returned v0_ ∧ Kd.R (Kd.int .i64) 2 w' w.heap.size (fun _ => True) v0_ r ∧ Below w.heap.size w w' := by
 unfold slices_Repeat_int64_int64.f at h
 split at h
 ·rename_i hr
  obtain ⟨h1, h2, h3⟩ := hr
  injection h with h
  subst h
  obtain ⟨n, rfl⟩ := Int.eq_ofNat_of_zero_le (show 0 ≤ a1 by omega)
  rw [Int.toNat_natCast]
  obtain ⟨ad, ea, hx⟩ := Kd.at_int hr0 0 (by omega) (by omega)
  obtain ⟨x, hxx⟩ : ∃ x, x = rd l0 0 := ⟨_, rfl⟩
  rw [← hxx] at hx ⊢
  rw [h1] at hc0 ⊢
  subst ea
  simp only [Int.toNat_zero] at hx
  have HX := ka hx
  clear hx hr0 h1 hxx
  have mixed : Try.prog.follows .mixedOrders = true := by kernel_rfl
  have hu22 := Try.underlying22
  have hn1 : (1 : Int) ≤ (n : Int) := by omega
  have hn2 : (n : Int) ≤ 1000000 := by omega
  have hneg : ¬ (n : Int) < 0 := by omega
  go_enter Try.func20, Try.ntmps20
  have HM : Aside0 (bits_Mul.f 1 (n : Int) = some (0, (n : Int))) := ka (by unfold bits_Mul.f bits_Mul64_s.f; rw [if_pos ⟨by omega, by omega, by omega, by omega⟩, Option.bind_some]; congr 2 <;> omega)
  have hpos : 0 ≤ (n : Int) := by omega
  have hsz : (Try.prog.info? 2).map (·.size) = some 1 := by kernel_rfl
  have hroom : (n : Int).toNat * 8 ≤ 281474976710656 := by omega
  go_wp2_with (first | (go_at_call 26; (with_reducible refine (bits_Mul.calls 1 (n : Int) 0 (n : Int) _ HM.out).mono ?_); rintro e w' ⟨rfl, ⟨nd, rfl⟩⟩) | ((with_reducible refine gate_dst (N := 30) rfl ?_); (refine Kd.R_make (Kd.int .i64) _ 2 rfl (N := 30) rfl 22 _ _ rfl (n : Int) rfl rfl Try.underlying22 (.int .i64 0) 8 info2 rfl (by decide) (by omega) 0 (ok := fun _ => True) (okp := fun _ => True) rfl (fun _ hk => hk) trivial hpos hroom (Below.refl _ _) (Nat.le_refl _) ?_); intro v30 w12 ho hb hg_ hnew_; clear hg_ hnew_; simp only [Int.toNat_natCast] at ho; have HB := ka (below_step (kc2 (Below.refl w.heap.size w) nd) hb); obtain ⟨g, cap, cur, hv, hbg0, hcur0, hnc, hcm, hlen⟩ := slices_Repeat_int64_int64.row ho (by omega); subst hv; have hbg : Aside0 (w.heap.size ≤ g) := ka hbg0; have hcur := ka hcur0; clear ho hb hcur0 hbg0; have HX2 := ka ((HB.out.cell (World.block_lt_of_cell? w _ HX.out)).trans HX.out)) | ((with_reducible refine gate_builtin (b := .copy) (xs := #[.tmp 31, .tmp 32]) rfl ?_); (refine wpList_copy_splice rfl (.tmp 31) (.tmp 32) 22 22 rfl 2 Try.underlying22 hsz (some ⟨g, 0, none⟩) (some ad) n cap 1 c0 rfl rfl g 0 cur 2 hcur.out [.int .i64 x] (by simp [Nat.min_def]; omega) (fun _ => ⟨rfl, ad, rfl, fun j v hj => by cases j with | zero => (simp at hj; subst hj; exact HX2.out) | succ j => simp at hj⟩) (by simp; omega) (by simp [Value.oneCell']) w.heap.size w HB.out hbg.out ?_); intro w13 HG2 hb2))
  have e1 := slices_Repeat_int64_int64.splice cur 0 1 (.int .i64 x) (by simp) (by omega)
  have HG3 : w13.heap[g]? = some (.cells (Go.splice cur 0 (List.replicate 1 (.int .i64 x))).toArray 2 (0, 0)) := HG2
  obtain ⟨cu1, hcu1⟩ : ∃ c, c = Go.splice cur 0 (List.replicate 1 (Value.int .i64 x)) := ⟨_, rfl⟩
  rw [← hcu1] at HG3 e1
  have HC1 := ka HG3
  have HL1 := ka (e1.2.trans hlen)
  have HT1 := ka e1.1
  have HB1 := ka hb2
  clear HG3 HG2 e1 hb2 hcu1 HB hcur HX2 hlen
  (try simp only [Act.put, List.setIfInBounds_toArray, List.set_cons_zero, List.set_cons_succ])
  go_loopg [8] n (fun kq s8 w' => ∃ (m : Nat) (cu : List Value), s8 = .int .i64 m ∧ 1 ≤ m ∧ m ≤ n ∧ n - m ≤ kq ∧ Aside0 (w'.heap[g]? = some (.cells cu.toArray 2 (0, 0))) ∧ Aside0 (cu.length = cap) ∧ Aside0 (cu.take m = List.replicate m (.int .i64 x)) ∧ Aside0 (Below w.heap.size w w'))
  case atStart => exact ⟨1, cu1, rfl, Nat.le_refl _, by omega, by omega, HC1, HL1, HT1, HB1⟩
  case round =>
   clear HC1 HL1 HT1 HB1
   obtain ⟨m, cu, rfl, m1, m2, m3, HC, HL, HT, HB⟩ := hrel
   by_cases hlt : m < n
   ·have hltz : (m : Int) < (n : Int) := by omega
    have hm0 : (0 : Int) ≤ (m : Int) := by omega
    have hmn : (m : Int) ≤ (n : Int) := by omega
    obtain ⟨i0, hi0, _, hs0, _⟩ := info_parts info2
    have hc1 := cut_from (P := Try.prog) 22 2 .i64 Try.underlying22 hi0 1 hs0 (some ⟨g, 0, none⟩) n cap (m : Int) hm0 hmn
    have hc2 := cut_to (P := Try.prog) 22 2 .i64 Try.underlying22 hi0 (some ⟨g, 0, none⟩) n cap (m : Int) hm0 hmn hnc
    rw [if_neg (by omega)] at hc1
    simp only [Int.toNat_natCast, Option.map_some, Addr.add, Nat.zero_add, Nat.mul_one] at hc1 hc2
    clear hi0 hs0
    obtain ⟨c, hcc⟩ : ∃ c, c = min m (n - m) := ⟨_, rfl⟩
    have c1 : c = Nat.min m (n - m) := hcc
    have c2 : c ≤ m := by omega
    have c3 : m + c ≤ n := by omega
    have c4 : 1 ≤ c := by omega
    have HP : Aside0 (∀ (W : World), W.heap[g]? = some (.cells cu.toArray 2 (0, 0)) → ∀ j v, (List.replicate c (Value.int .i64 x))[j]? = some v → W.cell? ((⟨g, 0, none⟩ : Addr).add j) = some v) := ⟨fun W hW j v hj => by
     rw [List.getElem?_replicate] at hj
     split at hj
     ·injection hj with hj
      subst hj
      exact slices_Repeat_int64_int64.cell hW HT.out (by rw [HL.out]; omega) j (by omega)
     ·cases hj⟩
    have hfit : m + (List.replicate c (Value.int .i64 x)).length ≤ cu.length := by simp [HL.out]; omega
    have hone : ∀ v ∈ List.replicate c (Value.int .i64 x), v.oneCell' = true := by intro v hv; rw [List.eq_of_mem_replicate hv]; rfl
    have hlenc : (List.replicate c (Value.int .i64 x)).length = Nat.min m (n - m) := by rw [List.length_replicate]; exact c1
    have SP := ka (slices_Repeat_int64_int64.splice cu m c (.int .i64 x) HT.out (by rw [HL.out]; omega))
    have HF := ka hfit
    have HO := ka hone
    have HLC := ka hlenc
    clear hcc c1 hfit hone hlenc
    go_wp2
    go_region_law (refine step_copy_splice rfl (.tmp 41) (.tmp 44) 22 22 rfl 2 Try.underlying22 hsz (some ⟨g, m, none⟩) (some ⟨g, 0, none⟩) (n - m) (cap - m) m cap (by simp [Act.eval, Act.put]; omega) (by simp [Act.eval, Act.put]) g m cu 2 HC.out (List.replicate c (.int .i64 x)) HLC.out (fun _ => ⟨rfl, _, rfl, HP.out _ HC.out⟩) HF.out HO.out w.heap.size w (by first | exact HB.out | exact below_drew1 HB.out) hbg.out ?_; intro w4 hg4 hb4)
    have HC4 := ka hg4.out
    have HB4 := ka hb4
    clear hg4 hb4
    go_wp2
    have hw : IntKind.i64.wrap ((m : Int) + (c : Int)) = ((m + c : Nat) : Int) := by rw [IntKind.wrap_i64]; omega
    rw [hw]
    go_roundg (n - (m + c))
    case measure => omega
    case rel => exact ⟨m + c, _, rfl, by omega, c3, Nat.le_refl _, HC4, ka (SP.out.2.trans HL.out), ka SP.out.1, HB4⟩
   ·have hltz : ¬ (m : Int) < (n : Int) := by omega
    go_wp2
    go_ret
    obtain rfl : m = n := by omega
    exact ⟨_, rfl, slices_Repeat_int64_int64.done hbg.out HC.out hnc hcm HL.out HT.out, HB.out⟩
 ·cases h

/-! ### split_Even: function 18 -/
def split_Even.j0 : Nat → Int → Int → Bool → Option (List Int × Option Int)
 | 0, _, _, _ => none
 | k + 1, x0, x1, x11 => if x11 = true then (some (([] : List Int), some 1)) else ((slices_Repeat_int64_int64.f (([1] : List Int)) x1).bind fun t437 => ((split_Shares.f k x0 t437).bind fun bt440 => (some (bt440.1, bt440.2))))
def split_Even.f (k : Nat) (a0 : Int) (a1 : Int) : Option (List Int × Option Int) := if a1 < 1 then (split_Even.j0 k a0 a1 true) else (split_Even.j0 k a0 a1 (decide (a1 > 480)))
theorem split_Even.mono_l : ∀ k, (∀ y0 y1 y2, LeO (split_Even.j0 k y0 y1 y2) (split_Even.j0 (k + 1) y0 y1 y2))
 | 0 => fun _ _ _ r h => by simp [split_Even.j0] at h
 | k + 1 => by
  have ih0 := split_Even.mono_l k
  ·intro y0 y1 y2
   unfold split_Even.j0
   repeat' first
   | (with_reducible exact ih0 _ _ _)
   | (with_reducible exact split_Shares.mono _ _ _)
   | (with_reducible exact LeO.refl _)
   | (with_reducible exact LeO.none _)
   | (with_reducible refine LeO.ite ?_ ?_)
   | (with_reducible refine LeO.bind ?_ (fun _ => ?_))
   | exact ih0 _ _ _
   | exact split_Shares.mono _ _ _
   | exact LeO.none _
   | refine LeO.ite ?_ ?_
   | refine LeO.bind ?_ (fun _ => ?_)
theorem split_Even.mono : ∀ a0 a1 k, LeO (split_Even.f k a0 a1) (split_Even.f (k + 1) a0 a1) := by
 intro a0 a1 k
 have ih0 := split_Even.mono_l k
 unfold split_Even.f
 repeat' first
   | (with_reducible exact ih0 _ _ _)
   | (with_reducible exact split_Shares.mono _ _ _)
   | (with_reducible exact LeO.refl _)
   | (with_reducible exact LeO.none _)
   | (with_reducible refine LeO.ite ?_ ?_)
   | (with_reducible refine LeO.bind ?_ (fun _ => ?_))
   | exact ih0 _ _ _
   | exact split_Shares.mono _ _ _
   | exact LeO.none _
   | refine LeO.ite ?_ ?_
   | refine LeO.bind ?_ (fun _ => ?_)
set_option maxHeartbeats 8000000 in
set_option maxRecDepth 100000 in
theorem split_Even.calls (k : Nat) (a0 : Int) (a1 : Int) (r1 : List Int) (r2 : Option Int) (w : World) (h : split_Even.f k a0 a1 = some (r1, r2)) :
  Calls Try.prog 18 #[.int .i64 a0, .int .i64 a1] w fun e w' => ∃ v0_ : Value, e = .returned (.tuple #[v0_, errW r2]) ∧ Kd.R (Kd.int .i64) 2 w' w.heap.size (fun _ => True) v0_ r1 ∧ Below w.heap.size w w' := by
 have hu29 := Try.underlying29
 have hu34 := Try.underlying34
 have HB := ka (Below.refl w.heap.size w)
 have H : (if a1 < 1 then (split_Even.j0 k a0 a1 true) else (split_Even.j0 k a0 a1 (decide (a1 > 480)))) = some (r1, r2) := h
 clear h
 have HC3 := ka H
 clear H
 go_enter Try.func18, Try.ntmps18
 go_upto_region 1 with (fail)
 go_cut [11] (fun v11 wc => ∃ (kq : Nat) (x11_2 : Bool), v11 = .bool x11_2 ∧ Aside0 (split_Even.j0 kq a0 a1 x11_2 = some (r1, r2)) ∧ Aside0 (kq ≤ k) ∧ Aside0 (Below w.heap.size w wc))
 case first =>
  have H := HC3.out
  clear HC3
  by_cases c4 : a1 < 1
  ·rw [if_pos c4] at H
   have c4b0 : decide (a1 < 1) = true := decide_eq_true c4
   clear c4
   (first | rw [c4b0] | (simp only [i64_w, i32_w]; rw [c4b0]) | skip)
   have H' := ka H
   clear H
   go_wp2
   go_meet
   case rel => exact ⟨_, (true), (by first | rfl | (simp; done) | (simp [*]; done)), H', ⟨by first | omega | exact Nat.le_refl _⟩, ⟨by repeat (first | (with_reducible first | exact HB.out | apply kc1 | apply kc2 | apply kc3) | exact HB.out)⟩⟩
  ·rw [if_neg c4] at H
   have c4b0 : decide (a1 < 1) = false := decide_eq_false c4
   clear c4
   (first | rw [c4b0] | (simp only [i64_w, i32_w]; rw [c4b0]) | skip)
   have H' := ka H
   clear H
   go_wp2
   go_meet
   case rel => exact ⟨_, (decide (a1 > 480)), (by first | rfl | (simp; done) | (simp [*]; done)), H', ⟨by first | omega | exact Nat.le_refl _⟩, ⟨by repeat (first | (with_reducible first | exact HB.out | apply kc1 | apply kc2 | apply kc3) | exact HB.out)⟩⟩
 case rest =>
  clear HC3
  try clear c1
  try clear p2
  try clear c4
  try clear c4b0
  obtain ⟨kq, x11_2, rfl, HA, HJ2, HB⟩ := hcut
  cases kq with
  | zero => exact absurd HA.out (by simp [split_Even.j0])
  | succ kj2 =>
   have H := HA.out
   clear HA
   simp only [split_Even.j0] at H
   by_cases c5 : x11_2 = true
   ·subst c5
    have H1 : (some (([] : List Int), some 1)) = some (r1, r2) := by rw [if_pos rfl] at H; exact H
    clear H
    have H := H1
    clear H1
    simp only [Option.some.injEq, Prod.mk.injEq] at H
    obtain ⟨rfl, rfl⟩ := H
    go_wp2
    go_ret2
    exact ⟨_, by first | rfl | (simp [errW_none, errW_some] <;> rfl) | (simp [*, errW_none, errW_some] <;> rfl), by first | exact Kd.R_nil _ _ _ _ _ | exact Kd.N_nil _ _ _ _ _ | exact Kd.V_nil _ _ _ _ _ | exact Kd.Q_nil _ _ _ _ _ | exact Kd.S_nil _ _ _ _ _, by repeat (first | (with_reducible first | exact HB.out | apply kc1 | apply kc2 | apply kc3) | exact HB.out)⟩
   ·replace c5 := Bool.eq_false_iff.mpr c5
    subst c5
    have H1 : ((slices_Repeat_int64_int64.f (([1] : List Int)) a1).bind fun t437 => ((split_Shares.f kj2 a0 t437).bind fun bt440 => (some (bt440.1, bt440.2)))) = some (r1, r2) := by rw [if_neg (show ¬ (false = true) by decide)] at H; exact H
    clear H
    have H := H1
    clear H1
    obtain ⟨y434, hy434⟩ : ∃ y_ : List Int, y_ = (([1] : List Int)) := ⟨_, rfl⟩
    replace H : ((slices_Repeat_int64_int64.f y434 a1).bind fun t437 => ((split_Shares.f kj2 a0 t437).bind fun bt440 => (some (bt440.1, bt440.2)))) = some (r1, r2) := by first | (rw [hy434]; with_reducible exact H) | (have H2_ := (Option.bind_some _ _).symm.trans H; rw [hy434]; with_reducible exact H2_) | (have H2_ := (Option.bind_some _ _).symm.trans H; with_reducible exact H2_) | with_reducible exact H | (rw [hy434]; exact H) | exact H
    have Ny434 := ka hy434
    clear hy434
    replace H := Option.bind_eq_some_iff.mp H
    obtain ⟨t437, A60, H⟩ := H
    replace H : ((split_Shares.f kj2 a0 t437).bind fun bt440 => (some (bt440.1, bt440.2))) = some (r1, r2) := H
    have A6 := ka A60
    clear A60
    replace H := Option.bind_eq_some_iff.mp H
    obtain ⟨⟨t440, t441⟩, A70, H⟩ := H
    replace H : (some (t440, t441)) = some (r1, r2) := H
    have A7 := ka A70
    clear A70
    simp only [Option.some.injEq, Prod.mk.injEq] at H
    obtain ⟨rfl, rfl⟩ := H
    go_wp2_with (first | ((with_reducible refine gate_dst (N := 14) rfl ?_); refine Kd.R_lit (Kd.int .i64) _ 2 ?hg (N := 14) ?hd (xs := ([1] : List Int)) (inner := [.int .i64 1]) (ok := fun _ => True) (okp := fun _ => True) ?hr ?hp (fun _ hk => hk) trivial (Below.refl _ _) (Nat.le_refl _) (by simp) ?_; (case hd => rfl); (case hg => rfl); (case hr => first | (go_simp; done) | (go_simp; rfl)); (case hp => exact (Reps.one (show Kd.M (Kd.int .i64) _ _ _ 1 [.int .i64 1] from rfl) (Reps.none _ _))); intro v435 w8 ho9 hb hg_ hnew_; clear hg_ hnew_; (first | rw [← Ny434.out] at ho9 | (simp only [Int.reduceToNat] at ho9; rw [← Ny434.out] at ho9)); have HO436 := ka (Kd.R_lower ho9 (below_size (kw HB.out))); replace HB := ka (below_step (kw HB.out) hb); clear hb ho9; obtain ⟨Ao10, co10, eo10⟩ := Kd.R_slice HO436.out; subst eo10) | ((with_reducible refine gate_callee (f := 20) rfl ?_); refine kg (some 16) rfl rfl Try.func20 (by kernel_rfl) rfl #[.slice Ao10 y434.length co10, .int .i64 a1] rfl ?_; (with_reducible refine (slices_Repeat_int64_int64.calls _ _ y434 a1 t437 _ ?side1 ?side2 A6.out).mono ?_); (case side1 => repeat (first | exact (Kd.R_reads' HO436.out).2.2 | (with_reducible refine Kd.C_alloc ?_ _) | (with_reducible refine Kd.C_drewN ?_ _) | (with_reducible refine Kd.C_drew ?_))); (case side2 => exact (Kd.R_reads' HO436.out).2.1); rintro e w11 ⟨v438, rfl, ho0, hb⟩; refine ⟨_, rfl, ?_⟩; have HO439 := ka (Kd.R_lower (Kd.R_new' ho0 (Kd.R_lt (kr HO436.out))) (below_size (kw HB.out))); replace HO436 := ka (Kd.R_elder' (kr HO436.out) (Kd.R_base ho0) hb); replace HB := ka (below_step (kw HB.out) hb); (try clear hb); (try clear hb2); (try clear hk); (try clear hi); (try clear ho0); obtain ⟨Ao12, co12, eo12⟩ := Kd.R_slice HO439.out; subst eo12) | ((with_reducible refine gate_callee (f := 19) rfl ?_); refine kg (some 17) rfl rfl Try.func19 (by kernel_rfl) rfl #[.int .i64 a0, .slice Ao12 t437.length co12] rfl ?_; (with_reducible refine (split_Shares.calls kj2 a0 _ _ t437 t440 t441 _ ?side1 ?side2 A7.out).mono ?_); (case side1 => repeat (first | exact (Kd.R_reads' HO439.out).2.2 | (with_reducible refine Kd.C_alloc ?_ _) | (with_reducible refine Kd.C_drewN ?_ _) | (with_reducible refine Kd.C_drew ?_))); (case side2 => exact (Kd.R_reads' HO439.out).2.1); rintro e w13 ⟨v442, rfl, ho0, hb⟩; refine ⟨_, rfl, ?_⟩; have HO443 := ka (Kd.R_lower (Kd.R_new' (Kd.R_new' ho0 (Kd.R_lt (kr HO436.out))) (Kd.R_lt (kr HO439.out))) (below_size (kw HB.out))); replace HO436 := ka (Kd.R_elder' (kr HO436.out) (Kd.R_base ho0) hb); replace HO439 := ka (Kd.R_elder' (kr HO439.out) (Kd.R_base ho0) hb); replace HB := ka (below_step (kw HB.out) hb); (try clear hb); (try clear hb2); (try clear hk); (try clear hi); (try clear ho0); (try simp only [errW_none, errW_some])))
    go_ret2
    exact ⟨_, by first | rfl | (simp [errW_none, errW_some] <;> rfl) | (simp [*, errW_none, errW_some] <;> rfl), by (with_reducible repeat (first | apply Kd.R_alloc | apply Kd.R_drewN | apply Kd.R_drew)); exact Kd.R_mono HO443.out (fun _ hk => trivial), by repeat (first | (with_reducible first | exact HB.out | apply kc1 | apply kc2 | apply kc3) | exact HB.out)⟩

/-! ### split_Even: function 18, its laws -/
theorem Evn.sum : ∀ n : Nat, (List.replicate n (1 : Int)).sum = (n : Int)
 | 0 => rfl
 | n + 1 => by rw [List.replicate_succ, List.sum_cons, Evn.sum n]; omega
theorem Evn.sums (c : Int) : ∀ n : Nat, (List.replicate n c).sum = (n : Int) * c
 | 0 => by simp
 | n + 1 => by rw [List.replicate_succ, List.sum_cons, Evn.sums c n, show ((n + 1 : Nat) : Int) = (n : Int) + 1 by omega, Int.add_mul]; omega
theorem Evn.may {a : Int} {n : Nat} (ha : 0 ≤ a ∧ a ≤ 10000000000000) (hn : 1 ≤ n ∧ n ≤ 480) : Shr.may a (List.replicate n 1) := by
 refine ⟨ha.1, ha.2, by simp; omega, ?_, by rw [Evn.sum]; omega⟩
 intro w hw
 rw [List.eq_of_mem_replicate hw]
 decide
theorem Evn.get {a : Int} {n : Nat} (ha : 0 ≤ a ∧ a ≤ 10000000000000) (hn : 1 ≤ n ∧ n ≤ 480) (j : Nat) (hj : j < n) : rd (Shr.sh a (List.replicate n 1)) (j : Int) = a / (n : Int) + if (j : Int) < a % (n : Int) then 1 else 0 := by
 have hm := Evn.may ha hn
 have hl : (List.replicate n (1 : Int)).length = n := by simp
 rw [Shr.get hm j (by omega)]
 have h1 : rd (List.replicate n (1 : Int)) (j : Int) = 1 := by
  simp [rd, List.getD_eq_getElem?_getD, List.getElem?_replicate, hj]
 have hq : Shr.qs a (List.replicate n (1 : Int)).sum (List.replicate n 1) = List.replicate n (a / (n : Int)) := by
  unfold Shr.qs
  rw [Evn.sum, List.map_replicate, Int.mul_one]
 have hr : Shr.rs a (List.replicate n (1 : Int)).sum (List.replicate n 1) = List.replicate n (a % (n : Int)) := by
  unfold Shr.rs
  rw [Evn.sum, List.map_replicate, Int.mul_one]
 have hleft : Shr.left a (List.replicate n 1) = a % (n : Int) := by
  unfold Shr.left
  rw [hq, Evn.sums]
  have := Int.mul_ediv_add_emod a (n : Int)
  omega
 have hord : Shr.ord a (List.replicate n 1) = Srt.upto n := by
  unfold Shr.ord
  rw [hr, hl]
  have := Srt.is (r := List.replicate n (a % (n : Int))) (L := Srt.upto n) (by simp; omega) (by simp; omega) (by simp) (by
   rw [List.pairwise_iff_getElem]
   intro p q hp hq hpq
   have e : ∀ i (h : i < (Srt.upto n).length), (Srt.upto n)[i] = (i : Int) := by intro i h; simp [Srt.upto]
   have hp' : p < n := by simpa [Srt.upto] using hp
   have hq' : q < n := by simpa [Srt.upto] using hq
   rw [e p hp, e q hq]
   right
   simp [rd, List.getD_eq_getElem?_getD, List.getElem?_replicate, hp', hq', hpq])
  simpa using this
 rw [h1, Evn.sum, Int.mul_one, hord, hleft]
 have m0 := Int.emod_nonneg a (show (n : Int) ≠ 0 by omega)
 have m1 := Int.emod_lt_of_pos a (show 0 < (n : Int) by omega)
 have htake : (Srt.upto n).take (a % (n : Int)).toNat = Srt.upto (a % (n : Int)).toNat := by
  unfold Srt.upto
  rw [← List.map_take, List.take_range, show min (a % (n : Int)).toNat n = (a % (n : Int)).toNat by omega]
 rw [htake]
 congr 1
 have : ((j : Int) ∈ Srt.upto (a % (n : Int)).toNat) ↔ (j : Int) < a % (n : Int) := by
  rw [Srt.mem_upto]
  omega
 by_cases c : (j : Int) < a % (n : Int)
 ·rw [if_pos c, if_pos (this.mpr c)]
 ·rw [if_neg c, if_neg (fun h => c (this.mp h))]
theorem split_Even.num (k : Nat) (a n : Int) (ha : M.In a) (hn : M.In n) (hk : 2001 ≤ k) : split_Even.f k a n = some (if 1 ≤ n ∧ n ≤ 480 then Shr.res a (List.replicate n.toNat 1) else ([], some 1)) := by
 have hj : ∀ b : Bool, b = true → split_Even.j0 k a n b = some ([], some 1) := by
  intro b hb
  obtain ⟨j, rfl⟩ : ∃ j, k = j + 1 := ⟨k - 1, by omega⟩
  subst hb
  simp [split_Even.j0]
 unfold split_Even.f
 by_cases h1 : n < 1
 ·rw [if_pos h1, hj true rfl, if_neg (by omega)]
 ·rw [if_neg h1]
  by_cases h2 : n > 480
  ·rw [hj _ (decide_eq_true h2), if_neg (by omega)]
  ·rw [decide_eq_false h2, if_pos ⟨by omega, by omega⟩]
   obtain ⟨j, rfl⟩ : ∃ j, k = j + 1 := ⟨k - 1, by omega⟩
   have hr : slices_Repeat_int64_int64.f [1] n = some (List.replicate n.toNat 1) := by
    unfold slices_Repeat_int64_int64.f
    rw [if_pos ⟨rfl, by omega, by omega⟩]
    rfl
   simp only [split_Even.j0]
   rw [if_neg (by decide), hr, Option.bind_some, split_Shares.num j a _ ha (by intro w hw; rw [List.eq_of_mem_replicate hw]; decide) (by simp; omega) (by omega), Option.bind_some]

end Go.Proofs.Ytjeghhheenenbaa.P
