-- Written by a program of this session out of the translation of the seat: Lean functions and the proofs that the Go functions come to them.
import Derived.Test.YtcpmfdagnchlbaaPx0
import Derived.Test.YtcpmfdagnchlbaaPx1
import Derived.Test.YtcpmfdagnchlbaaPx2
import Derived.Test.YtcpmfdagnchlbaaPx3
namespace Go.Proofs.Ytcpmfdagnchlbaa.P
open Go.RowKit Go.Proofs.YtcpmfdagnchlbaaW.PrintWords Go.Proofs.YtcpmfdagnchlbaaW.PrintLast Go.Proofs.YtcpmfdagnchlbaaW.PrintMore
attribute [local go_sem] max2_int min2_int max_two min_two max_three min_three max_four min_four   -- for this text's walks alone
set_option linter.unusedVariables false
set_option linter.unusedSimpArgs false

/-! ### split_Shares: function 10, its laws -/
def Shr.qs (a all : Int) (l : List Int) : List Int := l.map (fun w => a * w / all)
def Shr.rs (a all : Int) (l : List Int) : List Int := l.map (fun w => a * w % all)
def Shr.inc (q o : List Int) : List Int := o.foldl (fun q i => q.set i.toNat (rd q i + 1)) q
/-- a total's shares by weights -/
def Shr.sh (a : Int) (l : List Int) : List Int := Shr.inc (Shr.qs a l.sum l) ((Srt.srt (Shr.rs a l.sum l) (Srt.upto l.length)).take (a - (Shr.qs a l.sum l).sum).toNat)
def Shr.may (a : Int) (l : List Int) : Prop := 0 ≤ a ∧ a ≤ 10000000000000 ∧ l.length ≤ 480 ∧ (∀ w ∈ l, 0 ≤ w ∧ w ≤ 10000000000000) ∧ 0 < l.sum
instance (a : Int) (l : List Int) : Decidable (Shr.may a l) := inferInstanceAs (Decidable (_ ∧ _ ∧ _ ∧ _ ∧ _))
def Shr.res (a : Int) (l : List Int) : List Int × Option Int := if Shr.may a l then (Shr.sh a l, none) else ([], some 1)
theorem Shr.sum_nn : ∀ {l : List Int}, (∀ w ∈ l, 0 ≤ w ∧ w ≤ 10000000000000) → 0 ≤ l.sum ∧ l.sum ≤ 10000000000000 * (l.length : Int)
 | [], _ => by simp
 | x :: r, h => by
  have := Shr.sum_nn (l := r) (fun w hw => h w (by simp [hw]))
  have := h x (by simp)
  simp only [List.sum_cons, List.length_cons]
  omega
theorem Shr.le_sum : ∀ {l : List Int}, (∀ w ∈ l, 0 ≤ w) → ∀ w ∈ l, w ≤ l.sum
 | [], _, w, hw => by simp at hw
 | x :: r, h, w, hw => by
  have nn : ∀ {l : List Int}, (∀ w ∈ l, 0 ≤ w) → 0 ≤ l.sum := by
   intro l
   induction l with
   | nil => intro _; simp
   | cons y s ih => intro hl; have := hl y (by simp); have := ih (fun w hw => hl w (by simp [hw])); simp only [List.sum_cons]; omega
  have hx := h x (by simp)
  have hr := nn (l := r) (fun w hw => h w (by simp [hw]))
  simp only [List.sum_cons]
  rcases List.mem_cons.mp hw with rfl | hw
  ·omega
  ·have := Shr.le_sum (l := r) (fun w hw => h w (by simp [hw])) w hw
   omega
theorem Shr.left_eq (a all : Int) (h : 0 < all) : ∀ l : List Int, a * l.sum = all * (Shr.qs a all l).sum + (Shr.rs a all l).sum
 | [] => by simp [Shr.qs, Shr.rs]
 | x :: r => by
  have := Shr.left_eq a all h r
  have e := Int.mul_ediv_add_emod (a * x) all
  simp only [Shr.qs, Shr.rs, List.map_cons, List.sum_cons, Int.mul_add] at *
  omega
theorem Shr.rs_sum (a all : Int) (h : 0 < all) : ∀ l : List Int, 0 ≤ (Shr.rs a all l).sum ∧ (l ≠ [] → (Shr.rs a all l).sum < all * (l.length : Int))
 | [] => by simp [Shr.rs]
 | x :: r => by
  obtain ⟨h1, h2⟩ := Shr.rs_sum a all h r
  have e1 := Int.emod_nonneg (a * x) (show all ≠ 0 by omega)
  have e2 := Int.emod_lt_of_pos (a * x) h
  simp only [Shr.rs, List.map_cons, List.sum_cons, List.length_cons] at *
  refine ⟨by omega, fun _ => ?_⟩
  have e3 : all * ((r.length + 1 : Nat) : Int) = all * (r.length : Int) + all := by
   rw [show ((r.length + 1 : Nat) : Int) = (r.length : Int) + 1 by omega, Int.mul_add, Int.mul_one]
  rw [e3]
  cases r with
  | nil => simp at *; omega
  | cons y s => have := h2 (by simp); omega
theorem Shr.left_in {a : Int} {l : List Int} (h : Shr.may a l) : 0 ≤ a - (Shr.qs a l.sum l).sum ∧ a - (Shr.qs a l.sum l).sum < (l.length : Int) := by
 obtain ⟨h1, h2, h3, h4, h5⟩ := h
 have hl : l ≠ [] := by rintro rfl; simp at h5
 have e := Shr.left_eq a l.sum h5 l
 obtain ⟨r1, r2⟩ := Shr.rs_sum a l.sum h5 l
 have r2 := r2 hl
 have e2 : l.sum * (a - (Shr.qs a l.sum l).sum) = (Shr.rs a l.sum l).sum := by rw [Int.mul_sub, Int.mul_comm l.sum a]; omega
 constructor
 ·refine Classical.byContradiction fun hn => ?_
  have := Int.mul_le_mul_of_nonneg_left (show a - (Shr.qs a l.sum l).sum ≤ -1 by omega) (Int.le_of_lt h5)
  omega
 ·refine Classical.byContradiction fun hn => ?_
  have := Int.mul_le_mul_of_nonneg_left (show (l.length : Int) ≤ a - (Shr.qs a l.sum l).sum by omega) (Int.le_of_lt h5)
  omega
theorem split_Shares.sum (n : Nat) : ∀ (k i : Nat) (a : Int) (l : List Int), 0 ≤ a ∧ a ≤ 10000000000000 → l.length = i + n → l.length ≤ 480 → (∀ w ∈ l.take i, 0 ≤ w ∧ w ≤ 10000000000000) →
  split_Shares.l0 (k + n + 1) a l (l.take i).sum l (l.length : Int) i = if ∀ w ∈ l.drop i, 0 ≤ w ∧ w ≤ 10000000000000 then (if l.sum = 0 then some ([], some 1) else split_Shares.l1 k a l.sum (List.replicate l.length 0) a [] l (l.length : Int) 0 (List.replicate l.length 0)) else some ([], some 1) := by
 induction n with
 | zero =>
  intro k i a l ha hl hm hok
  simp only [split_Shares.l0]
  rw [if_neg (by omega), List.drop_eq_nil_of_le (by omega), List.take_of_length_le (by omega)]
  rw [if_pos (show ∀ w ∈ ([] : List Int), 0 ≤ w ∧ w ≤ 10000000000000 by simp)]
  by_cases hz : l.sum = 0
  ·rw [if_pos hz, if_pos hz]
  ·rw [if_neg hz, if_neg hz, if_pos (by omega), if_pos (by simp; omega)]
   rfl
 | succ n ih =>
  intro k i a l ha hl hm hok
  have hget : l.getD i 0 = l[i]'(by omega) := by rw [List.getD_eq_getElem?_getD, List.getElem?_eq_getElem (by omega)]; rfl
  have hdrop : l.drop i = l.getD i 0 :: l.drop (i + 1) := by rw [List.drop_eq_getElem_cons (by omega), hget]
  have htake : l.take (i + 1) = l.take i ++ [l.getD i 0] := by rw [List.take_add_one, List.getElem?_eq_getElem (by omega), hget]; rfl
  have hr : rd l (i : Int) = l.getD i 0 := rfl
  have ih' := ih k (i + 1) a l ha (by omega) hm
  have hs := Shr.sum_nn hok
  have hlt : (l.take i).length ≤ 480 := by simp; omega
  rw [htake, U.sum_add] at ih'
  obtain ⟨K, hK⟩ : ∃ K, K = k + n + 1 := ⟨_, rfl⟩
  rw [← hK] at ih'
  rw [show k + (n + 1) + 1 = K + 1 by omega]
  simp only [split_Shares.l0]
  rw [if_pos (by omega), if_pos (by omega), if_pos (by omega), hr, hdrop]
  generalize l.getD i 0 = x at *
  by_cases h1 : x < 0
  ·rw [if_pos h1, if_neg (by intro h; have := h x (by simp); omega)]
  ·rw [if_neg h1]
   by_cases h2 : x > 10000000000000
   ·rw [if_pos h2, if_neg (by intro h; have := h x (by simp); omega)]
   ·rw [if_neg h2, M.wrapu_id (n := x) (by omega) (by omega), M.wrapu_id (n := (l.take i).sum + x) (by omega) (by omega), M.w64_id (n := (i : Int) + 1) (by omega) (by omega)]
    have e : (l.take i).sum + [x].sum = (l.take i).sum + x := by simp
    rw [e] at ih'
    have := ih' (by
     intro w hw
     rcases List.mem_append.mp hw with h | h
     ·exact hok w h
     ·simp at h; omega)
    rw [show ((i : Int) + 1) = ((i + 1 : Nat) : Int) by omega, this]
    have hiff : (∀ w ∈ l.drop (i + 1), 0 ≤ w ∧ w ≤ 10000000000000) ↔ (∀ w ∈ x :: l.drop (i + 1), 0 ≤ w ∧ w ≤ 10000000000000) := by
     constructor
     ·intro h w hw
      rcases List.mem_cons.mp hw with rfl | hw
      ·omega
      ·exact h w hw
     ·intro h w hw
      exact h w (by simp [hw])
    by_cases hc : ∀ w ∈ l.drop (i + 1), 0 ≤ w ∧ w ≤ 10000000000000
    ·rw [if_pos hc, if_pos (hiff.mp hc)]
    ·rw [if_neg hc, if_neg (fun h => hc (hiff.mpr h))]

theorem split_Shares.parts (n : Nat) : ∀ (k i : Nat) (a all : Int) (l : List Int), 0 ≤ a ∧ a ≤ 10000000000000 → l.length = i + n → l.length ≤ 480 → (∀ w ∈ l, 0 ≤ w ∧ w ≤ all) → 0 < all ∧ all ≤ 10000000000000 * 480 →
  split_Shares.l1 (k + n + 1) a all ((Shr.qs a all l).take i ++ List.replicate n 0) (a - ((Shr.qs a all l).take i).sum) (Srt.upto i) l (l.length : Int) i ((Shr.rs a all l).take i ++ List.replicate n 0) =
   split_Shares.l1 (k + 1) a all (Shr.qs a all l) (a - (Shr.qs a all l).sum) (Srt.upto l.length) l (l.length : Int) (l.length : Int) (Shr.rs a all l) := by
 induction n with
 | zero =>
  intro k i a all l ha hl hm hok hall
  have h1 : (Shr.qs a all l).take i = Shr.qs a all l := List.take_of_length_le (by simp [Shr.qs]; omega)
  have h2 : (Shr.rs a all l).take i = Shr.rs a all l := List.take_of_length_le (by simp [Shr.rs]; omega)
  have h3 : i = l.length := by omega
  rw [h1, h2, h3]
  simp
 | succ n ih =>
  intro k i a all l ha hl hm hok hall
  have hx := hok (l.getD i 0) (by rw [List.getD_eq_getElem?_getD, List.getElem?_eq_getElem (by omega)]; exact List.getElem_mem _)
  have ih' := ih k (i + 1) a all l ha (by omega) hm hok hall
  have q1 : (Shr.qs a all l).take (i + 1) = (Shr.qs a all l).take i ++ [a * l.getD i 0 / all] := by
   rw [List.take_add_one]
   simp [Shr.qs, List.getD_eq_getElem?_getD, List.getElem?_eq_getElem (show i < l.length by omega)]
  have r1 : (Shr.rs a all l).take (i + 1) = (Shr.rs a all l).take i ++ [a * l.getD i 0 % all] := by
   rw [List.take_add_one]
   simp [Shr.rs, List.getD_eq_getElem?_getD, List.getElem?_eq_getElem (show i < l.length by omega)]
  have u1 : Srt.upto (i + 1) = Srt.upto i ++ [(i : Int)] := by simp [Srt.upto, List.range_succ]
  have lq : ((Shr.qs a all l).take i).length = i := by simp [Shr.qs]; omega
  have lr : ((Shr.rs a all l).take i).length = i := by simp [Shr.rs]; omega
  have hr : rd l (i : Int) = l.getD i 0 := rfl
  rw [q1, r1, u1, U.sum_add] at ih'
  obtain ⟨K, hK⟩ : ∃ K, K = k + n + 1 := ⟨_, rfl⟩
  rw [← hK] at ih'
  rw [show k + (n + 1) + 1 = K + 1 by omega]
  conv => lhs; simp only [split_Shares.l1]
  rw [if_pos (by omega), if_pos (by omega), if_pos (by omega), hr]
  generalize l.getD i 0 = x at *
  have p0 : 0 ≤ a * x := Int.mul_nonneg ha.1 hx.1
  have p1 : a * x ≤ a * all := Int.mul_le_mul_of_nonneg_left hx.2 ha.1
  have d0 : 0 ≤ a * x / all := Int.ediv_nonneg p0 (by omega)
  have d1 : a * x / all ≤ a := by
   have : a * x / all ≤ a * all / all := Int.ediv_le_ediv hall.1 p1
   rw [Int.mul_ediv_cancel _ (by omega)] at this
   exact this
  rw [M.wrapu_id (n := a) (by omega) (by omega), M.wrapu_id (n := x) (by omega) (by omega)]
  have hmul : bits_Mul64_s.f a x = some (a * x / 18446744073709551616, a * x % 18446744073709551616) := by
   unfold bits_Mul64_s.f
   rw [if_pos ⟨by omega, by omega, by omega, by omega⟩]
  have hdiv : bits_Div64_s.f (a * x / 18446744073709551616) (a * x % 18446744073709551616) all = some (a * x / all, a * x % all) := by
   have e1 : a * x ≤ 10000000000000 * (10000000000000 * 480) := by
    have := Int.mul_le_mul ha.2 (show x ≤ 10000000000000 * 480 by omega) hx.1 (by decide)
    omega
   have e2 : a * x < all * 18446744073709551616 := by
    have : a * all ≤ 10000000000000 * all := Int.mul_le_mul_of_nonneg_right ha.2 (by omega)
    omega
   have e3 : a * x / 18446744073709551616 < all := Int.ediv_lt_of_lt_mul (by decide) e2
   have e4 : a * x / 18446744073709551616 * 18446744073709551616 + a * x % 18446744073709551616 = a * x := by omega
   unfold bits_Div64_s.f
   rw [if_pos ⟨by omega, by omega, by omega, by omega, by omega⟩, e4]
  rw [hmul, Option.bind_some, hdiv, Option.bind_some]
  have hset : ∀ (p : List Int) (y : Int), p.length = i → (p ++ List.replicate (n + 1) 0).set (i : Int).toNat y = (p ++ [y]) ++ List.replicate n 0 := by
   intro p y hp
   rw [show ((i : Int)).toNat = i from rfl, List.set_append_right _ _ (by omega), hp, Nat.sub_self, List.replicate_succ, List.set_cons_zero]
   simp
  rw [if_pos (by simp [lq]; omega), if_pos (by simp [lr]; omega), if_pos (by simp [Srt.upto]; omega), hset _ _ lq, hset _ _ lr, M.w64_id (n := a * x / all) (by omega) (by omega), M.w64_id (n := (i : Int) + 1) (by omega) (by omega)]
  have hs0 : 0 ≤ ((Shr.qs a all l).take i).sum ∧ ((Shr.qs a all l).take i).sum ≤ 10000000000000 * 480 := by
   have : ∀ w ∈ (Shr.qs a all l).take i, 0 ≤ w ∧ w ≤ 10000000000000 := by
    intro w hw
    obtain ⟨y, hy, rfl⟩ := List.mem_map.mp (List.mem_of_mem_take hw)
    have hy := hok y hy
    have p0 : 0 ≤ a * y := Int.mul_nonneg ha.1 hy.1
    have p1 : a * y ≤ a * all := Int.mul_le_mul_of_nonneg_left hy.2 ha.1
    have d1 : a * y / all ≤ a * all / all := Int.ediv_le_ediv hall.1 p1
    rw [Int.mul_ediv_cancel _ (by omega)] at d1
    have d0 : 0 ≤ a * y / all := Int.ediv_nonneg p0 (by omega)
    omega
   have h := Shr.sum_nn this
   rw [lq] at h
   omega
  rw [M.w64_id (by omega) (by omega)]
  have e : a - (((Shr.qs a all l).take i).sum + [a * x / all].sum) = a - ((Shr.qs a all l).take i).sum - a * x / all := by simp; omega
  rw [e] at ih'
  exact ih'
theorem Shr.inc_len : ∀ (o q : List Int), (Shr.inc q o).length = q.length
 | [], q => rfl
 | x :: o, q => by
  have := Shr.inc_len o (q.set x.toNat (rd q x + 1))
  simp only [Shr.inc, List.foldl_cons] at *
  rw [this]
  simp
theorem split_Shares.give (n : Nat) : ∀ (k i : Nat) (q o : List Int), o.length = i + n → o.length ≤ 480 → (∀ x ∈ o, 0 ≤ x ∧ x < (q.length : Int)) → (∀ v ∈ q, -1000 ≤ v ∧ v + n ≤ 100000000000000) →
  split_Shares.l2 (k + n + 1) q o (o.length : Int) i = some (Shr.inc q (o.drop i), none) := by
 induction n with
 | zero =>
  intro k i q o hl hm ho hq
  simp only [split_Shares.l2]
  rw [if_neg (by omega), List.drop_eq_nil_of_le (by omega)]
  rfl
 | succ n ih =>
  intro k i q o hl hm ho hq
  have hget : o.getD i 0 = o[i]'(by omega) := by rw [List.getD_eq_getElem?_getD, List.getElem?_eq_getElem (by omega)]; rfl
  have hx := ho (o.getD i 0) (by rw [hget]; exact List.getElem_mem _)
  have hdrop : o.drop i = o.getD i 0 :: o.drop (i + 1) := by rw [List.drop_eq_getElem_cons (by omega), hget]
  have hr : rd o (i : Int) = o.getD i 0 := rfl
  have hv := hq (rd q (o.getD i 0)) (by
   unfold rd
   rw [List.getD_eq_getElem?_getD, List.getElem?_eq_getElem (by omega)]
   exact List.getElem_mem _)
  obtain ⟨K, hK⟩ : ∃ K, K = k + n + 1 := ⟨_, rfl⟩
  have ih' := fun q => ih k (i + 1) q o (by omega) hm
  rw [← hK] at ih'
  rw [show k + (n + 1) + 1 = K + 1 by omega]
  simp only [split_Shares.l2]
  rw [if_pos (by omega), if_pos (by omega), if_pos (by omega), hr, hdrop, if_pos hx.1, if_pos hx.2, M.w64_id (n := (i : Int) + 1) (by omega) (by omega), M.w64_id (n := rd q (o.getD i 0) + 1) (by omega) (by omega)]
  refine ih' _ ?_ ?_
  ·intro x hx
   rw [List.length_set]
   exact ho x hx
  ·intro v hv2
   rcases List.mem_or_eq_of_mem_set hv2 with h | h
   ·have := hq v h; omega
   ·subst h; omega
theorem split_Shares.num (k : Nat) (a : Int) (l : List Int) (ha : M.In a) (hl : ∀ w ∈ l, M.In w) (hm : l.length ≤ 100000) (hk : 2000 ≤ k) : split_Shares.f k a l = some (Shr.res a l) := by
 have hj : ∀ (b : Bool), b = true → ∀ k, 1 ≤ k → split_Shares.j0 k a l b = some ([], some 1) := by
  intro b hb k hk
  obtain ⟨j, rfl⟩ : ∃ j, k = j + 1 := ⟨k - 1, by omega⟩
  subst hb
  simp [split_Shares.j0]
 unfold split_Shares.f Shr.res
 by_cases h1 : a < 0
 ·rw [if_pos h1, hj true rfl k (by omega), if_neg (by unfold Shr.may; omega)]
 ·rw [if_neg h1]
  by_cases h2 : a > 10000000000000
  ·rw [if_pos h2, hj true rfl k (by omega), if_neg (by unfold Shr.may; omega)]
  ·rw [if_neg h2]
   by_cases h3 : (l.length : Int) > 480
   ·rw [hj _ (decide_eq_true h3) k (by omega), if_neg (by unfold Shr.may; omega)]
   ·rw [decide_eq_false h3]
    obtain ⟨k0, hk0⟩ : ∃ k0, k = (k0 + l.length + 1) + 1 := ⟨k - l.length - 2, by omega⟩
    rw [hk0]
    obtain ⟨K, hK⟩ : ∃ K, K = k0 + l.length + 1 := ⟨_, rfl⟩
    have s0 := split_Shares.sum l.length k0 0 a l (by omega) (by omega) (by omega) (by simp)
    rw [← hK] at s0 ⊢
    simp only [split_Shares.j0]
    rw [if_neg (by decide)]
    have e0 : split_Shares.l0 K a l 0 l (l.length : Int) 0 = _ := s0
    rw [e0, List.drop_zero]
    by_cases h4 : ∀ w ∈ l, 0 ≤ w ∧ w ≤ 10000000000000
    ·rw [if_pos h4]
     have hs := Shr.sum_nn h4
     by_cases h5 : l.sum = 0
     ·rw [if_pos h5, if_neg (by unfold Shr.may; omega)]
     ·have hmay : Shr.may a l := ⟨by omega, by omega, by omega, h4, by omega⟩
      have hleft := Shr.left_in hmay
      have hlen : 0 < l.length := by omega
      rw [if_neg h5, if_pos hmay]
      obtain ⟨k1, hk1⟩ : ∃ k1, k0 = k1 + l.length + 1 := ⟨k0 - l.length - 1, by omega⟩
      have hle : ∀ w ∈ l, 0 ≤ w ∧ w ≤ l.sum := fun w hw => ⟨(h4 w hw).1, Shr.le_sum (fun w hw => (h4 w hw).1) w hw⟩
      have p0 := split_Shares.parts l.length k1 0 a l.sum l (by omega) (by omega) (by omega) hle (by omega)
      have p1 : split_Shares.l1 k0 a l.sum (List.replicate l.length 0) a [] l (l.length : Int) 0 (List.replicate l.length 0) = split_Shares.l1 (k1 + 1) a l.sum (Shr.qs a l.sum l) (a - (Shr.qs a l.sum l).sum) (Srt.upto l.length) l (l.length : Int) (l.length : Int) (Shr.rs a l.sum l) := by
       rw [hk1]
       have := p0
       simp only [List.take_zero, List.nil_append, List.sum_nil, Int.sub_zero] at this
       exact this
      rw [p1]
      have lq : (Shr.qs a l.sum l).length = l.length := by simp [Shr.qs]
      have lr : (Shr.rs a l.sum l).length = l.length := by simp [Shr.rs]
      have hok := Srt.ok_upto (r := Shr.rs a l.sum l) (by omega) (by omega)
      have hsp := Srt.spec (r := Shr.rs a l.sum l) (by omega) (by omega)
      rw [lr] at hok hsp
      have lsrt := hsp.1.length_eq
      have lup : (Srt.upto l.length).length = l.length := by simp [Srt.upto]
      rw [lup] at lsrt
      simp only [split_Shares.l1]
      rw [if_neg (by omega), if_pos (show Srt.ok _ _ = true from decide_eq_true hok), if_pos hleft.1, if_pos (by omega), Option.bind_some]
      have lt : ((Srt.srt (Shr.rs a l.sum l) (Srt.upto l.length)).take (a - (Shr.qs a l.sum l).sum).toNat).length ≤ 480 := by simp; omega
      obtain ⟨o, hoo⟩ : ∃ o, o = (Srt.srt (Shr.rs a l.sum l) (Srt.upto l.length)).take (a - (Shr.qs a l.sum l).sum).toNat := ⟨_, rfl⟩
      have hres : Shr.sh a l = Shr.inc (Shr.qs a l.sum l) o := by rw [hoo]; rfl
      rw [hres]
      rw [← hoo] at lt ⊢
      obtain ⟨k2, hk2⟩ : ∃ k2, k1 = k2 + o.length + 1 := ⟨k1 - o.length - 1, by omega⟩
      rw [hk2]
      have g0 := split_Shares.give o.length k2 0 (Shr.qs a l.sum l) o (Nat.zero_add _).symm lt (by
       intro x hx
       rw [hoo] at hx
       have hx := hsp.1.mem_iff.mp (List.mem_of_mem_take hx)
       obtain ⟨i, hi, rfl⟩ := List.mem_map.mp hx
       have := List.mem_range.mp hi
       omega) (by
       intro v hv
       obtain ⟨y, hy, rfl⟩ := List.mem_map.mp hv
       have hy := hle y hy
       have p0 : 0 ≤ a * y := Int.mul_nonneg (by omega) hy.1
       have p1 : a * y ≤ a * l.sum := Int.mul_le_mul_of_nonneg_left hy.2 (by omega)
       have d1 : a * y / l.sum ≤ a * l.sum / l.sum := Int.ediv_le_ediv (by omega) p1
       rw [Int.mul_ediv_cancel _ (by omega)] at d1
       have d0 : 0 ≤ a * y / l.sum := Int.ediv_nonneg p0 (by omega)
       omega)
      exact g0
    ·rw [if_neg h4, if_neg (by unfold Shr.may; intro h; exact h4 h.2.2.2.1)]
theorem Shr.up : Shr.res 100 [1, 1, 1] = ([34, 33, 33], none) := by
 have e : Srt.srt [1, 1, 1] (Srt.upto 3) = [0, 1, 2] := Srt.is (r := [1, 1, 1]) (by decide) (by decide) (by decide) (by decide)
 have q : Shr.qs 100 3 [1, 1, 1] = [33, 33, 33] := by decide
 have r : Shr.rs 100 3 [1, 1, 1] = [1, 1, 1] := by decide
 have s : ([1, 1, 1] : List Int).sum = 3 := by decide
 have l : ([1, 1, 1] : List Int).length = 3 := rfl
 unfold Shr.res Shr.sh
 rw [if_pos (by decide), s, q, r, l, e]
 decide
theorem Shr.res_len (a : Int) (l : List Int) : (Shr.res a l).1.length = if Shr.may a l then l.length else 0 := by
 unfold Shr.res
 split
 ·simp [Shr.sh, Shr.inc_len, Shr.qs]
 ·rfl

/-! ### trivetlaw03_up: function 9 -/
def trivetlaw03_up.f (k : Nat)  : Option (Bool) := (split_Shares.f k 100 (([1, 1, 1] : List Int))).bind fun bt134 => (if bt134.2.isNone = true then (if (bt134.1.length : Int) = 3 then (if 0 < (bt134.1.length : Int) then (if (rd bt134.1 0) = 34 then (if 1 < (bt134.1.length : Int) then (if (rd bt134.1 1) = 33 then (if 2 < (bt134.1.length : Int) then (some ((rd bt134.1 2) == 33)) else (none)) else (some false)) else (none)) else (some false)) else (none)) else (some false)) else (some false))
theorem trivetlaw03_up.mono : ∀ k, LeO (trivetlaw03_up.f k ) (trivetlaw03_up.f (k + 1) ) := by
 intro  k
 unfold trivetlaw03_up.f
 repeat' first
   | (with_reducible exact split_Shares.mono _ _ _)
   | (with_reducible exact LeO.refl _)
   | (with_reducible exact LeO.none _)
   | (with_reducible refine LeO.ite ?_ ?_)
   | (with_reducible refine LeO.bind ?_ (fun _ => ?_))
   | exact split_Shares.mono _ _ _
   | exact LeO.none _
   | refine LeO.ite ?_ ?_
   | refine LeO.bind ?_ (fun _ => ?_)
set_option maxHeartbeats 8000000 in
set_option maxRecDepth 100000 in
theorem trivetlaw03_up.calls (k : Nat)  (r : Bool) (w : World) (h : trivetlaw03_up.f k  = some r) :
  Calls Try.prog 9 #[] w fun e w' => e = .returned (.bool r) ∧ Below w.heap.size w w' := by
 have hu25 := Try.underlying25
 have hu29 := Try.underlying29
 have HB := ka (Below.refl w.heap.size w)
 have H : ((split_Shares.f k 100 (([1, 1, 1] : List Int))).bind fun bt134 => (if bt134.2.isNone = true then (if (bt134.1.length : Int) = 3 then (if 0 < (bt134.1.length : Int) then (if (rd bt134.1 0) = 34 then (if 1 < (bt134.1.length : Int) then (if (rd bt134.1 1) = 33 then (if 2 < (bt134.1.length : Int) then (some ((rd bt134.1 2) == 33)) else (none)) else (some false)) else (none)) else (some false)) else (none)) else (some false)) else (some false))) = some r := h
 clear h
 obtain ⟨y131, hy131⟩ : ∃ y_ : List Int, y_ = (([1, 1, 1] : List Int)) := ⟨_, rfl⟩
 replace H : ((split_Shares.f k 100 y131).bind fun bt134 => (if bt134.2.isNone = true then (if (bt134.1.length : Int) = 3 then (if 0 < (bt134.1.length : Int) then (if (rd bt134.1 0) = 34 then (if 1 < (bt134.1.length : Int) then (if (rd bt134.1 1) = 33 then (if 2 < (bt134.1.length : Int) then (some ((rd bt134.1 2) == 33)) else (none)) else (some false)) else (none)) else (some false)) else (none)) else (some false)) else (some false))) = some r := by first | (rw [hy131]; with_reducible exact H) | (have H2_ := (Option.bind_some _ _).symm.trans H; rw [hy131]; with_reducible exact H2_) | (have H2_ := (Option.bind_some _ _).symm.trans H; with_reducible exact H2_) | with_reducible exact H | (rw [hy131]; exact H) | exact H
 have Ny131 := ka hy131
 clear hy131
 replace H := Option.bind_eq_some_iff.mp H
 obtain ⟨⟨t134, t135⟩, A10, H⟩ := H
 replace H : (if t135.isNone = true then (if (t134.length : Int) = 3 then (if 0 < (t134.length : Int) then (if (rd t134 0) = 34 then (if 1 < (t134.length : Int) then (if (rd t134 1) = 33 then (if 2 < (t134.length : Int) then (some ((rd t134 2) == 33)) else (none)) else (some false)) else (none)) else (some false)) else (none)) else (some false)) else (some false)) = some r := H
 have A1 := ka A10
 clear A10
 rcases t135 with _ | q138
 ·have H1 : (if (t134.length : Int) = 3 then (if 0 < (t134.length : Int) then (if (rd t134 0) = 34 then (if 1 < (t134.length : Int) then (if (rd t134 1) = 33 then (if 2 < (t134.length : Int) then (some ((rd t134 2) == 33)) else (none)) else (some false)) else (none)) else (some false)) else (none)) else (some false)) = some r := by rw [if_pos (show (none : Option Int).isNone = true by rfl)] at H; exact H
  clear H
  have H := H1
  clear H1
  try simp only [errW_none, errW_some]
  by_cases c2 : (t134.length : Int) = 3
  ·rw [if_pos c2] at H
   have c2b0 : ((t134.length : Int) == 3) = true := beq_iff_eq.mpr c2
   have c2b1 : ((t134.length : Int) != 3) = false := bne_eq_false_iff_eq.mpr c2
   clear c2
   by_cases c3 : 0 < (t134.length : Int)
   ·rw [if_pos c3] at H
    have c3b0 : decide (0 < (t134.length : Int)) = true := decide_eq_true c3
    have c3b1 : decide (0 < t134.length) = true := decide_eq_true (by omega)
    clear c3
    by_cases c4 : (rd t134 0) = 34
    ·rw [if_pos c4] at H
     have c4b0 : ((rd t134 0) == 34) = true := beq_iff_eq.mpr c4
     have c4b1 : ((rd t134 0) != 34) = false := bne_eq_false_iff_eq.mpr c4
     clear c4
     by_cases c5 : 1 < (t134.length : Int)
     ·rw [if_pos c5] at H
      have c5b0 : decide (1 < (t134.length : Int)) = true := decide_eq_true c5
      have c5b1 : decide (1 < t134.length) = true := decide_eq_true (by omega)
      clear c5
      by_cases c6 : (rd t134 1) = 33
      ·rw [if_pos c6] at H
       have c6b0 : ((rd t134 1) == 33) = true := beq_iff_eq.mpr c6
       have c6b1 : ((rd t134 1) != 33) = false := bne_eq_false_iff_eq.mpr c6
       clear c6
       by_cases c7 : 2 < (t134.length : Int)
       ·rw [if_pos c7] at H
        have c7b0 : decide (2 < (t134.length : Int)) = true := decide_eq_true c7
        have c7b1 : decide (2 < t134.length) = true := decide_eq_true (by omega)
        clear c7
        obtain rfl := Option.some.inj H
        go_enter Try.func9, Try.ntmps9
        go_wp2_with (first | ((with_reducible refine gate_dst (N := 4) rfl ?_); (try (refine gate_guard (by rfl) ?_; dsimp only)); refine Kd.R_lit (Kd.int .i64) _ 2 ?hg (N := 4) ?hd (xs := ([1, 1, 1] : List Int)) (inner := [.int .i64 1, .int .i64 1, .int .i64 1]) (ok := fun _ => True) (okp := fun _ => True) ?hr ?hp (fun _ hk => hk) trivial (Below.refl _ _) (Nat.le_refl _) (by simp) ?_; (case hd => rfl); (case hg => rfl); (case hr => first | (go_simp; done) | (go_simp; rfl)); (case hp => exact (Reps.one (show Kd.M (Kd.int .i64) _ _ _ 1 [.int .i64 1] from rfl) (Reps.one (show Kd.M (Kd.int .i64) _ _ _ 1 [.int .i64 1] from rfl) (Reps.one (show Kd.M (Kd.int .i64) _ _ _ 1 [.int .i64 1] from rfl) (Reps.none _ _))))); intro v132 w8 ho9 hb hg_ hnew_; clear hg_ hnew_; (first | rw [← Ny131.out] at ho9 | (simp only [Int.reduceToNat] at ho9; rw [← Ny131.out] at ho9)); have HO133 := ka (Kd.R_lower ho9 (below_size (kw HB.out))); replace HB := ka (below_step (kw HB.out) hb); clear hb ho9; obtain ⟨Ao10, co10, eo10⟩ := Kd.R_slice HO133.out; subst eo10) | ((with_reducible refine gate_callee (f := 10) rfl ?_); refine kg (some 5) rfl rfl Try.func10 (by kernel_rfl) rfl #[.int .i64 100, .slice Ao10 y131.length co10] rfl ?_; (with_reducible refine (split_Shares.calls k 100 _ _ y131 t134 none _ ?side1 ?side2 A1.out).mono ?_); (case side1 => repeat (first | exact (Kd.R_reads' HO133.out).2.2 | (with_reducible refine Kd.C_alloc ?_ _) | (with_reducible refine Kd.C_drewN ?_ _) | (with_reducible refine Kd.C_drew ?_))); (case side2 => exact (Kd.R_reads' HO133.out).2.1); rintro e w11 ⟨v136, rfl, ho0, hb⟩; refine ⟨_, rfl, ?_⟩; have HO137 := ka (Kd.R_lower (Kd.R_new' ho0 (Kd.R_lt (kr HO133.out))) (below_size (kw HB.out))); replace HO133 := ka (Kd.R_elder' (kr HO133.out) (Kd.R_base ho0) hb); replace HB := ka (below_step (kw HB.out) hb); (try clear hb); (try clear hb2); (try clear hk); (try clear hi); (try clear ho0); (try simp only [errW_none, errW_some]); obtain ⟨Ao12, co12, eo12⟩ := Kd.R_slice HO137.out; subst eo12; have p139 : 0 ≤ (0 : Int) := (by omega); have q139 : 0 < (t134.length : Int) := of_decide_eq_true (by first | (with_reducible assumption) | assumption); obtain ⟨ad139, e139, hx139_0⟩ := Kd.at_int (Kd.R_reads' HO137.out).2.2 0 p139 q139; cases e139; have qi139 : (0 < t134.length) = True := eq_true (by omega); (try rw [show ((0 : Int)).toNat = 0 from rfl] at hx139_0); (try rw [Addr.add_zero'] at hx139_0); replace p139 := eq_true p139; replace q139 := eq_true q139; have p140 : 0 ≤ (1 : Int) := (by omega); have q140 : 1 < (t134.length : Int) := of_decide_eq_true (by first | (with_reducible assumption) | assumption); obtain ⟨ad140, e140, hx140_0⟩ := Kd.at_int (Kd.R_reads' HO137.out).2.2 1 p140 q140; obtain rfl : ad139 = ad140 := (by injection e140); (try simp only [show (1 : Int).toNat = 1 from rfl, Nat.reduceMul, Nat.reduceEqDiff, Go.Addr.add, ↓reduceIte] at hx140_0); have qi140 : (1 < t134.length) = True := eq_true (by omega); (try rw [show ((1 : Int)).toNat = 1 from rfl] at hx140_0); replace p140 := eq_true p140; replace q140 := eq_true q140; have p141 : 0 ≤ (2 : Int) := (by omega); have q141 : 2 < (t134.length : Int) := of_decide_eq_true (by first | (with_reducible assumption) | assumption); obtain ⟨ad141, e141, hx141_0⟩ := Kd.at_int (Kd.R_reads' HO137.out).2.2 2 p141 q141; obtain rfl : ad139 = ad141 := (by injection e141); (try simp only [show (2 : Int).toNat = 2 from rfl, Nat.reduceMul, Nat.reduceEqDiff, Go.Addr.add, ↓reduceIte] at hx141_0); have qi141 : (2 < t134.length) = True := eq_true (by omega); (try rw [show ((2 : Int)).toNat = 2 from rfl] at hx141_0); replace p141 := eq_true p141; replace q141 := eq_true q141))
        go_ret
        exact ⟨by first | rfl | (simp [errW_none, errW_some] <;> rfl) | (simp [*, errW_none, errW_some] <;> rfl), by repeat (first | (with_reducible first | exact HB.out | apply kc1 | apply kc2 | apply kc3) | exact HB.out)⟩
       ·rw [if_neg c7] at H
        exact absurd H (by simp)
      ·rw [if_neg c6] at H
       have c6b0 : ((rd t134 1) == 33) = false := beq_eq_false_iff_ne.mpr c6
       have c6b1 : ((rd t134 1) != 33) = true := bne_iff_ne.mpr c6
       obtain rfl := Option.some.inj H
       go_enter Try.func9, Try.ntmps9
       go_wp2_with (first | ((with_reducible refine gate_dst (N := 4) rfl ?_); (try (refine gate_guard (by rfl) ?_; dsimp only)); refine Kd.R_lit (Kd.int .i64) _ 2 ?hg (N := 4) ?hd (xs := ([1, 1, 1] : List Int)) (inner := [.int .i64 1, .int .i64 1, .int .i64 1]) (ok := fun _ => True) (okp := fun _ => True) ?hr ?hp (fun _ hk => hk) trivial (Below.refl _ _) (Nat.le_refl _) (by simp) ?_; (case hd => rfl); (case hg => rfl); (case hr => first | (go_simp; done) | (go_simp; rfl)); (case hp => exact (Reps.one (show Kd.M (Kd.int .i64) _ _ _ 1 [.int .i64 1] from rfl) (Reps.one (show Kd.M (Kd.int .i64) _ _ _ 1 [.int .i64 1] from rfl) (Reps.one (show Kd.M (Kd.int .i64) _ _ _ 1 [.int .i64 1] from rfl) (Reps.none _ _))))); intro v132 w13 ho14 hb hg_ hnew_; clear hg_ hnew_; (first | rw [← Ny131.out] at ho14 | (simp only [Int.reduceToNat] at ho14; rw [← Ny131.out] at ho14)); have HO133 := ka (Kd.R_lower ho14 (below_size (kw HB.out))); replace HB := ka (below_step (kw HB.out) hb); clear hb ho14; obtain ⟨Ao15, co15, eo15⟩ := Kd.R_slice HO133.out; subst eo15) | ((with_reducible refine gate_callee (f := 10) rfl ?_); refine kg (some 5) rfl rfl Try.func10 (by kernel_rfl) rfl #[.int .i64 100, .slice Ao15 y131.length co15] rfl ?_; (with_reducible refine (split_Shares.calls k 100 _ _ y131 t134 none _ ?side1 ?side2 A1.out).mono ?_); (case side1 => repeat (first | exact (Kd.R_reads' HO133.out).2.2 | (with_reducible refine Kd.C_alloc ?_ _) | (with_reducible refine Kd.C_drewN ?_ _) | (with_reducible refine Kd.C_drew ?_))); (case side2 => exact (Kd.R_reads' HO133.out).2.1); rintro e w16 ⟨v136, rfl, ho0, hb⟩; refine ⟨_, rfl, ?_⟩; have HO137 := ka (Kd.R_lower (Kd.R_new' ho0 (Kd.R_lt (kr HO133.out))) (below_size (kw HB.out))); replace HO133 := ka (Kd.R_elder' (kr HO133.out) (Kd.R_base ho0) hb); replace HB := ka (below_step (kw HB.out) hb); (try clear hb); (try clear hb2); (try clear hk); (try clear hi); (try clear ho0); (try simp only [errW_none, errW_some]); obtain ⟨Ao17, co17, eo17⟩ := Kd.R_slice HO137.out; subst eo17; have p139 : 0 ≤ (0 : Int) := (by omega); have q139 : 0 < (t134.length : Int) := of_decide_eq_true (by first | (with_reducible assumption) | assumption); obtain ⟨ad139, e139, hx139_0⟩ := Kd.at_int (Kd.R_reads' HO137.out).2.2 0 p139 q139; cases e139; have qi139 : (0 < t134.length) = True := eq_true (by omega); (try rw [show ((0 : Int)).toNat = 0 from rfl] at hx139_0); (try rw [Addr.add_zero'] at hx139_0); replace p139 := eq_true p139; replace q139 := eq_true q139; have p140 : 0 ≤ (1 : Int) := (by omega); have q140 : 1 < (t134.length : Int) := of_decide_eq_true (by first | (with_reducible assumption) | assumption); obtain ⟨ad140, e140, hx140_0⟩ := Kd.at_int (Kd.R_reads' HO137.out).2.2 1 p140 q140; obtain rfl : ad139 = ad140 := (by injection e140); (try simp only [show (1 : Int).toNat = 1 from rfl, Nat.reduceMul, Nat.reduceEqDiff, Go.Addr.add, ↓reduceIte] at hx140_0); have qi140 : (1 < t134.length) = True := eq_true (by omega); (try rw [show ((1 : Int)).toNat = 1 from rfl] at hx140_0); replace p140 := eq_true p140; replace q140 := eq_true q140))
       go_ret
       exact ⟨by first | rfl | (simp [errW_none, errW_some] <;> rfl) | (simp [*, errW_none, errW_some] <;> rfl), by repeat (first | (with_reducible first | exact HB.out | apply kc1 | apply kc2 | apply kc3) | exact HB.out)⟩
     ·rw [if_neg c5] at H
      exact absurd H (by simp)
    ·rw [if_neg c4] at H
     have c4b0 : ((rd t134 0) == 34) = false := beq_eq_false_iff_ne.mpr c4
     have c4b1 : ((rd t134 0) != 34) = true := bne_iff_ne.mpr c4
     obtain rfl := Option.some.inj H
     go_enter Try.func9, Try.ntmps9
     go_wp2_with (first | ((with_reducible refine gate_dst (N := 4) rfl ?_); (try (refine gate_guard (by rfl) ?_; dsimp only)); refine Kd.R_lit (Kd.int .i64) _ 2 ?hg (N := 4) ?hd (xs := ([1, 1, 1] : List Int)) (inner := [.int .i64 1, .int .i64 1, .int .i64 1]) (ok := fun _ => True) (okp := fun _ => True) ?hr ?hp (fun _ hk => hk) trivial (Below.refl _ _) (Nat.le_refl _) (by simp) ?_; (case hd => rfl); (case hg => rfl); (case hr => first | (go_simp; done) | (go_simp; rfl)); (case hp => exact (Reps.one (show Kd.M (Kd.int .i64) _ _ _ 1 [.int .i64 1] from rfl) (Reps.one (show Kd.M (Kd.int .i64) _ _ _ 1 [.int .i64 1] from rfl) (Reps.one (show Kd.M (Kd.int .i64) _ _ _ 1 [.int .i64 1] from rfl) (Reps.none _ _))))); intro v132 w18 ho19 hb hg_ hnew_; clear hg_ hnew_; (first | rw [← Ny131.out] at ho19 | (simp only [Int.reduceToNat] at ho19; rw [← Ny131.out] at ho19)); have HO133 := ka (Kd.R_lower ho19 (below_size (kw HB.out))); replace HB := ka (below_step (kw HB.out) hb); clear hb ho19; obtain ⟨Ao20, co20, eo20⟩ := Kd.R_slice HO133.out; subst eo20) | ((with_reducible refine gate_callee (f := 10) rfl ?_); refine kg (some 5) rfl rfl Try.func10 (by kernel_rfl) rfl #[.int .i64 100, .slice Ao20 y131.length co20] rfl ?_; (with_reducible refine (split_Shares.calls k 100 _ _ y131 t134 none _ ?side1 ?side2 A1.out).mono ?_); (case side1 => repeat (first | exact (Kd.R_reads' HO133.out).2.2 | (with_reducible refine Kd.C_alloc ?_ _) | (with_reducible refine Kd.C_drewN ?_ _) | (with_reducible refine Kd.C_drew ?_))); (case side2 => exact (Kd.R_reads' HO133.out).2.1); rintro e w21 ⟨v136, rfl, ho0, hb⟩; refine ⟨_, rfl, ?_⟩; have HO137 := ka (Kd.R_lower (Kd.R_new' ho0 (Kd.R_lt (kr HO133.out))) (below_size (kw HB.out))); replace HO133 := ka (Kd.R_elder' (kr HO133.out) (Kd.R_base ho0) hb); replace HB := ka (below_step (kw HB.out) hb); (try clear hb); (try clear hb2); (try clear hk); (try clear hi); (try clear ho0); (try simp only [errW_none, errW_some]); obtain ⟨Ao22, co22, eo22⟩ := Kd.R_slice HO137.out; subst eo22; have p139 : 0 ≤ (0 : Int) := (by omega); have q139 : 0 < (t134.length : Int) := of_decide_eq_true (by first | (with_reducible assumption) | assumption); obtain ⟨ad139, e139, hx139_0⟩ := Kd.at_int (Kd.R_reads' HO137.out).2.2 0 p139 q139; cases e139; have qi139 : (0 < t134.length) = True := eq_true (by omega); (try rw [show ((0 : Int)).toNat = 0 from rfl] at hx139_0); (try rw [Addr.add_zero'] at hx139_0); replace p139 := eq_true p139; replace q139 := eq_true q139))
     go_ret
     exact ⟨by first | rfl | (simp [errW_none, errW_some] <;> rfl) | (simp [*, errW_none, errW_some] <;> rfl), by repeat (first | (with_reducible first | exact HB.out | apply kc1 | apply kc2 | apply kc3) | exact HB.out)⟩
   ·rw [if_neg c3] at H
    exact absurd H (by simp)
  ·rw [if_neg c2] at H
   have c2b0 : ((t134.length : Int) == 3) = false := beq_eq_false_iff_ne.mpr c2
   have c2b1 : ((t134.length : Int) != 3) = true := bne_iff_ne.mpr c2
   obtain rfl := Option.some.inj H
   go_enter Try.func9, Try.ntmps9
   go_wp2_with (first | ((with_reducible refine gate_dst (N := 4) rfl ?_); (try (refine gate_guard (by rfl) ?_; dsimp only)); refine Kd.R_lit (Kd.int .i64) _ 2 ?hg (N := 4) ?hd (xs := ([1, 1, 1] : List Int)) (inner := [.int .i64 1, .int .i64 1, .int .i64 1]) (ok := fun _ => True) (okp := fun _ => True) ?hr ?hp (fun _ hk => hk) trivial (Below.refl _ _) (Nat.le_refl _) (by simp) ?_; (case hd => rfl); (case hg => rfl); (case hr => first | (go_simp; done) | (go_simp; rfl)); (case hp => exact (Reps.one (show Kd.M (Kd.int .i64) _ _ _ 1 [.int .i64 1] from rfl) (Reps.one (show Kd.M (Kd.int .i64) _ _ _ 1 [.int .i64 1] from rfl) (Reps.one (show Kd.M (Kd.int .i64) _ _ _ 1 [.int .i64 1] from rfl) (Reps.none _ _))))); intro v132 w23 ho24 hb hg_ hnew_; clear hg_ hnew_; (first | rw [← Ny131.out] at ho24 | (simp only [Int.reduceToNat] at ho24; rw [← Ny131.out] at ho24)); have HO133 := ka (Kd.R_lower ho24 (below_size (kw HB.out))); replace HB := ka (below_step (kw HB.out) hb); clear hb ho24; obtain ⟨Ao25, co25, eo25⟩ := Kd.R_slice HO133.out; subst eo25) | ((with_reducible refine gate_callee (f := 10) rfl ?_); refine kg (some 5) rfl rfl Try.func10 (by kernel_rfl) rfl #[.int .i64 100, .slice Ao25 y131.length co25] rfl ?_; (with_reducible refine (split_Shares.calls k 100 _ _ y131 t134 none _ ?side1 ?side2 A1.out).mono ?_); (case side1 => repeat (first | exact (Kd.R_reads' HO133.out).2.2 | (with_reducible refine Kd.C_alloc ?_ _) | (with_reducible refine Kd.C_drewN ?_ _) | (with_reducible refine Kd.C_drew ?_))); (case side2 => exact (Kd.R_reads' HO133.out).2.1); rintro e w26 ⟨v136, rfl, ho0, hb⟩; refine ⟨_, rfl, ?_⟩; have HO137 := ka (Kd.R_lower (Kd.R_new' ho0 (Kd.R_lt (kr HO133.out))) (below_size (kw HB.out))); replace HO133 := ka (Kd.R_elder' (kr HO133.out) (Kd.R_base ho0) hb); replace HB := ka (below_step (kw HB.out) hb); (try clear hb); (try clear hb2); (try clear hk); (try clear hi); (try clear ho0); (try simp only [errW_none, errW_some]); obtain ⟨Ao27, co27, eo27⟩ := Kd.R_slice HO137.out; subst eo27))
   go_ret
   exact ⟨by first | rfl | (simp [errW_none, errW_some] <;> rfl) | (simp [*, errW_none, errW_some] <;> rfl), by repeat (first | (with_reducible first | exact HB.out | apply kc1 | apply kc2 | apply kc3) | exact HB.out)⟩
 ·have H1 : (some false) = some r := by rw [if_neg (show ¬ (some q138).isNone = true by simp)] at H; exact H
  clear H
  have H := H1
  clear H1
  try simp only [errW_none, errW_some]
  obtain rfl := Option.some.inj H
  go_enter Try.func9, Try.ntmps9
  go_wp2_with (first | ((with_reducible refine gate_dst (N := 4) rfl ?_); (try (refine gate_guard (by rfl) ?_; dsimp only)); refine Kd.R_lit (Kd.int .i64) _ 2 ?hg (N := 4) ?hd (xs := ([1, 1, 1] : List Int)) (inner := [.int .i64 1, .int .i64 1, .int .i64 1]) (ok := fun _ => True) (okp := fun _ => True) ?hr ?hp (fun _ hk => hk) trivial (Below.refl _ _) (Nat.le_refl _) (by simp) ?_; (case hd => rfl); (case hg => rfl); (case hr => first | (go_simp; done) | (go_simp; rfl)); (case hp => exact (Reps.one (show Kd.M (Kd.int .i64) _ _ _ 1 [.int .i64 1] from rfl) (Reps.one (show Kd.M (Kd.int .i64) _ _ _ 1 [.int .i64 1] from rfl) (Reps.one (show Kd.M (Kd.int .i64) _ _ _ 1 [.int .i64 1] from rfl) (Reps.none _ _))))); intro v132 w28 ho29 hb hg_ hnew_; clear hg_ hnew_; (first | rw [← Ny131.out] at ho29 | (simp only [Int.reduceToNat] at ho29; rw [← Ny131.out] at ho29)); have HO133 := ka (Kd.R_lower ho29 (below_size (kw HB.out))); replace HB := ka (below_step (kw HB.out) hb); clear hb ho29; obtain ⟨Ao30, co30, eo30⟩ := Kd.R_slice HO133.out; subst eo30) | ((with_reducible refine gate_callee (f := 10) rfl ?_); refine kg (some 5) rfl rfl Try.func10 (by kernel_rfl) rfl #[.int .i64 100, .slice Ao30 y131.length co30] rfl ?_; (with_reducible refine (split_Shares.calls k 100 _ _ y131 t134 (some q138) _ ?side1 ?side2 A1.out).mono ?_); (case side1 => repeat (first | exact (Kd.R_reads' HO133.out).2.2 | (with_reducible refine Kd.C_alloc ?_ _) | (with_reducible refine Kd.C_drewN ?_ _) | (with_reducible refine Kd.C_drew ?_))); (case side2 => exact (Kd.R_reads' HO133.out).2.1); rintro e w31 ⟨v136, rfl, ho0, hb⟩; refine ⟨_, rfl, ?_⟩; have HO137 := ka (Kd.R_lower (Kd.R_new' ho0 (Kd.R_lt (kr HO133.out))) (below_size (kw HB.out))); replace HO133 := ka (Kd.R_elder' (kr HO133.out) (Kd.R_base ho0) hb); replace HB := ka (below_step (kw HB.out) hb); (try clear hb); (try clear hb2); (try clear hk); (try clear hi); (try clear ho0); (try simp only [errW_none, errW_some])))
  go_ret
  exact ⟨by first | rfl | (simp [errW_none, errW_some] <;> rfl) | (simp [*, errW_none, errW_some] <;> rfl), by repeat (first | (with_reducible first | exact HB.out | apply kc1 | apply kc2 | apply kc3) | exact HB.out)⟩

/-! ### trivetlaw03_up: function 9, its laws -/
theorem trivetlaw03_up.num (k : Nat) (hk : 2000 ≤ k) : trivetlaw03_up.f k = some true := by
 unfold trivetlaw03_up.f
 rw [split_Shares.num k 100 [1, 1, 1] (by decide) (by decide) (by decide) hk, Option.bind_some, Shr.up]
 decide

/-! ### trivetlaw03_same: function 12 -/
def trivetlaw03_same.l0 : Nat → List Int → List Int → Int → Option (Bool)
 | 0, _, _, _ => none
 | k + 1, x0, x1, x5 => if x5 < (x0.length : Int) then (if 0 ≤ x5 then (if x5 < (x1.length : Int) then (if (rd x0 x5) = (rd x1 x5) then (trivetlaw03_same.l0 k x0 x1 (wrap64 (x5 + 1))) else (some false)) else (none)) else (none)) else (some true)
def trivetlaw03_same.f (k : Nat) (l0 : List Int) (l1 : List Int) : Option (Bool) := if (l0.length : Int) = (l1.length : Int) then (trivetlaw03_same.l0 k l0 l1 0) else (some false)
theorem trivetlaw03_same.mono_l : ∀ k, (∀ y0 y1 y2, LeO (trivetlaw03_same.l0 k y0 y1 y2) (trivetlaw03_same.l0 (k + 1) y0 y1 y2))
 | 0 => fun _ _ _ r h => by simp [trivetlaw03_same.l0] at h
 | k + 1 => by
  have ih0 := trivetlaw03_same.mono_l k
  ·intro y0 y1 y2
   unfold trivetlaw03_same.l0
   repeat' first
   | (with_reducible exact ih0 _ _ _)
   | (with_reducible exact LeO.refl _)
   | (with_reducible exact LeO.none _)
   | (with_reducible refine LeO.ite ?_ ?_)
   | (with_reducible refine LeO.bind ?_ (fun _ => ?_))
   | exact ih0 _ _ _
   | exact LeO.none _
   | refine LeO.ite ?_ ?_
   | refine LeO.bind ?_ (fun _ => ?_)
theorem trivetlaw03_same.mono : ∀ a0 a1 k, LeO (trivetlaw03_same.f k a0 a1) (trivetlaw03_same.f (k + 1) a0 a1) := by
 intro a0 a1 k
 have ih0 := trivetlaw03_same.mono_l k
 unfold trivetlaw03_same.f
 repeat' first
   | (with_reducible exact ih0 _ _ _)
   | (with_reducible exact LeO.refl _)
   | (with_reducible exact LeO.none _)
   | (with_reducible refine LeO.ite ?_ ?_)
   | (with_reducible refine LeO.bind ?_ (fun _ => ?_))
   | exact ih0 _ _ _
   | exact LeO.none _
   | refine LeO.ite ?_ ?_
   | refine LeO.bind ?_ (fun _ => ?_)
set_option maxHeartbeats 8000000 in
set_option maxRecDepth 100000 in
theorem trivetlaw03_same.calls (k : Nat) (A0 : Option Addr) (c0 : Nat) (l0 : List Int) (A1 : Option Addr) (c1 : Nat) (l1 : List Int) (r : Bool) (w : World) (hr0 : Kd.C (Kd.int .i64) w A0 l0.length l0) (hc0 : l0.length ≤ c0) (hr1 : Kd.C (Kd.int .i64) w A1 l1.length l1) (hc1 : l1.length ≤ c1) (h : trivetlaw03_same.f k l0 l1 = some r) :
  Calls Try.prog 12 #[.slice A0 l0.length c0, .slice A1 l1.length c1] w fun e w' => e = .returned (.bool r) ∧ Drawn0 w w' := by
 have HR0 := ka hr0
 have HC0 := ka hc0
 clear hr0 hc0
 have HR1 := ka hr1
 have HC1 := ka hc1
 clear hr1 hc1
 have H : (if (l0.length : Int) = (l1.length : Int) then (trivetlaw03_same.l0 k l0 l1 0) else (some false)) = some r := h
 clear h
 by_cases c3 : (l0.length : Int) = (l1.length : Int)
 ·rw [if_pos c3] at H
  have c3b0 : ((l0.length : Int) == (l1.length : Int)) = true := beq_iff_eq.mpr c3
  have c3b1 : ((l0.length : Int) != (l1.length : Int)) = false := bne_eq_false_iff_eq.mpr c3
  have c3b2 : (l0.length == l1.length) = true := by first | simpa using c3 | (simp at c3 ⊢; omega)
  clear c3
  have H' := ka H
  clear H
  go_enter Try.func12, Try.ntmps12
  go_wp2
  repeat (go_quiet (fail); try go_wp2)
  (try simp only [Act.put, List.setIfInBounds_toArray, List.set_cons_zero, List.set_cons_succ])
  go_loopg [5] k (fun kq v5 w' => ∃ (x5_1 : Int), v5 = .int .i64 x5_1 ∧ Aside0 (trivetlaw03_same.l0 kq l0 l1 x5_1 = some r) ∧ Aside0 (kq ≤ k) ∧ Drawn0 w w')
  case atStart => exact ⟨(0), (by first | rfl | (simp; done) | (simp [*]; done)), H', ⟨Nat.le_refl _⟩, by repeat (first | exact Drawn0.refl _ | apply Drawn0.step)⟩
  case round =>
   clear H'
   try clear c1
   try clear p2
   try clear c3
   try clear c3b0
   try clear c3b1
   try clear c3b2
   obtain ⟨x5_1, rfl, HA, HK1, ⟨m1, rfl⟩⟩ := hrel
   cases gk with
   | zero => exact absurd HA.out (by simp [trivetlaw03_same.l0])
   | succ k1 =>
    have H := HA.out
    clear HA
    simp only [trivetlaw03_same.l0] at H
    by_cases c4 : x5_1 < (l0.length : Int)
    ·rw [if_pos c4] at H
     have c4b0 : decide (x5_1 < (l0.length : Int)) = true := decide_eq_true c4
     clear c4
     by_cases c5 : 0 ≤ x5_1
     ·rw [if_pos c5] at H
      have c5b0 : decide (0 ≤ x5_1) = true := decide_eq_true c5
      clear c5
      by_cases c6 : x5_1 < (l1.length : Int)
      ·rw [if_pos c6] at H
       have c6b0 : decide (x5_1 < (l1.length : Int)) = true := decide_eq_true c6
       clear c6
       by_cases c7 : (rd l0 x5_1) = (rd l1 x5_1)
       ·rw [if_pos c7] at H
        have c7b0 : ((rd l0 x5_1) == (rd l1 x5_1)) = true := beq_iff_eq.mpr c7
        have c7b1 : ((rd l0 x5_1) != (rd l1 x5_1)) = false := bne_eq_false_iff_eq.mpr c7
        clear c7
        have H' := ka H
        clear H
        have p142 : 0 ≤ (x5_1 : Int) := of_decide_eq_true (by first | (with_reducible assumption) | assumption)
        have q142 : x5_1 < (l0.length : Int) := of_decide_eq_true (by first | (with_reducible assumption) | assumption)
        obtain ⟨ad142, e142, hx142_0⟩ := Kd.at_int HR0.out x5_1 p142 q142
        cases e142
        replace p142 := eq_true p142
        replace q142 := eq_true q142
        have p143 : 0 ≤ (x5_1 : Int) := of_decide_eq_true (by first | (with_reducible assumption) | assumption)
        have q143 : x5_1 < (l1.length : Int) := of_decide_eq_true (by first | (with_reducible assumption) | assumption)
        obtain ⟨ad143, e143, hx143_0⟩ := Kd.at_int HR1.out x5_1 p143 q143
        cases e143
        replace p143 := eq_true p143
        replace q143 := eq_true q143
        go_wp2
        repeat (go_quiet (fail); try go_wp2)
        go_roundg k1
        case measure => have := HK1.out; omega
        case rel => exact ⟨(wrap64 (x5_1 + 1)), (by first | rfl | (simp; done) | (simp [*]; done)), H', ⟨by have := HK1.out; omega⟩, by repeat (first | exact Drawn0.refl _ | apply Drawn0.step)⟩
       ·rw [if_neg c7] at H
        have c7b0 : ((rd l0 x5_1) == (rd l1 x5_1)) = false := beq_eq_false_iff_ne.mpr c7
        have c7b1 : ((rd l0 x5_1) != (rd l1 x5_1)) = true := bne_iff_ne.mpr c7
        obtain rfl := Option.some.inj H
        have p142 : 0 ≤ (x5_1 : Int) := of_decide_eq_true (by first | (with_reducible assumption) | assumption)
        have q142 : x5_1 < (l0.length : Int) := of_decide_eq_true (by first | (with_reducible assumption) | assumption)
        obtain ⟨ad142, e142, hx142_0⟩ := Kd.at_int HR0.out x5_1 p142 q142
        cases e142
        replace p142 := eq_true p142
        replace q142 := eq_true q142
        have p143 : 0 ≤ (x5_1 : Int) := of_decide_eq_true (by first | (with_reducible assumption) | assumption)
        have q143 : x5_1 < (l1.length : Int) := of_decide_eq_true (by first | (with_reducible assumption) | assumption)
        obtain ⟨ad143, e143, hx143_0⟩ := Kd.at_int HR1.out x5_1 p143 q143
        cases e143
        replace p143 := eq_true p143
        replace q143 := eq_true q143
        go_wp2
        repeat (go_quiet (fail); try go_wp2)
        go_ret
        exact ⟨by first | rfl | (simp; done) | (simp [*]; done), by repeat (first | exact Drawn0.refl _ | apply Drawn0.step)⟩
      ·rw [if_neg c6] at H
       exact absurd H (by simp)
     ·rw [if_neg c5] at H
      exact absurd H (by simp)
    ·rw [if_neg c4] at H
     have c4b0 : decide (x5_1 < (l0.length : Int)) = false := decide_eq_false c4
     clear c4
     obtain rfl := Option.some.inj H
     go_wp2
     repeat (go_quiet (fail); try go_wp2)
     go_ret
     exact ⟨by first | rfl | (simp; done) | (simp [*]; done), by repeat (first | exact Drawn0.refl _ | apply Drawn0.step)⟩
 ·rw [if_neg c3] at H
  have c3b0 : ((l0.length : Int) == (l1.length : Int)) = false := beq_eq_false_iff_ne.mpr c3
  have c3b1 : ((l0.length : Int) != (l1.length : Int)) = true := bne_iff_ne.mpr c3
  have c3b2 : (l0.length == l1.length) = false := by first | simpa using c3 | (simp at c3 ⊢; omega)
  obtain rfl := Option.some.inj H
  go_enter Try.func12, Try.ntmps12
  go_wp2
  repeat (go_quiet (fail); try go_wp2)
  go_ret
  exact ⟨by first | rfl | (simp; done) | (simp [*]; done), by repeat (first | exact Drawn0.refl _ | apply Drawn0.step)⟩

/-! ### trivetlaw03_same: function 12, its laws -/
theorem trivetlaw03_same.loop (n : Nat) : ∀ (k i : Nat) (a : List Int), a.length = i + n → a.length ≤ 1000 → n < k → trivetlaw03_same.l0 k a a i = some true := by
 induction n with
 | zero =>
  intro k i a hl hm hk
  obtain ⟨j, rfl⟩ : ∃ j, k = j + 1 := ⟨k - 1, by omega⟩
  simp only [trivetlaw03_same.l0]
  rw [if_neg (by omega)]
 | succ n ih =>
  intro k i a hl hm hk
  obtain ⟨j, rfl⟩ : ∃ j, k = j + 1 := ⟨k - 1, by omega⟩
  simp only [trivetlaw03_same.l0]
  rw [if_pos (by omega), if_pos (by omega), if_pos (by omega), if_pos trivial, M.w64_id (n := (i : Int) + 1) (by omega) (by omega)]
  exact ih j (i + 1) a (by omega) hm (by omega)
theorem trivetlaw03_same.num (k : Nat) (a : List Int) (hm : a.length ≤ 1000) (hk : 1001 ≤ k) : trivetlaw03_same.f k a a = some true := by
 unfold trivetlaw03_same.f
 rw [if_pos rfl]
 exact trivetlaw03_same.loop a.length k 0 a (by omega) hm (by omega)

/-! ### trivetlaw03_SplitStays: function 5 -/
def trivetlaw03_SplitStays.l0 : Nat → Int → List Int → Bool → List Int → List Int → Option Int → List Int → Int → Option (Bool)
 | 0, _, _, _, _, _, _, _, _ => none
 | k + 1, x0, x1, x5, x6, x7, x8, x9, x10 => if x10 < (x7.length : Int) then (if 0 ≤ x10 then (trivetlaw03_SplitStays.l0 k x0 x1 x5 x6 (x7.set (x10 : Int).toNat (-1)) x8 x9 (wrap64 (x10 + 1))) else (none)) else ((split_Shares.f k x0 x6).bind fun bt162 => (if x5 = true then ((trivetlaw03_same.f k x6 x1).bind fun t166 => (if t166 = true then (if x8.isNone = true then (if bt162.2.isNone = true then ((trivetlaw03_same.f k bt162.1 x9).bind fun t169 => (some t169)) else (none)) else (if bt162.2.isNone = true then (none) else ((trivetlaw03_same.f k bt162.1 x9).bind fun t171 => (some t171)))) else (none))) else (none)))
def trivetlaw03_SplitStays.f (k : Nat) (a0 : Int) (l1 : List Int) : Option (Bool) := (trivetlaw03_up.f k).bind fun t144 => (if (l1.length : Int) > 500 then (some t144) else ((some (([] : List Int) : List Int)).bind fun y145 => (if y145.length + l1.length < 17592186044416 then ((some (y145 ++ l1 : List Int)).bind fun y148 => ((split_Shares.f k a0 y148).bind fun bt151 => ((some (([] : List Int) : List Int)).bind fun y155 => (if y155.length + bt151.1.length < 17592186044416 then (trivetlaw03_SplitStays.l0 k a0 l1 t144 y148 bt151.1 bt151.2 (y155 ++ bt151.1) 0) else (none))))) else (none))))
theorem trivetlaw03_SplitStays.mono_l : ∀ k, (∀ y0 y1 y2 y3 y4 y5 y6 y7, LeO (trivetlaw03_SplitStays.l0 k y0 y1 y2 y3 y4 y5 y6 y7) (trivetlaw03_SplitStays.l0 (k + 1) y0 y1 y2 y3 y4 y5 y6 y7))
 | 0 => fun _ _ _ _ _ _ _ _ r h => by simp [trivetlaw03_SplitStays.l0] at h
 | k + 1 => by
  have ih0 := trivetlaw03_SplitStays.mono_l k
  ·intro y0 y1 y2 y3 y4 y5 y6 y7
   unfold trivetlaw03_SplitStays.l0
   repeat' first
   | (with_reducible exact ih0 _ _ _ _ _ _ _ _)
   | (with_reducible exact split_Shares.mono _ _ _)
   | (with_reducible exact trivetlaw03_same.mono _ _ _)
   | (with_reducible exact trivetlaw03_up.mono _)
   | (with_reducible exact LeO.refl _)
   | (with_reducible exact LeO.none _)
   | (with_reducible refine LeO.ite ?_ ?_)
   | (with_reducible refine LeO.bind ?_ (fun _ => ?_))
   | exact ih0 _ _ _ _ _ _ _ _
   | exact split_Shares.mono _ _ _
   | exact trivetlaw03_same.mono _ _ _
   | exact trivetlaw03_up.mono _
   | exact LeO.none _
   | refine LeO.ite ?_ ?_
   | refine LeO.bind ?_ (fun _ => ?_)
theorem trivetlaw03_SplitStays.mono : ∀ a0 a1 k, LeO (trivetlaw03_SplitStays.f k a0 a1) (trivetlaw03_SplitStays.f (k + 1) a0 a1) := by
 intro a0 a1 k
 have ih0 := trivetlaw03_SplitStays.mono_l k
 unfold trivetlaw03_SplitStays.f
 repeat' first
   | (with_reducible exact ih0 _ _ _ _ _ _ _ _)
   | (with_reducible exact split_Shares.mono _ _ _)
   | (with_reducible exact trivetlaw03_same.mono _ _ _)
   | (with_reducible exact trivetlaw03_up.mono _)
   | (with_reducible exact LeO.refl _)
   | (with_reducible exact LeO.none _)
   | (with_reducible refine LeO.ite ?_ ?_)
   | (with_reducible refine LeO.bind ?_ (fun _ => ?_))
   | exact ih0 _ _ _ _ _ _ _ _
   | exact split_Shares.mono _ _ _
   | exact trivetlaw03_same.mono _ _ _
   | exact trivetlaw03_up.mono _
   | exact LeO.none _
   | refine LeO.ite ?_ ?_
   | refine LeO.bind ?_ (fun _ => ?_)
set_option maxHeartbeats 8000000 in
set_option maxRecDepth 100000 in
theorem trivetlaw03_SplitStays.calls (k : Nat) (a0 : Int) (A1 : Option Addr) (c1 : Nat) (l1 : List Int) (r : Bool) (w : World) (hr1 : Kd.C (Kd.int .i64) w A1 l1.length l1) (hc1 : l1.length ≤ c1) (h : trivetlaw03_SplitStays.f k a0 l1 = some r) :
  Calls Try.prog 5 #[.int .i64 a0, .slice A1 l1.length c1] w fun e w' => e = .returned (.bool r) ∧ Below w.heap.size w w' := by
 have hu25 := Try.underlying25
 have hu29 := Try.underlying29
 have HR1 := ka hr1
 have HC1 := ka hc1
 clear hr1 hc1
 have HB := ka (Below.refl w.heap.size w)
 have H : ((trivetlaw03_up.f k).bind fun t144 => (if (l1.length : Int) > 500 then (some t144) else ((some (([] : List Int) : List Int)).bind fun y145 => (if y145.length + l1.length < 17592186044416 then ((some (y145 ++ l1 : List Int)).bind fun y148 => ((split_Shares.f k a0 y148).bind fun bt151 => ((some (([] : List Int) : List Int)).bind fun y155 => (if y155.length + bt151.1.length < 17592186044416 then (trivetlaw03_SplitStays.l0 k a0 l1 t144 y148 bt151.1 bt151.2 (y155 ++ bt151.1) 0) else (none))))) else (none))))) = some r := h
 clear h
 replace H := Option.bind_eq_some_iff.mp H
 obtain ⟨t144, A30, H⟩ := H
 replace H : (if (l1.length : Int) > 500 then (some t144) else ((some (([] : List Int) : List Int)).bind fun y145 => (if y145.length + l1.length < 17592186044416 then ((some (y145 ++ l1 : List Int)).bind fun y148 => ((split_Shares.f k a0 y148).bind fun bt151 => ((some (([] : List Int) : List Int)).bind fun y155 => (if y155.length + bt151.1.length < 17592186044416 then (trivetlaw03_SplitStays.l0 k a0 l1 t144 y148 bt151.1 bt151.2 (y155 ++ bt151.1) 0) else (none))))) else (none)))) = some r := H
 have A3 := ka A30
 clear A30
 by_cases c4 : (l1.length : Int) > 500
 ·rw [if_pos c4] at H
  have c4b0 : decide (500 < (l1.length : Int)) = true := decide_eq_true c4
  have c4b1 : decide (500 < l1.length) = true := decide_eq_true (by omega)
  clear c4
  obtain rfl := Option.some.inj H
  go_enter Try.func5, Try.ntmps5
  go_wp2_with (first | (go_at_call 9; (with_reducible refine (trivetlaw03_up.calls k  t144 _ A3.out).mono ?_); rintro e w5 ⟨rfl, hb⟩; replace HB := ka (below_step (kw HB.out) hb); (try clear hb); (try clear hb2); (try clear hk); (try clear hi)))
  repeat (go_quiet (first | (go_at_call 9; (with_reducible refine (trivetlaw03_up.calls k  t144 _ A3.out).mono ?_); rintro e w5 ⟨rfl, hb⟩; replace HB := ka (below_step (kw HB.out) hb); (try clear hb); (try clear hb2); (try clear hk); (try clear hi))); try go_wp2_with (first | (go_at_call 9; (with_reducible refine (trivetlaw03_up.calls k  t144 _ A3.out).mono ?_); rintro e w5 ⟨rfl, hb⟩; replace HB := ka (below_step (kw HB.out) hb); (try clear hb); (try clear hb2); (try clear hk); (try clear hi))))
  go_ret
  exact ⟨by first | rfl | (simp [errW_none, errW_some] <;> rfl) | (simp [*, errW_none, errW_some] <;> rfl), by repeat (first | (with_reducible first | exact HB.out | apply kc1 | apply kc2 | apply kc3) | exact HB.out)⟩
 ·rw [if_neg c4] at H
  have c4b0 : decide (500 < (l1.length : Int)) = false := decide_eq_false c4
  have c4b1 : decide (500 < l1.length) = false := decide_eq_false (by omega)
  clear c4
  obtain ⟨y145, hy145⟩ : ∃ y_ : List Int, y_ = (([] : List Int)) := ⟨_, rfl⟩
  replace H : (if y145.length + l1.length < 17592186044416 then ((some (y145 ++ l1 : List Int)).bind fun y148 => ((split_Shares.f k a0 y148).bind fun bt151 => ((some (([] : List Int) : List Int)).bind fun y155 => (if y155.length + bt151.1.length < 17592186044416 then (trivetlaw03_SplitStays.l0 k a0 l1 t144 y148 bt151.1 bt151.2 (y155 ++ bt151.1) 0) else (none))))) else (none)) = some r := by first | (rw [hy145]; with_reducible exact H) | (have H2_ := (Option.bind_some _ _).symm.trans H; rw [hy145]; with_reducible exact H2_) | (have H2_ := (Option.bind_some _ _).symm.trans H; with_reducible exact H2_) | with_reducible exact H | (rw [hy145]; exact H) | exact H
  have Ny145 := ka hy145
  clear hy145
  by_cases c6 : y145.length + l1.length < 17592186044416
  ·rw [if_pos c6] at H
   have LMc6 := ka c6
   clear c6
   obtain ⟨y148, hy148⟩ : ∃ y_ : List Int, y_ = (y145 ++ l1) := ⟨_, rfl⟩
   replace H : ((split_Shares.f k a0 y148).bind fun bt151 => ((some (([] : List Int) : List Int)).bind fun y155 => (if y155.length + bt151.1.length < 17592186044416 then (trivetlaw03_SplitStays.l0 k a0 l1 t144 y148 bt151.1 bt151.2 (y155 ++ bt151.1) 0) else (none)))) = some r := by first | (rw [hy148]; with_reducible exact H) | (have H2_ := (Option.bind_some _ _).symm.trans H; rw [hy148]; with_reducible exact H2_) | (have H2_ := (Option.bind_some _ _).symm.trans H; with_reducible exact H2_) | with_reducible exact H | (rw [hy148]; exact H) | exact H
   have Ny148 := ka hy148
   clear hy148
   replace H := Option.bind_eq_some_iff.mp H
   obtain ⟨⟨t151, t152⟩, A70, H⟩ := H
   replace H : ((some (([] : List Int) : List Int)).bind fun y155 => (if y155.length + t151.length < 17592186044416 then (trivetlaw03_SplitStays.l0 k a0 l1 t144 y148 t151 t152 (y155 ++ t151) 0) else (none))) = some r := H
   have A7 := ka A70
   clear A70
   obtain ⟨y155, hy155⟩ : ∃ y_ : List Int, y_ = (([] : List Int)) := ⟨_, rfl⟩
   replace H : (if y155.length + t151.length < 17592186044416 then (trivetlaw03_SplitStays.l0 k a0 l1 t144 y148 t151 t152 (y155 ++ t151) 0) else (none)) = some r := by first | (rw [hy155]; with_reducible exact H) | (have H2_ := (Option.bind_some _ _).symm.trans H; rw [hy155]; with_reducible exact H2_) | (have H2_ := (Option.bind_some _ _).symm.trans H; with_reducible exact H2_) | with_reducible exact H | (rw [hy155]; exact H) | exact H
   have Ny155 := ka hy155
   clear hy155
   by_cases c8 : y155.length + t151.length < 17592186044416
   ·rw [if_pos c8] at H
    have LMc8 := ka c8
    clear c8
    obtain ⟨y158, hy158⟩ : ∃ y_ : List Int, y_ = (y155 ++ t151) := ⟨_, rfl⟩
    replace H : (trivetlaw03_SplitStays.l0 k a0 l1 t144 y148 t151 t152 y158 0) = some r := by first | (rw [hy158]; with_reducible exact H) | (have H2_ := (Option.bind_some _ _).symm.trans H; rw [hy158]; with_reducible exact H2_) | (have H2_ := (Option.bind_some _ _).symm.trans H; with_reducible exact H2_) | with_reducible exact H | (rw [hy158]; exact H) | exact H
    have Ny158 := ka hy158
    clear hy158
    have H' := ka H
    clear H
    go_enter Try.func5, Try.ntmps5
    go_wp2_with (first | (go_at_call 9; (with_reducible refine (trivetlaw03_up.calls k  t144 _ A3.out).mono ?_); rintro e w9 ⟨rfl, hb⟩; replace HB := ka (below_step (kw HB.out) hb); (try clear hb); (try clear hb2); (try clear hk); (try clear hi)) | ((with_reducible refine gate_dst (N := 18) rfl ?_); refine Kd.R_lit (Kd.int .i64) _ 2 ?hg (N := 18) ?hd (xs := ([] : List Int)) (inner := []) (ok := fun _ => True) (okp := fun _ => True) ?hr ?hp (fun _ hk => hk) trivial (Below.refl _ _) (Nat.le_refl _) (by simp) ?_; (case hd => rfl); (case hg => rfl); (case hr => first | (go_simp; done) | (go_simp; rfl)); (case hp => exact (Reps.none _ _)); intro v146 w10 ho11 hb hg_ hnew_; clear hg_ hnew_; (first | rw [← Ny145.out] at ho11 | (simp only [Int.reduceToNat] at ho11; rw [← Ny145.out] at ho11)); have HO147 := ka (Kd.R_lower ho11 (below_size (kw HB.out))); replace HB := ka (below_step (kw HB.out) hb); clear hb ho11) | ((with_reducible refine gate_builtin (b := .append) (xs := #[.tmp 18, .tmp 19]) rfl ?_); at_builtin; refine Kd.R_append_rows (Kd.int .i64) (w0 := w) w.heap.size rfl (.tmp 18) (.tmp 19) 22 2 (.int .i64 0) 8 rfl Try.underlying22 info2 rfl (by decide) (by omega) v146 y145 l1 _ _ _ (fun _ => True) (fun _ => False) rfl rfl ?aO ?aR (fun _ _ h => h) (fun _ h => h.elim) ?aF ?aB ?aS ?aL ?_; (case aR => repeat (first | exact (Kd.C_below HR1.out HB.out) | (with_reducible refine Kd.C_alloc ?_ _) | (with_reducible refine Kd.C_drewN ?_ _) | (with_reducible refine Kd.C_drew ?_))); (case aB => exact (kw HB.out)); (case aF => exact (fun _ _ => trivial)); (case aO => exact (kr HO147.out)); (case aS => exact (below_size (kw HB.out))); (case aL => have := LMc6.out; omega); intro v149 w12 ho hb hg hat; rw [← Ny148.out] at ho; replace HB := ka (hb); have HO150 := ka (ho); clear HO147; clear ho hb hg hat; obtain ⟨Ao13, co13, eo13⟩ := Kd.R_slice HO150.out; subst eo13) | (go_at_call 10; (with_reducible refine (split_Shares.calls k a0 _ _ y148 t151 t152 _ ?side1 ?side2 A7.out).mono ?_); (case side1 => repeat (first | exact (Kd.R_reads' HO150.out).2.2 | (with_reducible refine Kd.C_alloc ?_ _) | (with_reducible refine Kd.C_drewN ?_ _) | (with_reducible refine Kd.C_drew ?_))); (case side2 => exact (Kd.R_reads' HO150.out).2.1); rintro e w14 ⟨v153, rfl, ho0, hb⟩; have HO154 := ka (Kd.R_lower (Kd.R_new' ho0 (Kd.R_lt (kr HO150.out))) (below_size (kw HB.out))); replace HO150 := ka (Kd.R_elder' (kr HO150.out) (Kd.R_base ho0) hb); replace HB := ka (below_step (kw HB.out) hb); (try clear hb); (try clear hb2); (try clear hk); (try clear hi); (try clear ho0); (try simp only [errW_none, errW_some])) | ((with_reducible refine gate_dst (N := 27) rfl ?_); refine Kd.R_lit (Kd.int .i64) _ 2 ?hg (N := 27) ?hd (xs := ([] : List Int)) (inner := []) (ok := fun _ => True) (okp := fun _ => True) ?hr ?hp (fun _ hk => hk) trivial (Below.refl _ _) (Nat.le_refl _) (by simp) ?_; (case hd => rfl); (case hg => rfl); (case hr => first | (go_simp; done) | (go_simp; rfl)); (case hp => exact (Reps.none _ _)); intro v156 w15 ho16 hb hg_ hnew_; clear hg_ hnew_; (first | rw [← Ny155.out] at ho16 | (simp only [Int.reduceToNat] at ho16; rw [← Ny155.out] at ho16)); have HO157 := ka (Kd.R_lower (Kd.R_new' (Kd.R_new' ho16 (Kd.R_lt (kr HO150.out))) (Kd.R_lt (kr HO154.out))) (below_size (kw HB.out))); replace HO150 := ka (Kd.R_elder' (kr HO150.out) (Kd.R_base ho16) hb); replace HO154 := ka (Kd.R_elder' (kr HO154.out) (Kd.R_base ho16) hb); replace HB := ka (below_step (kw HB.out) hb); clear hb ho16; obtain ⟨Ao18, co18, eo18⟩ := Kd.R_slice HO154.out; subst eo18) | ((with_reducible refine gate_builtin (b := .append) (xs := #[.tmp 27, .tmp 28]) rfl ?_); at_builtin; refine Kd.R_append_rows (Kd.int .i64) (w0 := w) w.heap.size rfl (.tmp 27) (.tmp 28) 22 2 (.int .i64 0) 8 rfl Try.underlying22 info2 rfl (by decide) (by omega) v156 y155 t151 _ _ _ (fun k_ => some k_ ≠ (.slice Ao13 y148.length co13 : Value).ownBlock ∧ some k_ ≠ (.slice Ao18 t151.length co18 : Value).ownBlock) (fun _ => False) rfl rfl ?aO ?aR (fun _ _ h => h) (fun _ h => h.elim) ?aF ?aB ?aS ?aL ?_; (case aR => repeat (first | exact (Kd.R_reads' HO154.out).2.2 | (with_reducible refine Kd.C_alloc ?_ _) | (with_reducible refine Kd.C_drewN ?_ _) | (with_reducible refine Kd.C_drew ?_))); (case aB => exact (kw HB.out)); (case aF => exact (fun k_ hk => ⟨Kd.fresh' (Kd.R_lt (kr HO150.out)) k_ hk, Kd.fresh' (Kd.R_lt (kr HO154.out)) k_ hk⟩)); (case aO => exact (kr (Kd.R_mono HO157.out (fun _ hk => ⟨hk.1.2, hk.2⟩)))); (case aS => exact (below_size (kw HB.out))); (case aL => have := LMc8.out; omega); intro v159 w17 ho hb hg hat; rw [← Ny158.out] at ho; replace HO150 := ka (Kd.R_after (ok := (fun k_ => some k_ ≠ (.slice Ao18 t151.length co18 : Value).ownBlock)) (kr (Kd.R_mono HO150.out (fun _ hk => ⟨hk.1.2, hk.2⟩))) hg hat); replace HO154 := ka (Kd.R_after (ok := (fun k_ => some k_ ≠ (.slice Ao13 y148.length co13 : Value).ownBlock)) (kr (Kd.R_mono HO154.out (fun _ hk => ⟨hk.1.2, hk.2⟩))) hg hat); replace HB := ka (hb); have HO160 := ka (ho); clear HO157; clear ho hb hg hat))
    repeat (go_quiet (first | (go_at_call 9; (with_reducible refine (trivetlaw03_up.calls k  t144 _ A3.out).mono ?_); rintro e w9 ⟨rfl, hb⟩; replace HB := ka (below_step (kw HB.out) hb); (try clear hb); (try clear hb2); (try clear hk); (try clear hi)) | ((with_reducible refine gate_dst (N := 18) rfl ?_); refine Kd.R_lit (Kd.int .i64) _ 2 ?hg (N := 18) ?hd (xs := ([] : List Int)) (inner := []) (ok := fun _ => True) (okp := fun _ => True) ?hr ?hp (fun _ hk => hk) trivial (Below.refl _ _) (Nat.le_refl _) (by simp) ?_; (case hd => rfl); (case hg => rfl); (case hr => first | (go_simp; done) | (go_simp; rfl)); (case hp => exact (Reps.none _ _)); intro v146 w10 ho11 hb hg_ hnew_; clear hg_ hnew_; (first | rw [← Ny145.out] at ho11 | (simp only [Int.reduceToNat] at ho11; rw [← Ny145.out] at ho11)); have HO147 := ka (Kd.R_lower ho11 (below_size (kw HB.out))); replace HB := ka (below_step (kw HB.out) hb); clear hb ho11) | ((with_reducible refine gate_builtin (b := .append) (xs := #[.tmp 18, .tmp 19]) rfl ?_); at_builtin; refine Kd.R_append_rows (Kd.int .i64) (w0 := w) w.heap.size rfl (.tmp 18) (.tmp 19) 22 2 (.int .i64 0) 8 rfl Try.underlying22 info2 rfl (by decide) (by omega) v146 y145 l1 _ _ _ (fun _ => True) (fun _ => False) rfl rfl ?aO ?aR (fun _ _ h => h) (fun _ h => h.elim) ?aF ?aB ?aS ?aL ?_; (case aR => repeat (first | exact (Kd.C_below HR1.out HB.out) | (with_reducible refine Kd.C_alloc ?_ _) | (with_reducible refine Kd.C_drewN ?_ _) | (with_reducible refine Kd.C_drew ?_))); (case aB => exact (kw HB.out)); (case aF => exact (fun _ _ => trivial)); (case aO => exact (kr HO147.out)); (case aS => exact (below_size (kw HB.out))); (case aL => have := LMc6.out; omega); intro v149 w12 ho hb hg hat; rw [← Ny148.out] at ho; replace HB := ka (hb); have HO150 := ka (ho); clear HO147; clear ho hb hg hat; obtain ⟨Ao13, co13, eo13⟩ := Kd.R_slice HO150.out; subst eo13) | (go_at_call 10; (with_reducible refine (split_Shares.calls k a0 _ _ y148 t151 t152 _ ?side1 ?side2 A7.out).mono ?_); (case side1 => repeat (first | exact (Kd.R_reads' HO150.out).2.2 | (with_reducible refine Kd.C_alloc ?_ _) | (with_reducible refine Kd.C_drewN ?_ _) | (with_reducible refine Kd.C_drew ?_))); (case side2 => exact (Kd.R_reads' HO150.out).2.1); rintro e w14 ⟨v153, rfl, ho0, hb⟩; have HO154 := ka (Kd.R_lower (Kd.R_new' ho0 (Kd.R_lt (kr HO150.out))) (below_size (kw HB.out))); replace HO150 := ka (Kd.R_elder' (kr HO150.out) (Kd.R_base ho0) hb); replace HB := ka (below_step (kw HB.out) hb); (try clear hb); (try clear hb2); (try clear hk); (try clear hi); (try clear ho0); (try simp only [errW_none, errW_some])) | ((with_reducible refine gate_dst (N := 27) rfl ?_); refine Kd.R_lit (Kd.int .i64) _ 2 ?hg (N := 27) ?hd (xs := ([] : List Int)) (inner := []) (ok := fun _ => True) (okp := fun _ => True) ?hr ?hp (fun _ hk => hk) trivial (Below.refl _ _) (Nat.le_refl _) (by simp) ?_; (case hd => rfl); (case hg => rfl); (case hr => first | (go_simp; done) | (go_simp; rfl)); (case hp => exact (Reps.none _ _)); intro v156 w15 ho16 hb hg_ hnew_; clear hg_ hnew_; (first | rw [← Ny155.out] at ho16 | (simp only [Int.reduceToNat] at ho16; rw [← Ny155.out] at ho16)); have HO157 := ka (Kd.R_lower (Kd.R_new' (Kd.R_new' ho16 (Kd.R_lt (kr HO150.out))) (Kd.R_lt (kr HO154.out))) (below_size (kw HB.out))); replace HO150 := ka (Kd.R_elder' (kr HO150.out) (Kd.R_base ho16) hb); replace HO154 := ka (Kd.R_elder' (kr HO154.out) (Kd.R_base ho16) hb); replace HB := ka (below_step (kw HB.out) hb); clear hb ho16; obtain ⟨Ao18, co18, eo18⟩ := Kd.R_slice HO154.out; subst eo18) | ((with_reducible refine gate_builtin (b := .append) (xs := #[.tmp 27, .tmp 28]) rfl ?_); at_builtin; refine Kd.R_append_rows (Kd.int .i64) (w0 := w) w.heap.size rfl (.tmp 27) (.tmp 28) 22 2 (.int .i64 0) 8 rfl Try.underlying22 info2 rfl (by decide) (by omega) v156 y155 t151 _ _ _ (fun k_ => some k_ ≠ (.slice Ao13 y148.length co13 : Value).ownBlock ∧ some k_ ≠ (.slice Ao18 t151.length co18 : Value).ownBlock) (fun _ => False) rfl rfl ?aO ?aR (fun _ _ h => h) (fun _ h => h.elim) ?aF ?aB ?aS ?aL ?_; (case aR => repeat (first | exact (Kd.R_reads' HO154.out).2.2 | (with_reducible refine Kd.C_alloc ?_ _) | (with_reducible refine Kd.C_drewN ?_ _) | (with_reducible refine Kd.C_drew ?_))); (case aB => exact (kw HB.out)); (case aF => exact (fun k_ hk => ⟨Kd.fresh' (Kd.R_lt (kr HO150.out)) k_ hk, Kd.fresh' (Kd.R_lt (kr HO154.out)) k_ hk⟩)); (case aO => exact (kr (Kd.R_mono HO157.out (fun _ hk => ⟨hk.1.2, hk.2⟩)))); (case aS => exact (below_size (kw HB.out))); (case aL => have := LMc8.out; omega); intro v159 w17 ho hb hg hat; rw [← Ny158.out] at ho; replace HO150 := ka (Kd.R_after (ok := (fun k_ => some k_ ≠ (.slice Ao18 t151.length co18 : Value).ownBlock)) (kr (Kd.R_mono HO150.out (fun _ hk => ⟨hk.1.2, hk.2⟩))) hg hat); replace HO154 := ka (Kd.R_after (ok := (fun k_ => some k_ ≠ (.slice Ao13 y148.length co13 : Value).ownBlock)) (kr (Kd.R_mono HO154.out (fun _ hk => ⟨hk.1.2, hk.2⟩))) hg hat); replace HB := ka (hb); have HO160 := ka (ho); clear HO157; clear ho hb hg hat)); try go_wp2_with (first | (go_at_call 9; (with_reducible refine (trivetlaw03_up.calls k  t144 _ A3.out).mono ?_); rintro e w9 ⟨rfl, hb⟩; replace HB := ka (below_step (kw HB.out) hb); (try clear hb); (try clear hb2); (try clear hk); (try clear hi)) | ((with_reducible refine gate_dst (N := 18) rfl ?_); refine Kd.R_lit (Kd.int .i64) _ 2 ?hg (N := 18) ?hd (xs := ([] : List Int)) (inner := []) (ok := fun _ => True) (okp := fun _ => True) ?hr ?hp (fun _ hk => hk) trivial (Below.refl _ _) (Nat.le_refl _) (by simp) ?_; (case hd => rfl); (case hg => rfl); (case hr => first | (go_simp; done) | (go_simp; rfl)); (case hp => exact (Reps.none _ _)); intro v146 w10 ho11 hb hg_ hnew_; clear hg_ hnew_; (first | rw [← Ny145.out] at ho11 | (simp only [Int.reduceToNat] at ho11; rw [← Ny145.out] at ho11)); have HO147 := ka (Kd.R_lower ho11 (below_size (kw HB.out))); replace HB := ka (below_step (kw HB.out) hb); clear hb ho11) | ((with_reducible refine gate_builtin (b := .append) (xs := #[.tmp 18, .tmp 19]) rfl ?_); at_builtin; refine Kd.R_append_rows (Kd.int .i64) (w0 := w) w.heap.size rfl (.tmp 18) (.tmp 19) 22 2 (.int .i64 0) 8 rfl Try.underlying22 info2 rfl (by decide) (by omega) v146 y145 l1 _ _ _ (fun _ => True) (fun _ => False) rfl rfl ?aO ?aR (fun _ _ h => h) (fun _ h => h.elim) ?aF ?aB ?aS ?aL ?_; (case aR => repeat (first | exact (Kd.C_below HR1.out HB.out) | (with_reducible refine Kd.C_alloc ?_ _) | (with_reducible refine Kd.C_drewN ?_ _) | (with_reducible refine Kd.C_drew ?_))); (case aB => exact (kw HB.out)); (case aF => exact (fun _ _ => trivial)); (case aO => exact (kr HO147.out)); (case aS => exact (below_size (kw HB.out))); (case aL => have := LMc6.out; omega); intro v149 w12 ho hb hg hat; rw [← Ny148.out] at ho; replace HB := ka (hb); have HO150 := ka (ho); clear HO147; clear ho hb hg hat; obtain ⟨Ao13, co13, eo13⟩ := Kd.R_slice HO150.out; subst eo13) | (go_at_call 10; (with_reducible refine (split_Shares.calls k a0 _ _ y148 t151 t152 _ ?side1 ?side2 A7.out).mono ?_); (case side1 => repeat (first | exact (Kd.R_reads' HO150.out).2.2 | (with_reducible refine Kd.C_alloc ?_ _) | (with_reducible refine Kd.C_drewN ?_ _) | (with_reducible refine Kd.C_drew ?_))); (case side2 => exact (Kd.R_reads' HO150.out).2.1); rintro e w14 ⟨v153, rfl, ho0, hb⟩; have HO154 := ka (Kd.R_lower (Kd.R_new' ho0 (Kd.R_lt (kr HO150.out))) (below_size (kw HB.out))); replace HO150 := ka (Kd.R_elder' (kr HO150.out) (Kd.R_base ho0) hb); replace HB := ka (below_step (kw HB.out) hb); (try clear hb); (try clear hb2); (try clear hk); (try clear hi); (try clear ho0); (try simp only [errW_none, errW_some])) | ((with_reducible refine gate_dst (N := 27) rfl ?_); refine Kd.R_lit (Kd.int .i64) _ 2 ?hg (N := 27) ?hd (xs := ([] : List Int)) (inner := []) (ok := fun _ => True) (okp := fun _ => True) ?hr ?hp (fun _ hk => hk) trivial (Below.refl _ _) (Nat.le_refl _) (by simp) ?_; (case hd => rfl); (case hg => rfl); (case hr => first | (go_simp; done) | (go_simp; rfl)); (case hp => exact (Reps.none _ _)); intro v156 w15 ho16 hb hg_ hnew_; clear hg_ hnew_; (first | rw [← Ny155.out] at ho16 | (simp only [Int.reduceToNat] at ho16; rw [← Ny155.out] at ho16)); have HO157 := ka (Kd.R_lower (Kd.R_new' (Kd.R_new' ho16 (Kd.R_lt (kr HO150.out))) (Kd.R_lt (kr HO154.out))) (below_size (kw HB.out))); replace HO150 := ka (Kd.R_elder' (kr HO150.out) (Kd.R_base ho16) hb); replace HO154 := ka (Kd.R_elder' (kr HO154.out) (Kd.R_base ho16) hb); replace HB := ka (below_step (kw HB.out) hb); clear hb ho16; obtain ⟨Ao18, co18, eo18⟩ := Kd.R_slice HO154.out; subst eo18) | ((with_reducible refine gate_builtin (b := .append) (xs := #[.tmp 27, .tmp 28]) rfl ?_); at_builtin; refine Kd.R_append_rows (Kd.int .i64) (w0 := w) w.heap.size rfl (.tmp 27) (.tmp 28) 22 2 (.int .i64 0) 8 rfl Try.underlying22 info2 rfl (by decide) (by omega) v156 y155 t151 _ _ _ (fun k_ => some k_ ≠ (.slice Ao13 y148.length co13 : Value).ownBlock ∧ some k_ ≠ (.slice Ao18 t151.length co18 : Value).ownBlock) (fun _ => False) rfl rfl ?aO ?aR (fun _ _ h => h) (fun _ h => h.elim) ?aF ?aB ?aS ?aL ?_; (case aR => repeat (first | exact (Kd.R_reads' HO154.out).2.2 | (with_reducible refine Kd.C_alloc ?_ _) | (with_reducible refine Kd.C_drewN ?_ _) | (with_reducible refine Kd.C_drew ?_))); (case aB => exact (kw HB.out)); (case aF => exact (fun k_ hk => ⟨Kd.fresh' (Kd.R_lt (kr HO150.out)) k_ hk, Kd.fresh' (Kd.R_lt (kr HO154.out)) k_ hk⟩)); (case aO => exact (kr (Kd.R_mono HO157.out (fun _ hk => ⟨hk.1.2, hk.2⟩)))); (case aS => exact (below_size (kw HB.out))); (case aL => have := LMc8.out; omega); intro v159 w17 ho hb hg hat; rw [← Ny158.out] at ho; replace HO150 := ka (Kd.R_after (ok := (fun k_ => some k_ ≠ (.slice Ao18 t151.length co18 : Value).ownBlock)) (kr (Kd.R_mono HO150.out (fun _ hk => ⟨hk.1.2, hk.2⟩))) hg hat); replace HO154 := ka (Kd.R_after (ok := (fun k_ => some k_ ≠ (.slice Ao13 y148.length co13 : Value).ownBlock)) (kr (Kd.R_mono HO154.out (fun _ hk => ⟨hk.1.2, hk.2⟩))) hg hat); replace HB := ka (hb); have HO160 := ka (ho); clear HO157; clear ho hb hg hat)))
    (try simp only [Act.put, List.setIfInBounds_toArray, List.set_cons_zero, List.set_cons_succ])
    go_loopg [10] k (fun kq v10 w' => ∃ (x7_1 : List Int) (x10_1 : Int), v10 = .int .i64 x10_1 ∧ Aside0 (trivetlaw03_SplitStays.l0 kq a0 l1 t144 y148 x7_1 t152 y158 x10_1 = some r) ∧ Aside0 (kq ≤ k) ∧ Aside0 (Kd.R (Kd.int .i64) 2 w' w.heap.size (fun k_ => some k_ ≠ ((.slice Ao18 t151.length co18) : Value).ownBlock ∧ some k_ ≠ (v159 : Value).ownBlock) (.slice Ao13 y148.length co13) y148) ∧ Aside0 (Kd.R (Kd.int .i64) 2 w' w.heap.size (fun k_ => some k_ ≠ ((.slice Ao13 y148.length co13) : Value).ownBlock ∧ some k_ ≠ (v159 : Value).ownBlock) (.slice Ao18 t151.length co18) x7_1) ∧ Aside0 (Kd.R (Kd.int .i64) 2 w' w.heap.size (fun k_ => some k_ ≠ ((.slice Ao13 y148.length co13) : Value).ownBlock ∧ some k_ ≠ ((.slice Ao18 t151.length co18) : Value).ownBlock) v159 y158) ∧ Aside0 (Below w.heap.size w w'))
    case atStart => exact ⟨(t151), (0), (by first | rfl | (simp; done) | (simp [*]; done)), H', ⟨Nat.le_refl _⟩, ⟨kr HO150.out⟩, ⟨kr HO154.out⟩, ⟨kr HO160.out⟩, ⟨by repeat (first | (with_reducible first | exact HB.out | apply kc1 | apply kc2 | apply kc3) | exact HB.out)⟩⟩
    case round =>
     clear H'
     try clear c1
     try clear p2
     try clear c4
     try clear c4b0
     try clear c4b1
     try clear c5
     try clear c6
     try clear c8
     obtain ⟨x7_1, x10_1, rfl, HA, HK1, HO_6, HO_7, HO_9, HB⟩ := hrel
     have hl7_1 := (Kd.R_reads' HO_7.out).1
     rw [hl7_1] at HO_7
     (try simp only [hl7_1])
     (try simp only [hl7_1] at HO_6)
     (try simp only [hl7_1] at HO_9)
     cases gk with
     | zero => exact absurd HA.out (by simp [trivetlaw03_SplitStays.l0])
     | succ k1 =>
      have H := HA.out
      clear HA
      simp only [trivetlaw03_SplitStays.l0] at H
      by_cases c19 : x10_1 < (x7_1.length : Int)
      ·rw [if_pos c19] at H
       have c19b0 : decide (x10_1 < (x7_1.length : Int)) = true := decide_eq_true c19
       clear c19
       by_cases c20 : 0 ≤ x10_1
       ·rw [if_pos c20] at H
        have c20b0 : decide (0 ≤ x10_1) = true := decide_eq_true c20
        clear c20
        obtain ⟨y161, hy161⟩ : ∃ y_ : List Int, y_ = (x7_1.set (x10_1 : Int).toNat (-1)) := ⟨_, rfl⟩
        replace H : (trivetlaw03_SplitStays.l0 k1 a0 l1 t144 y148 y161 t152 y158 (wrap64 (x10_1 + 1))) = some r := by first | (rw [hy161]; with_reducible exact H) | (have H2_ := (Option.bind_some _ _).symm.trans H; rw [hy161]; with_reducible exact H2_) | (have H2_ := (Option.bind_some _ _).symm.trans H; with_reducible exact H2_) | with_reducible exact H | (rw [hy161]; exact H) | exact H
        have Ny161 := ka hy161
        clear hy161
        have H' := ka H
        clear H
        have p21 : 0 ≤ (x10_1 : Int) := of_decide_eq_true (by first | (with_reducible assumption) | assumption)
        have q21 : (x10_1 : Int) < ((x7_1.length : Int) : Int) := of_decide_eq_true (by first | (with_reducible assumption) | assumption)
        obtain ⟨go21, co21, eo21, gb21, gl21, cl21, HG21⟩ := Kd.R_form HO_7.out (by omega)
        (first | cases eo21 | (injection eo21 with ea_ en_ ec_; (first | subst ea_ | (injection ea_ with ea_; subst ea_)); subst ec_; clear en_))
        have GB21 := ka gb21
        have GG21 := ka HG21
        clear gb21 gl21 HG21
        obtain ⟨hx21_0, hf21_0⟩ := Kd.R_celln 0 HO_7.out (x10_1 : Int) p21 q21
        replace p21 := eq_true p21
        replace q21 := eq_true q21
        have HP22 := Kd.R_putg HO_7.out (x10_1 : Int) (-1)
        go_wp2_with (first | ((with_reducible refine gate_store (t := 2) (p := 38) rfl ?_); (try (rw [drewN_self wr]; generalize hq_ : World.drewN wr _ = wr; replace HO_6 := ka (Kd.R_at hq_ HO_6.out); replace HO_7 := ka (Kd.R_at hq_ HO_7.out); replace HO_9 := ka (Kd.R_at hq_ HO_9.out); replace HB := ka (below_at hq_ HB.out); clear hq_; (try (have HP22 := Kd.R_putg HO_7.out (x10_1 : Int) (-1))))); refine store_event (t := 2) (p := 38) (v := ?vo_w23) (w1 := (wr.setCell ⟨go21, (x10_1 : Int).toNat, none⟩ (.int .i64 (-1)))) ?hg ?ho ?hn ?hr ?_; (case ho => rfl); (case hg => rfl); (case hn => rfl); (case hr => first | (go_simp; done) | (go_simp; rfl)); intro w23 hw; have hg : wr.grownBy w23 (some go21) := (by rw [hw]; exact HP22.2); have hp_ : Kd.R (Kd.int .i64) 2 w23 w.heap.size (fun k_ => some k_ ≠ (.slice Ao13 y148.length co13 : Value).ownBlock ∧ some k_ ≠ (v159 : Value).ownBlock) (.slice (some ⟨go21, 0, none⟩) x7_1.length co18) y161 := (by rw [hw, Ny161.out]; exact HP22.1); clear HP22; replace HO_6 := ka (Kd.R_after (v := (.slice (some ⟨go21, 0, none⟩) x7_1.length co18)) (v1 := (.slice (some ⟨go21, 0, none⟩) x7_1.length co18)) (ok := (fun k_ => some k_ ≠ (v159 : Value).ownBlock)) (kr (Kd.R_mono HO_6.out (fun _ hk => ⟨hk.2, hk.1⟩))) hg (.inl rfl)); replace HO_7 := ka (hp_); replace HO_9 := ka (Kd.R_after (v := (.slice (some ⟨go21, 0, none⟩) x7_1.length co18)) (v1 := (.slice (some ⟨go21, 0, none⟩) x7_1.length co18)) (ok := (fun k_ => some k_ ≠ (.slice Ao13 y148.length co13 : Value).ownBlock)) (kr HO_9.out) hg (.inl rfl)); replace HB := ka ((by rw [hw]; exact below_set (HB.out) GB21.out : Below w.heap.size w w23)); clear hg hw hp_))
        repeat (go_quiet (first | ((with_reducible refine gate_store (t := 2) (p := 38) rfl ?_); (try (rw [drewN_self wr]; generalize hq_ : World.drewN wr _ = wr; replace HO_6 := ka (Kd.R_at hq_ HO_6.out); replace HO_7 := ka (Kd.R_at hq_ HO_7.out); replace HO_9 := ka (Kd.R_at hq_ HO_9.out); replace HB := ka (below_at hq_ HB.out); clear hq_; (try (have HP22 := Kd.R_putg HO_7.out (x10_1 : Int) (-1))))); refine store_event (t := 2) (p := 38) (v := ?vo_w23) (w1 := (wr.setCell ⟨go21, (x10_1 : Int).toNat, none⟩ (.int .i64 (-1)))) ?hg ?ho ?hn ?hr ?_; (case ho => rfl); (case hg => rfl); (case hn => rfl); (case hr => first | (go_simp; done) | (go_simp; rfl)); intro w23 hw; have hg : wr.grownBy w23 (some go21) := (by rw [hw]; exact HP22.2); have hp_ : Kd.R (Kd.int .i64) 2 w23 w.heap.size (fun k_ => some k_ ≠ (.slice Ao13 y148.length co13 : Value).ownBlock ∧ some k_ ≠ (v159 : Value).ownBlock) (.slice (some ⟨go21, 0, none⟩) x7_1.length co18) y161 := (by rw [hw, Ny161.out]; exact HP22.1); clear HP22; replace HO_6 := ka (Kd.R_after (v := (.slice (some ⟨go21, 0, none⟩) x7_1.length co18)) (v1 := (.slice (some ⟨go21, 0, none⟩) x7_1.length co18)) (ok := (fun k_ => some k_ ≠ (v159 : Value).ownBlock)) (kr (Kd.R_mono HO_6.out (fun _ hk => ⟨hk.2, hk.1⟩))) hg (.inl rfl)); replace HO_7 := ka (hp_); replace HO_9 := ka (Kd.R_after (v := (.slice (some ⟨go21, 0, none⟩) x7_1.length co18)) (v1 := (.slice (some ⟨go21, 0, none⟩) x7_1.length co18)) (ok := (fun k_ => some k_ ≠ (.slice Ao13 y148.length co13 : Value).ownBlock)) (kr HO_9.out) hg (.inl rfl)); replace HB := ka ((by rw [hw]; exact below_set (HB.out) GB21.out : Below w.heap.size w w23)); clear hg hw hp_)); try go_wp2_with (first | ((with_reducible refine gate_store (t := 2) (p := 38) rfl ?_); (try (rw [drewN_self wr]; generalize hq_ : World.drewN wr _ = wr; replace HO_6 := ka (Kd.R_at hq_ HO_6.out); replace HO_7 := ka (Kd.R_at hq_ HO_7.out); replace HO_9 := ka (Kd.R_at hq_ HO_9.out); replace HB := ka (below_at hq_ HB.out); clear hq_; (try (have HP22 := Kd.R_putg HO_7.out (x10_1 : Int) (-1))))); refine store_event (t := 2) (p := 38) (v := ?vo_w23) (w1 := (wr.setCell ⟨go21, (x10_1 : Int).toNat, none⟩ (.int .i64 (-1)))) ?hg ?ho ?hn ?hr ?_; (case ho => rfl); (case hg => rfl); (case hn => rfl); (case hr => first | (go_simp; done) | (go_simp; rfl)); intro w23 hw; have hg : wr.grownBy w23 (some go21) := (by rw [hw]; exact HP22.2); have hp_ : Kd.R (Kd.int .i64) 2 w23 w.heap.size (fun k_ => some k_ ≠ (.slice Ao13 y148.length co13 : Value).ownBlock ∧ some k_ ≠ (v159 : Value).ownBlock) (.slice (some ⟨go21, 0, none⟩) x7_1.length co18) y161 := (by rw [hw, Ny161.out]; exact HP22.1); clear HP22; replace HO_6 := ka (Kd.R_after (v := (.slice (some ⟨go21, 0, none⟩) x7_1.length co18)) (v1 := (.slice (some ⟨go21, 0, none⟩) x7_1.length co18)) (ok := (fun k_ => some k_ ≠ (v159 : Value).ownBlock)) (kr (Kd.R_mono HO_6.out (fun _ hk => ⟨hk.2, hk.1⟩))) hg (.inl rfl)); replace HO_7 := ka (hp_); replace HO_9 := ka (Kd.R_after (v := (.slice (some ⟨go21, 0, none⟩) x7_1.length co18)) (v1 := (.slice (some ⟨go21, 0, none⟩) x7_1.length co18)) (ok := (fun k_ => some k_ ≠ (.slice Ao13 y148.length co13 : Value).ownBlock)) (kr HO_9.out) hg (.inl rfl)); replace HB := ka ((by rw [hw]; exact below_set (HB.out) GB21.out : Below w.heap.size w w23)); clear hg hw hp_)))
        (try simp only [← hl7_1])
        go_roundg k1
        case measure => have := HK1.out; omega
        case rel => exact ⟨(y161), (wrap64 (x10_1 + 1)), (by first | rfl | (simp; done) | (simp [*]; done)), H', ⟨by have := HK1.out; omega⟩, ⟨by (try simp only [hl7_1]); (with_reducible repeat (first | apply Kd.R_alloc | apply Kd.R_drewN | apply Kd.R_drew)); exact Kd.R_mono HO_6.out (fun _ hk => ⟨hk.2, hk.1⟩)⟩, ⟨by (try simp only [hl7_1]); (with_reducible repeat (first | apply Kd.R_alloc | apply Kd.R_drewN | apply Kd.R_drew)); exact HO_7.out⟩, ⟨by (try simp only [hl7_1]); (with_reducible repeat (first | apply Kd.R_alloc | apply Kd.R_drewN | apply Kd.R_drew)); exact HO_9.out⟩, ⟨by repeat (first | (with_reducible first | exact HB.out | apply kc1 | apply kc2 | apply kc3) | exact HB.out)⟩⟩
       ·rw [if_neg c20] at H
        exact absurd H (by simp)
      ·rw [if_neg c19] at H
       have c19b0 : decide (x10_1 < (x7_1.length : Int)) = false := decide_eq_false c19
       clear c19
       replace H := Option.bind_eq_some_iff.mp H
       obtain ⟨⟨t162, t163⟩, A240, H⟩ := H
       replace H : (if t144 = true then ((trivetlaw03_same.f k1 y148 l1).bind fun t166 => (if t166 = true then (if t152.isNone = true then (if t163.isNone = true then ((trivetlaw03_same.f k1 t162 y158).bind fun t169 => (some t169)) else (none)) else (if t163.isNone = true then (none) else ((trivetlaw03_same.f k1 t162 y158).bind fun t171 => (some t171)))) else (none))) else (none)) = some r := H
       have A24 := ka A240
       clear A240
       by_cases c25 : t144 = true
       ·subst c25
        have H1 : ((trivetlaw03_same.f k1 y148 l1).bind fun t166 => (if t166 = true then (if t152.isNone = true then (if t163.isNone = true then ((trivetlaw03_same.f k1 t162 y158).bind fun t169 => (some t169)) else (none)) else (if t163.isNone = true then (none) else ((trivetlaw03_same.f k1 t162 y158).bind fun t171 => (some t171)))) else (none))) = some r := by rw [if_pos rfl] at H; exact H
        clear H
        have H := H1
        clear H1
        replace H := Option.bind_eq_some_iff.mp H
        obtain ⟨t166, A260, H⟩ := H
        replace H : (if t166 = true then (if t152.isNone = true then (if t163.isNone = true then ((trivetlaw03_same.f k1 t162 y158).bind fun t169 => (some t169)) else (none)) else (if t163.isNone = true then (none) else ((trivetlaw03_same.f k1 t162 y158).bind fun t171 => (some t171)))) else (none)) = some r := H
        have A26 := ka A260
        clear A260
        by_cases c27 : t166 = true
        ·subst c27
         have H1 : (if t152.isNone = true then (if t163.isNone = true then ((trivetlaw03_same.f k1 t162 y158).bind fun t169 => (some t169)) else (none)) else (if t163.isNone = true then (none) else ((trivetlaw03_same.f k1 t162 y158).bind fun t171 => (some t171)))) = some r := by rw [if_pos rfl] at H; exact H
         clear H
         have H := H1
         clear H1
         rcases t152 with _ | q167
         ·have H1 : (if t163.isNone = true then ((trivetlaw03_same.f k1 t162 y158).bind fun t169 => (some t169)) else (none)) = some r := by rw [if_pos (show (none : Option Int).isNone = true by rfl)] at H; exact H
          clear H
          have H := H1
          clear H1
          try simp only [errW_none, errW_some]
          rcases t163 with _ | q168
          ·have H1 : ((trivetlaw03_same.f k1 t162 y158).bind fun t169 => (some t169)) = some r := by rw [if_pos (show (none : Option Int).isNone = true by rfl)] at H; exact H
           clear H
           have H := H1
           clear H1
           try simp only [errW_none, errW_some]
           replace H := Option.bind_eq_some_iff.mp H
           obtain ⟨t169, A280, H⟩ := H
           replace H : (some t169) = some r := H
           have A28 := ka A280
           clear A280
           obtain rfl := Option.some.inj H
           go_wp2_with (first | (go_at_call 10; (with_reducible refine (split_Shares.calls k1 a0 _ _ y148 t162 none _ ?side1 ?side2 A24.out).mono ?_); (case side1 => repeat (first | exact (Kd.R_reads' HO_6.out).2.2 | (with_reducible refine Kd.C_alloc ?_ _) | (with_reducible refine Kd.C_drewN ?_ _) | (with_reducible refine Kd.C_drew ?_))); (case side2 => exact (Kd.R_reads' HO_6.out).2.1); rintro e w29 ⟨v164, rfl, ho0, hb⟩; have HO165 := ka (Kd.R_lower (Kd.R_new' (Kd.R_new' (Kd.R_new' ho0 (Kd.R_lt (kr HO_6.out))) (Kd.R_lt (kr HO_7.out))) (Kd.R_lt (kr HO_9.out))) (below_size (kw HB.out))); replace HO_6 := ka (Kd.R_elder' (kr HO_6.out) (Kd.R_base ho0) hb); replace HO_7 := ka (Kd.R_elder' (kr HO_7.out) (Kd.R_base ho0) hb); replace HO_9 := ka (Kd.R_elder' (kr HO_9.out) (Kd.R_base ho0) hb); replace HB := ka (below_step (kw HB.out) hb); (try clear hb); (try clear hb2); (try clear hk); (try clear hi); (try clear ho0); (try simp only [errW_none, errW_some])) | (go_at_call 12; (with_reducible refine (trivetlaw03_same.calls k1 _ _ y148 _ _ l1 true _ ?side1 ?side2 ?side3 ?side4 A26.out).mono ?_); (case side1 => repeat (first | exact (Kd.R_reads' HO_6.out).2.2 | (with_reducible refine Kd.C_alloc ?_ _) | (with_reducible refine Kd.C_drewN ?_ _) | (with_reducible refine Kd.C_drew ?_))); (case side2 => exact (Kd.R_reads' HO_6.out).2.1); (case side3 => repeat (first | exact (Kd.C_below HR1.out HB.out) | (with_reducible refine Kd.C_alloc ?_ _) | (with_reducible refine Kd.C_drewN ?_ _) | (with_reducible refine Kd.C_drew ?_))); (case side4 => exact HC1.out); rintro e w' ⟨rfl, ⟨nd, rfl⟩⟩; (try first | exact ⟨rfl, _, World.drewN_drewN _ _ _⟩ | exact ⟨rfl, _, Eq.trans (World.drewN_drewN _ _ _) (congrArg (World.drewN _) (Nat.add_assoc _ _ _))⟩); obtain ⟨Ao30, co30, eo30⟩ := Kd.R_slice HO165.out; subst eo30; obtain ⟨Ao31, co31, eo31⟩ := Kd.R_slice HO_9.out; subst eo31) | (go_at_call 12; (with_reducible refine (trivetlaw03_same.calls k1 _ _ t162 _ _ y158 t169 _ ?side1 ?side2 ?side3 ?side4 A28.out).mono ?_); (case side1 => repeat (first | exact (Kd.R_reads' HO165.out).2.2 | (with_reducible refine Kd.C_alloc ?_ _) | (with_reducible refine Kd.C_drewN ?_ _) | (with_reducible refine Kd.C_drew ?_))); (case side2 => exact (Kd.R_reads' HO165.out).2.1); (case side3 => repeat (first | exact (Kd.R_reads' HO_9.out).2.2 | (with_reducible refine Kd.C_alloc ?_ _) | (with_reducible refine Kd.C_drewN ?_ _) | (with_reducible refine Kd.C_drew ?_))); (case side4 => exact (Kd.R_reads' HO_9.out).2.1); rintro e w' ⟨rfl, ⟨nd, rfl⟩⟩; (try first | exact ⟨rfl, _, World.drewN_drewN _ _ _⟩ | exact ⟨rfl, _, Eq.trans (World.drewN_drewN _ _ _) (congrArg (World.drewN _) (Nat.add_assoc _ _ _))⟩)))
           repeat (go_quiet (first | (go_at_call 10; (with_reducible refine (split_Shares.calls k1 a0 _ _ y148 t162 none _ ?side1 ?side2 A24.out).mono ?_); (case side1 => repeat (first | exact (Kd.R_reads' HO_6.out).2.2 | (with_reducible refine Kd.C_alloc ?_ _) | (with_reducible refine Kd.C_drewN ?_ _) | (with_reducible refine Kd.C_drew ?_))); (case side2 => exact (Kd.R_reads' HO_6.out).2.1); rintro e w29 ⟨v164, rfl, ho0, hb⟩; have HO165 := ka (Kd.R_lower (Kd.R_new' (Kd.R_new' (Kd.R_new' ho0 (Kd.R_lt (kr HO_6.out))) (Kd.R_lt (kr HO_7.out))) (Kd.R_lt (kr HO_9.out))) (below_size (kw HB.out))); replace HO_6 := ka (Kd.R_elder' (kr HO_6.out) (Kd.R_base ho0) hb); replace HO_7 := ka (Kd.R_elder' (kr HO_7.out) (Kd.R_base ho0) hb); replace HO_9 := ka (Kd.R_elder' (kr HO_9.out) (Kd.R_base ho0) hb); replace HB := ka (below_step (kw HB.out) hb); (try clear hb); (try clear hb2); (try clear hk); (try clear hi); (try clear ho0); (try simp only [errW_none, errW_some])) | (go_at_call 12; (with_reducible refine (trivetlaw03_same.calls k1 _ _ y148 _ _ l1 true _ ?side1 ?side2 ?side3 ?side4 A26.out).mono ?_); (case side1 => repeat (first | exact (Kd.R_reads' HO_6.out).2.2 | (with_reducible refine Kd.C_alloc ?_ _) | (with_reducible refine Kd.C_drewN ?_ _) | (with_reducible refine Kd.C_drew ?_))); (case side2 => exact (Kd.R_reads' HO_6.out).2.1); (case side3 => repeat (first | exact (Kd.C_below HR1.out HB.out) | (with_reducible refine Kd.C_alloc ?_ _) | (with_reducible refine Kd.C_drewN ?_ _) | (with_reducible refine Kd.C_drew ?_))); (case side4 => exact HC1.out); rintro e w' ⟨rfl, ⟨nd, rfl⟩⟩; (try first | exact ⟨rfl, _, World.drewN_drewN _ _ _⟩ | exact ⟨rfl, _, Eq.trans (World.drewN_drewN _ _ _) (congrArg (World.drewN _) (Nat.add_assoc _ _ _))⟩); obtain ⟨Ao30, co30, eo30⟩ := Kd.R_slice HO165.out; subst eo30; obtain ⟨Ao31, co31, eo31⟩ := Kd.R_slice HO_9.out; subst eo31) | (go_at_call 12; (with_reducible refine (trivetlaw03_same.calls k1 _ _ t162 _ _ y158 t169 _ ?side1 ?side2 ?side3 ?side4 A28.out).mono ?_); (case side1 => repeat (first | exact (Kd.R_reads' HO165.out).2.2 | (with_reducible refine Kd.C_alloc ?_ _) | (with_reducible refine Kd.C_drewN ?_ _) | (with_reducible refine Kd.C_drew ?_))); (case side2 => exact (Kd.R_reads' HO165.out).2.1); (case side3 => repeat (first | exact (Kd.R_reads' HO_9.out).2.2 | (with_reducible refine Kd.C_alloc ?_ _) | (with_reducible refine Kd.C_drewN ?_ _) | (with_reducible refine Kd.C_drew ?_))); (case side4 => exact (Kd.R_reads' HO_9.out).2.1); rintro e w' ⟨rfl, ⟨nd, rfl⟩⟩; (try first | exact ⟨rfl, _, World.drewN_drewN _ _ _⟩ | exact ⟨rfl, _, Eq.trans (World.drewN_drewN _ _ _) (congrArg (World.drewN _) (Nat.add_assoc _ _ _))⟩))); try go_wp2_with (first | (go_at_call 10; (with_reducible refine (split_Shares.calls k1 a0 _ _ y148 t162 none _ ?side1 ?side2 A24.out).mono ?_); (case side1 => repeat (first | exact (Kd.R_reads' HO_6.out).2.2 | (with_reducible refine Kd.C_alloc ?_ _) | (with_reducible refine Kd.C_drewN ?_ _) | (with_reducible refine Kd.C_drew ?_))); (case side2 => exact (Kd.R_reads' HO_6.out).2.1); rintro e w29 ⟨v164, rfl, ho0, hb⟩; have HO165 := ka (Kd.R_lower (Kd.R_new' (Kd.R_new' (Kd.R_new' ho0 (Kd.R_lt (kr HO_6.out))) (Kd.R_lt (kr HO_7.out))) (Kd.R_lt (kr HO_9.out))) (below_size (kw HB.out))); replace HO_6 := ka (Kd.R_elder' (kr HO_6.out) (Kd.R_base ho0) hb); replace HO_7 := ka (Kd.R_elder' (kr HO_7.out) (Kd.R_base ho0) hb); replace HO_9 := ka (Kd.R_elder' (kr HO_9.out) (Kd.R_base ho0) hb); replace HB := ka (below_step (kw HB.out) hb); (try clear hb); (try clear hb2); (try clear hk); (try clear hi); (try clear ho0); (try simp only [errW_none, errW_some])) | (go_at_call 12; (with_reducible refine (trivetlaw03_same.calls k1 _ _ y148 _ _ l1 true _ ?side1 ?side2 ?side3 ?side4 A26.out).mono ?_); (case side1 => repeat (first | exact (Kd.R_reads' HO_6.out).2.2 | (with_reducible refine Kd.C_alloc ?_ _) | (with_reducible refine Kd.C_drewN ?_ _) | (with_reducible refine Kd.C_drew ?_))); (case side2 => exact (Kd.R_reads' HO_6.out).2.1); (case side3 => repeat (first | exact (Kd.C_below HR1.out HB.out) | (with_reducible refine Kd.C_alloc ?_ _) | (with_reducible refine Kd.C_drewN ?_ _) | (with_reducible refine Kd.C_drew ?_))); (case side4 => exact HC1.out); rintro e w' ⟨rfl, ⟨nd, rfl⟩⟩; (try first | exact ⟨rfl, _, World.drewN_drewN _ _ _⟩ | exact ⟨rfl, _, Eq.trans (World.drewN_drewN _ _ _) (congrArg (World.drewN _) (Nat.add_assoc _ _ _))⟩); obtain ⟨Ao30, co30, eo30⟩ := Kd.R_slice HO165.out; subst eo30; obtain ⟨Ao31, co31, eo31⟩ := Kd.R_slice HO_9.out; subst eo31) | (go_at_call 12; (with_reducible refine (trivetlaw03_same.calls k1 _ _ t162 _ _ y158 t169 _ ?side1 ?side2 ?side3 ?side4 A28.out).mono ?_); (case side1 => repeat (first | exact (Kd.R_reads' HO165.out).2.2 | (with_reducible refine Kd.C_alloc ?_ _) | (with_reducible refine Kd.C_drewN ?_ _) | (with_reducible refine Kd.C_drew ?_))); (case side2 => exact (Kd.R_reads' HO165.out).2.1); (case side3 => repeat (first | exact (Kd.R_reads' HO_9.out).2.2 | (with_reducible refine Kd.C_alloc ?_ _) | (with_reducible refine Kd.C_drewN ?_ _) | (with_reducible refine Kd.C_drew ?_))); (case side4 => exact (Kd.R_reads' HO_9.out).2.1); rintro e w' ⟨rfl, ⟨nd, rfl⟩⟩; (try first | exact ⟨rfl, _, World.drewN_drewN _ _ _⟩ | exact ⟨rfl, _, Eq.trans (World.drewN_drewN _ _ _) (congrArg (World.drewN _) (Nat.add_assoc _ _ _))⟩))))
           go_ret
           exact ⟨by first | rfl | (simp [errW_none, errW_some] <;> rfl) | (simp [*, errW_none, errW_some] <;> rfl), by repeat (first | (with_reducible first | exact HB.out | apply kc1 | apply kc2 | apply kc3) | exact HB.out)⟩
          ·have H1 : (none) = some r := by rw [if_neg (show ¬ (some q168).isNone = true by simp)] at H; exact H
           clear H
           have H := H1
           clear H1
           try simp only [errW_none, errW_some]
           exact absurd H (by simp)
         ·have H1 : (if t163.isNone = true then (none) else ((trivetlaw03_same.f k1 t162 y158).bind fun t171 => (some t171))) = some r := by rw [if_neg (show ¬ (some q167).isNone = true by simp)] at H; exact H
          clear H
          have H := H1
          clear H1
          try simp only [errW_none, errW_some]
          rcases t163 with _ | q170
          ·have H1 : (none) = some r := by rw [if_pos (show (none : Option Int).isNone = true by rfl)] at H; exact H
           clear H
           have H := H1
           clear H1
           try simp only [errW_none, errW_some]
           exact absurd H (by simp)
          ·have H1 : ((trivetlaw03_same.f k1 t162 y158).bind fun t171 => (some t171)) = some r := by rw [if_neg (show ¬ (some q170).isNone = true by simp)] at H; exact H
           clear H
           have H := H1
           clear H1
           try simp only [errW_none, errW_some]
           replace H := Option.bind_eq_some_iff.mp H
           obtain ⟨t171, A320, H⟩ := H
           replace H : (some t171) = some r := H
           have A32 := ka A320
           clear A320
           obtain rfl := Option.some.inj H
           go_wp2_with (first | (go_at_call 10; (with_reducible refine (split_Shares.calls k1 a0 _ _ y148 t162 (some q170) _ ?side1 ?side2 A24.out).mono ?_); (case side1 => repeat (first | exact (Kd.R_reads' HO_6.out).2.2 | (with_reducible refine Kd.C_alloc ?_ _) | (with_reducible refine Kd.C_drewN ?_ _) | (with_reducible refine Kd.C_drew ?_))); (case side2 => exact (Kd.R_reads' HO_6.out).2.1); rintro e w33 ⟨v164, rfl, ho0, hb⟩; have HO165 := ka (Kd.R_lower (Kd.R_new' (Kd.R_new' (Kd.R_new' ho0 (Kd.R_lt (kr HO_6.out))) (Kd.R_lt (kr HO_7.out))) (Kd.R_lt (kr HO_9.out))) (below_size (kw HB.out))); replace HO_6 := ka (Kd.R_elder' (kr HO_6.out) (Kd.R_base ho0) hb); replace HO_7 := ka (Kd.R_elder' (kr HO_7.out) (Kd.R_base ho0) hb); replace HO_9 := ka (Kd.R_elder' (kr HO_9.out) (Kd.R_base ho0) hb); replace HB := ka (below_step (kw HB.out) hb); (try clear hb); (try clear hb2); (try clear hk); (try clear hi); (try clear ho0); (try simp only [errW_none, errW_some])) | (go_at_call 12; (with_reducible refine (trivetlaw03_same.calls k1 _ _ y148 _ _ l1 true _ ?side1 ?side2 ?side3 ?side4 A26.out).mono ?_); (case side1 => repeat (first | exact (Kd.R_reads' HO_6.out).2.2 | (with_reducible refine Kd.C_alloc ?_ _) | (with_reducible refine Kd.C_drewN ?_ _) | (with_reducible refine Kd.C_drew ?_))); (case side2 => exact (Kd.R_reads' HO_6.out).2.1); (case side3 => repeat (first | exact (Kd.C_below HR1.out HB.out) | (with_reducible refine Kd.C_alloc ?_ _) | (with_reducible refine Kd.C_drewN ?_ _) | (with_reducible refine Kd.C_drew ?_))); (case side4 => exact HC1.out); rintro e w' ⟨rfl, ⟨nd, rfl⟩⟩; (try first | exact ⟨rfl, _, World.drewN_drewN _ _ _⟩ | exact ⟨rfl, _, Eq.trans (World.drewN_drewN _ _ _) (congrArg (World.drewN _) (Nat.add_assoc _ _ _))⟩); obtain ⟨Ao34, co34, eo34⟩ := Kd.R_slice HO165.out; subst eo34; obtain ⟨Ao35, co35, eo35⟩ := Kd.R_slice HO_9.out; subst eo35) | (go_at_call 12; (with_reducible refine (trivetlaw03_same.calls k1 _ _ t162 _ _ y158 t171 _ ?side1 ?side2 ?side3 ?side4 A32.out).mono ?_); (case side1 => repeat (first | exact (Kd.R_reads' HO165.out).2.2 | (with_reducible refine Kd.C_alloc ?_ _) | (with_reducible refine Kd.C_drewN ?_ _) | (with_reducible refine Kd.C_drew ?_))); (case side2 => exact (Kd.R_reads' HO165.out).2.1); (case side3 => repeat (first | exact (Kd.R_reads' HO_9.out).2.2 | (with_reducible refine Kd.C_alloc ?_ _) | (with_reducible refine Kd.C_drewN ?_ _) | (with_reducible refine Kd.C_drew ?_))); (case side4 => exact (Kd.R_reads' HO_9.out).2.1); rintro e w' ⟨rfl, ⟨nd, rfl⟩⟩; (try first | exact ⟨rfl, _, World.drewN_drewN _ _ _⟩ | exact ⟨rfl, _, Eq.trans (World.drewN_drewN _ _ _) (congrArg (World.drewN _) (Nat.add_assoc _ _ _))⟩)))
           repeat (go_quiet (first | (go_at_call 10; (with_reducible refine (split_Shares.calls k1 a0 _ _ y148 t162 (some q170) _ ?side1 ?side2 A24.out).mono ?_); (case side1 => repeat (first | exact (Kd.R_reads' HO_6.out).2.2 | (with_reducible refine Kd.C_alloc ?_ _) | (with_reducible refine Kd.C_drewN ?_ _) | (with_reducible refine Kd.C_drew ?_))); (case side2 => exact (Kd.R_reads' HO_6.out).2.1); rintro e w33 ⟨v164, rfl, ho0, hb⟩; have HO165 := ka (Kd.R_lower (Kd.R_new' (Kd.R_new' (Kd.R_new' ho0 (Kd.R_lt (kr HO_6.out))) (Kd.R_lt (kr HO_7.out))) (Kd.R_lt (kr HO_9.out))) (below_size (kw HB.out))); replace HO_6 := ka (Kd.R_elder' (kr HO_6.out) (Kd.R_base ho0) hb); replace HO_7 := ka (Kd.R_elder' (kr HO_7.out) (Kd.R_base ho0) hb); replace HO_9 := ka (Kd.R_elder' (kr HO_9.out) (Kd.R_base ho0) hb); replace HB := ka (below_step (kw HB.out) hb); (try clear hb); (try clear hb2); (try clear hk); (try clear hi); (try clear ho0); (try simp only [errW_none, errW_some])) | (go_at_call 12; (with_reducible refine (trivetlaw03_same.calls k1 _ _ y148 _ _ l1 true _ ?side1 ?side2 ?side3 ?side4 A26.out).mono ?_); (case side1 => repeat (first | exact (Kd.R_reads' HO_6.out).2.2 | (with_reducible refine Kd.C_alloc ?_ _) | (with_reducible refine Kd.C_drewN ?_ _) | (with_reducible refine Kd.C_drew ?_))); (case side2 => exact (Kd.R_reads' HO_6.out).2.1); (case side3 => repeat (first | exact (Kd.C_below HR1.out HB.out) | (with_reducible refine Kd.C_alloc ?_ _) | (with_reducible refine Kd.C_drewN ?_ _) | (with_reducible refine Kd.C_drew ?_))); (case side4 => exact HC1.out); rintro e w' ⟨rfl, ⟨nd, rfl⟩⟩; (try first | exact ⟨rfl, _, World.drewN_drewN _ _ _⟩ | exact ⟨rfl, _, Eq.trans (World.drewN_drewN _ _ _) (congrArg (World.drewN _) (Nat.add_assoc _ _ _))⟩); obtain ⟨Ao34, co34, eo34⟩ := Kd.R_slice HO165.out; subst eo34; obtain ⟨Ao35, co35, eo35⟩ := Kd.R_slice HO_9.out; subst eo35) | (go_at_call 12; (with_reducible refine (trivetlaw03_same.calls k1 _ _ t162 _ _ y158 t171 _ ?side1 ?side2 ?side3 ?side4 A32.out).mono ?_); (case side1 => repeat (first | exact (Kd.R_reads' HO165.out).2.2 | (with_reducible refine Kd.C_alloc ?_ _) | (with_reducible refine Kd.C_drewN ?_ _) | (with_reducible refine Kd.C_drew ?_))); (case side2 => exact (Kd.R_reads' HO165.out).2.1); (case side3 => repeat (first | exact (Kd.R_reads' HO_9.out).2.2 | (with_reducible refine Kd.C_alloc ?_ _) | (with_reducible refine Kd.C_drewN ?_ _) | (with_reducible refine Kd.C_drew ?_))); (case side4 => exact (Kd.R_reads' HO_9.out).2.1); rintro e w' ⟨rfl, ⟨nd, rfl⟩⟩; (try first | exact ⟨rfl, _, World.drewN_drewN _ _ _⟩ | exact ⟨rfl, _, Eq.trans (World.drewN_drewN _ _ _) (congrArg (World.drewN _) (Nat.add_assoc _ _ _))⟩))); try go_wp2_with (first | (go_at_call 10; (with_reducible refine (split_Shares.calls k1 a0 _ _ y148 t162 (some q170) _ ?side1 ?side2 A24.out).mono ?_); (case side1 => repeat (first | exact (Kd.R_reads' HO_6.out).2.2 | (with_reducible refine Kd.C_alloc ?_ _) | (with_reducible refine Kd.C_drewN ?_ _) | (with_reducible refine Kd.C_drew ?_))); (case side2 => exact (Kd.R_reads' HO_6.out).2.1); rintro e w33 ⟨v164, rfl, ho0, hb⟩; have HO165 := ka (Kd.R_lower (Kd.R_new' (Kd.R_new' (Kd.R_new' ho0 (Kd.R_lt (kr HO_6.out))) (Kd.R_lt (kr HO_7.out))) (Kd.R_lt (kr HO_9.out))) (below_size (kw HB.out))); replace HO_6 := ka (Kd.R_elder' (kr HO_6.out) (Kd.R_base ho0) hb); replace HO_7 := ka (Kd.R_elder' (kr HO_7.out) (Kd.R_base ho0) hb); replace HO_9 := ka (Kd.R_elder' (kr HO_9.out) (Kd.R_base ho0) hb); replace HB := ka (below_step (kw HB.out) hb); (try clear hb); (try clear hb2); (try clear hk); (try clear hi); (try clear ho0); (try simp only [errW_none, errW_some])) | (go_at_call 12; (with_reducible refine (trivetlaw03_same.calls k1 _ _ y148 _ _ l1 true _ ?side1 ?side2 ?side3 ?side4 A26.out).mono ?_); (case side1 => repeat (first | exact (Kd.R_reads' HO_6.out).2.2 | (with_reducible refine Kd.C_alloc ?_ _) | (with_reducible refine Kd.C_drewN ?_ _) | (with_reducible refine Kd.C_drew ?_))); (case side2 => exact (Kd.R_reads' HO_6.out).2.1); (case side3 => repeat (first | exact (Kd.C_below HR1.out HB.out) | (with_reducible refine Kd.C_alloc ?_ _) | (with_reducible refine Kd.C_drewN ?_ _) | (with_reducible refine Kd.C_drew ?_))); (case side4 => exact HC1.out); rintro e w' ⟨rfl, ⟨nd, rfl⟩⟩; (try first | exact ⟨rfl, _, World.drewN_drewN _ _ _⟩ | exact ⟨rfl, _, Eq.trans (World.drewN_drewN _ _ _) (congrArg (World.drewN _) (Nat.add_assoc _ _ _))⟩); obtain ⟨Ao34, co34, eo34⟩ := Kd.R_slice HO165.out; subst eo34; obtain ⟨Ao35, co35, eo35⟩ := Kd.R_slice HO_9.out; subst eo35) | (go_at_call 12; (with_reducible refine (trivetlaw03_same.calls k1 _ _ t162 _ _ y158 t171 _ ?side1 ?side2 ?side3 ?side4 A32.out).mono ?_); (case side1 => repeat (first | exact (Kd.R_reads' HO165.out).2.2 | (with_reducible refine Kd.C_alloc ?_ _) | (with_reducible refine Kd.C_drewN ?_ _) | (with_reducible refine Kd.C_drew ?_))); (case side2 => exact (Kd.R_reads' HO165.out).2.1); (case side3 => repeat (first | exact (Kd.R_reads' HO_9.out).2.2 | (with_reducible refine Kd.C_alloc ?_ _) | (with_reducible refine Kd.C_drewN ?_ _) | (with_reducible refine Kd.C_drew ?_))); (case side4 => exact (Kd.R_reads' HO_9.out).2.1); rintro e w' ⟨rfl, ⟨nd, rfl⟩⟩; (try first | exact ⟨rfl, _, World.drewN_drewN _ _ _⟩ | exact ⟨rfl, _, Eq.trans (World.drewN_drewN _ _ _) (congrArg (World.drewN _) (Nat.add_assoc _ _ _))⟩))))
           go_ret
           exact ⟨by first | rfl | (simp [errW_none, errW_some] <;> rfl) | (simp [*, errW_none, errW_some] <;> rfl), by repeat (first | (with_reducible first | exact HB.out | apply kc1 | apply kc2 | apply kc3) | exact HB.out)⟩
        ·replace c27 := Bool.eq_false_iff.mpr c27
         subst c27
         have H1 : (none) = some r := by rw [if_neg (show ¬ (false = true) by decide)] at H; exact H
         clear H
         have H := H1
         clear H1
         exact absurd H (by simp)
       ·replace c25 := Bool.eq_false_iff.mpr c25
        subst c25
        have H1 : (none) = some r := by rw [if_neg (show ¬ (false = true) by decide)] at H; exact H
        clear H
        have H := H1
        clear H1
        exact absurd H (by simp)
   ·rw [if_neg c8] at H
    exact absurd H (by simp)
  ·rw [if_neg c6] at H
   exact absurd H (by simp)

/-- THE ONE PURE STATEMENT of trivetlaw03_SplitStays: yours. -/
def trivetlaw03_SplitStays.Pure : Prop := ∀ (a0 : Int) (l1 : List Int), (Lit.int .i64 a0).wf = true → l1.length ≤ maxLen → l1.length * 8 ≤ 140737488351232 → (∀ x ∈ l1, (Lit.int .i64 x).wf = true) → ∃ k, trivetlaw03_SplitStays.f k a0 l1 = some true
theorem trivetlaw03_SplitStays.walk (P : trivetlaw03_SplitStays.Pure) (a0 : Int) (a1 : Option Addr) (len1 cap1 : Nat) (z1 : List Int) (w : World) (w0 : (Lit.int .i64 a0).wf = true) (w1 : (a1 = none ∧ len1 = 0 ∧ cap1 = 0 ∧ z1 = []) ∨ ∃ x, a1 = some x ∧ len1 ≤ cap1 ∧ cap1 ≤ maxLen ∧ z1.length = cap1 ∧ (∀ i, i < z1.length → w.cell? (x.add i) = some (.int .i64 (z1.getD i 0))) ∧ ∀ n ∈ z1, (Lit.int .i64 n).wf = true) (y1 : len1 * 8 ≤ 140737488351232) :
  Calls Try.prog 5 #[.int .i64 a0, .slice a1 len1 cap1] w fun e w' => e = .returned (.bool true) ∧ Below w.heap.size w w' := by
 obtain ⟨l1, rfl, hr1, hm1, hw1, hc1⟩ := ReadsInt.ofRowC w1
 obtain ⟨k, h⟩ := P a0 l1 w0 hm1 y1 hw1
 refine (trivetlaw03_SplitStays.calls k a0 _ _ l1 true w (Kd.C_of_reads (d := (0 : Int)) (h1 := fun _ => rfl) hr1) hc1 h).mono ?_
 rintro e w' ⟨rfl, hd⟩
 exact ⟨rfl, hd⟩

end Go.Proofs.Ytcpmfdagnchlbaa.P
