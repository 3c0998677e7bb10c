/- The Go law SplitWhole answers true at all totals and weights: shares sum to the total, each is less than a cent from its quotient, of weight 0 it is 0. Conditions: none beyond the given statement's own. -/
import Derived.Test.YtcpmfdagnchlbaaPx9
namespace Go.Proofs.Ytcpmfdagnchlbaa.Pure
open Go.RowKit Go.Proofs.Ytcpmfdagnchlbaa.P Go.Proofs.YtcpmfdagnchlbaaW.PrintWords Go.Proofs.YtcpmfdagnchlbaaW.PrintLast
set_option linter.unusedVariables false
set_option linter.unusedSimpArgs false
theorem Shr.sum_map_perm {f : Int → Int} {a b : List Int} (p : a.Perm b) : (a.map f).sum = (b.map f).sum := by
  induction p with
  | nil => rfl
  | cons x _ ih => simp only [List.map_cons, List.sum_cons, ih]
  | swap x y l => simp only [List.map_cons, List.sum_cons]; omega
  | trans _ _ ih1 ih2 => exact ih1.trans ih2
theorem Shr.upto_map (r : List Int) : (Srt.upto r.length).map (rd r) = r := by
  apply List.ext_getElem?
  intro i
  unfold Srt.upto
  rw [List.map_map]
  by_cases h : i < r.length
  · rw [List.getElem?_map, List.getElem?_range h]
    simp [rd, List.getD_eq_getElem?_getD, List.getElem?_eq_getElem h]
  · rw [List.getElem?_eq_none (by simp; omega), List.getElem?_eq_none (by omega)]
theorem Shr.sum_bound (c : Int) (f : Int → Int) : ∀ o : List Int, (∀ x ∈ o, f x ≤ c) → (o.map f).sum ≤ c * (o.length : Int)
  | [], _ => by simp
  | x :: o, h => by
    have := Shr.sum_bound c f o (fun y hy => h y (by simp [hy]))
    have := h x (by simp)
    have e : c * ((o.length + 1 : Nat) : Int) = c * (o.length : Int) + c := by rw [show ((o.length + 1 : Nat) : Int) = (o.length : Int) + 1 by omega, Int.mul_add, Int.mul_one]
    simp only [List.map_cons, List.sum_cons, List.length_cons]
    rw [e]
    omega
/-- who gets a cent more had something left -/
theorem Shr.rest_pos {a : Int} {l : List Int} (h : Shr.may a l) (x : Int) (hx : x ∈ (Shr.ord a l).take (Shr.left a l).toNat) : 0 < rd (Shr.rs a l.sum l) x := by
  have ho := Shr.order h
  have hl := Shr.left_in h
  have hall := h.2.2.2.2
  have hge : ∀ y : Int, 0 ≤ rd (Shr.rs a l.sum l) y ∧ rd (Shr.rs a l.sum l) y ≤ l.sum - 1 := by
    intro y
    unfold rd Shr.rs
    rw [List.getD_eq_getElem?_getD, List.getElem?_map]
    cases l[y.toNat]? with
    | none => simp; omega
    | some z =>
      have e1 := Int.emod_nonneg (a * z) (show l.sum ≠ 0 by omega)
      have e2 := Int.emod_lt_of_pos (a * z) hall
      simp
      omega
  refine Classical.byContradiction fun hn => ?_
  have hx0 : rd (Shr.rs a l.sum l) x = 0 := by have := (hge x).1; omega
  obtain ⟨p, hp, hpe⟩ := List.mem_iff_getElem.mp hx
  have hp' : p < (Shr.left a l).toNat ∧ p < (Shr.ord a l).length := by simp at hp; omega
  rw [List.getElem_take] at hpe
  have hsum : ((Shr.ord a l).map (rd (Shr.rs a l.sum l))).sum = (Shr.rs a l.sum l).sum := by
    have lr : (Shr.rs a l.sum l).length = l.length := by simp [Shr.rs]
    have := Shr.sum_map_perm (f := rd (Shr.rs a l.sum l)) ho.1
    rw [← lr, Shr.upto_map] at this
    exact this
  have hsplit : Shr.ord a l = (Shr.ord a l).take p ++ (Shr.ord a l).drop p := (List.take_append_drop p _).symm
  have hlate : ∀ y ∈ (Shr.ord a l).drop p, rd (Shr.rs a l.sum l) y ≤ 0 := by
    intro y hy
    obtain ⟨q, hq, hqe⟩ := List.mem_iff_getElem.mp hy
    rw [List.getElem_drop] at hqe
    rcases Nat.eq_zero_or_pos q with h0 | h0
    · subst h0
      simp only [Nat.add_zero] at hqe
      rw [hpe] at hqe
      subst hqe
      omega
    · have hlen : p + q < (Shr.ord a l).length := by simp at hq; omega
      have := (List.pairwise_iff_getElem.mp ho.2.1) p (p + q) hp'.2 hlen (by omega)
      rw [hpe, hqe] at this
      unfold Srt.T at this
      omega
  have hearly := Shr.sum_bound (l.sum - 1) (rd (Shr.rs a l.sum l)) ((Shr.ord a l).take p) (fun y _ => (hge y).2)
  have hlate2 := Shr.sum_bound 0 (rd (Shr.rs a l.sum l)) ((Shr.ord a l).drop p) hlate
  rw [hsplit, List.map_append, U.sum_add] at hsum
  have hlp : ((Shr.ord a l).take p).length = p := by simp; omega
  rw [hlp] at hearly
  have e := Shr.left_eq a l.sum hall l
  have e2 : l.sum * Shr.left a l = (Shr.rs a l.sum l).sum := by unfold Shr.left; rw [Int.mul_sub, Int.mul_comm l.sum a]; omega
  have e3 : (p : Int) + 1 ≤ Shr.left a l := by omega
  have e4 : l.sum * ((p : Int) + 1) ≤ l.sum * Shr.left a l := Int.mul_le_mul_of_nonneg_left e3 (by omega)
  rw [Int.mul_add, Int.mul_one] at e4
  rw [Int.sub_mul, Int.one_mul] at hearly
  omega
/-- what a share is, against its quotient -/
theorem Shr.near {a : Int} {l : List Int} (h : Shr.may a l) (i : Nat) (hi : i < l.length) :
    0 ≤ rd (Shr.sh a l) (i : Int) ∧ rd (Shr.sh a l) (i : Int) ≤ a ∧ (rd l (i : Int) = 0 → rd (Shr.sh a l) (i : Int) = 0) ∧ M.abs (a * rd l (i : Int) - rd (Shr.sh a l) (i : Int) * l.sum) < l.sum := by
  have hall := h.2.2.2.2
  have hmem : rd l (i : Int) ∈ l := by
    unfold rd
    rw [List.getD_eq_getElem?_getD, List.getElem?_eq_getElem (by omega)]
    exact List.getElem_mem _
  have hw := h.2.2.2.1 _ hmem
  have hw2 := Shr.le_sum (fun w hw => (h.2.2.2.1 w hw).1) _ hmem
  have hrs : rd (Shr.rs a l.sum l) (i : Int) = a * rd l (i : Int) % l.sum := by
    simp [rd, Shr.rs, List.getD_eq_getElem?_getD, List.getElem?_eq_getElem hi]
  have hpos := Shr.rest_pos h (i : Int)
  rw [hrs] at hpos
  rw [Shr.get h i hi]
  generalize rd l (i : Int) = w at *
  have p0 : 0 ≤ a * w := Int.mul_nonneg h.1 hw.1
  have p1 : a * w ≤ a * l.sum := Int.mul_le_mul_of_nonneg_left hw2 h.1
  have d0 : 0 ≤ a * w / l.sum := Int.ediv_nonneg p0 (by omega)
  have e := Int.mul_ediv_add_emod (a * w) l.sum
  have e1 := Int.emod_nonneg (a * w) (show l.sum ≠ 0 by omega)
  have e2 := Int.emod_lt_of_pos (a * w) hall
  have d1 : a * w / l.sum ≤ a := by
    have : a * w / l.sum ≤ a * l.sum / l.sum := Int.ediv_le_ediv hall p1
    rw [Int.mul_ediv_cancel _ (by omega)] at this
    exact this
  by_cases c : (i : Int) ∈ (Shr.ord a l).take (Shr.left a l).toNat
  · have hp := hpos c
    rw [if_pos c]
    have d2 : a * w / l.sum < a := by
      refine Int.lt_of_mul_lt_mul_left (a := l.sum) ?_ (by omega)
      rw [Int.mul_comm l.sum a]
      omega
    refine ⟨by omega, by omega, ?_, ?_⟩
    · intro h0
      subst h0
      simp at hp
    · rw [Int.add_mul, Int.one_mul, Int.mul_comm (a * w / l.sum) l.sum]
      unfold M.abs
      split <;> omega
  · rw [if_neg c]
    refine ⟨by omega, by omega, ?_, ?_⟩
    · intro h0
      subst h0
      simp
    · rw [Int.add_zero, Int.mul_comm (a * w / l.sum) l.sum]
      unfold M.abs
      split <;> omega
theorem cmp_num (k : Nat) (x y : Int) (hx : M.abs x < 65536 ^ 32) (hy : M.abs y < 65536 ^ 32) (hk : 300 ≤ k) : trivetref01_Cmp.f k (U.num x).1 (U.num x).2 (U.num y).1 (U.num y).2 = some (if x = y then 0 else if x < y then -1 else 1) := by
  have e1 : (65536 : Int) ^ 32 * 2 < 65536 ^ 64 := by decide
  have x0 := U.abs_nonneg x
  have y0 := U.abs_nonneg y
  have hn : M.abs (-y) < 65536 ^ 64 := by unfold M.abs at *; split <;> split at hy <;> omega
  have hs : M.abs (x - y) < 65536 ^ 64 := by unfold M.abs at *; split <;> split at hx <;> split at hy <;> omega
  unfold trivetref01_Cmp.f
  rw [trivetref01_Neg.num k y (by omega) hk, Option.bind_some, trivetref01_Add.num k x (-y) (by omega) hn hk, Option.bind_some, show x + -y = x - y by omega]
  have hd := U.dig_nil_iff (U.abs_nonneg (x - y))
  by_cases c : x = y
  · subst c
    rw [if_pos rfl]
    simp [U.num, M.abs, U.dig_zero]
  · have hne : U.dig (M.abs (x - y)) ≠ [] := by
      intro h
      have := hd.mp h
      unfold M.abs at this
      split at this <;> omega
    have hlen : ¬ ((U.num (x - y)).1.length : Int) = 0 := by
      simp only [U.num]
      intro h
      exact hne (List.length_eq_zero_iff.mp (by omega))
    rw [if_neg hlen, if_neg c]
    by_cases c2 : x < y
    · rw [if_pos (show (U.num (x - y)).2 = true from decide_eq_true (by omega)), if_pos c2]
    · rw [if_neg (show ¬ (U.num (x - y)).2 = true by simp [U.num]; omega), if_neg c2]
theorem may_loop (n : Nat) : ∀ (k i : Nat) (l : List Int) (b : Bool), (∀ w ∈ l, M.In w) → l.length = i + n → l.length ≤ 480 → n + 2 ≤ k → trivetref03_May.l0 k l b i = some (decide (∀ w ∈ l.drop i, 0 ≤ w ∧ w ≤ 10000000000000) && (b || decide (0 < (l.drop i).sum))) := by
  induction n with
  | zero =>
    intro k i l b hl hn hm hk
    obtain ⟨j, rfl⟩ : ∃ j, k = j + 1 := ⟨k - 1, by omega⟩
    simp only [trivetref03_May.l0]
    rw [if_neg (by omega), List.drop_eq_nil_of_le (by omega)]
    simp
  | succ n ih =>
    intro k i l b hl hn hm hk
    obtain ⟨j, rfl⟩ : ∃ j, k = j + 1 := ⟨k - 1, by omega⟩
    have hget : l.getD i 0 = l[i]'(by omega) := by rw [List.getD_eq_getElem?_getD, List.getElem?_eq_getElem (by omega)]; rfl
    have hdrop : l.drop i = l.getD i 0 :: l.drop (i + 1) := by rw [List.drop_eq_getElem_cons (by omega), hget]
    have hr : rd l (i : Int) = l.getD i 0 := rfl
    have ih' := fun b => ih j (i + 1) l b hl (by omega) hm (by omega)
    simp only [trivetref03_May.l0]
    rw [if_pos (by omega), if_pos (by omega), hr, hdrop, M.w64_id (n := (i : Int) + 1) (by omega) (by omega)]
    generalize l.getD i 0 = x at *
    by_cases h1 : x < 0
    · rw [if_pos h1, decide_eq_false (by intro h; have := h x (by simp); omega)]
      rfl
    · rw [if_neg h1]
      by_cases h2 : x > 10000000000000
      · rw [if_pos h2, decide_eq_false (by intro h; have := h x (by simp); omega)]
        rfl
      · rw [if_neg h2]
        have hiff : (∀ w ∈ x :: l.drop (i + 1), 0 ≤ w ∧ w ≤ 10000000000000) ↔ (∀ w ∈ l.drop (i + 1), 0 ≤ w ∧ w ≤ 10000000000000) := by
          constructor
          · intro h w hw; exact h w (by simp [hw])
          · intro h w hw
            rcases List.mem_cons.mp hw with rfl | hw
            · omega
            · exact h w hw
        by_cases hall : ∀ w ∈ l.drop (i + 1), 0 ≤ w ∧ w ≤ 10000000000000
        · have nn := (Shr.sum_nn hall).1
          have e2 : (x :: l.drop (i + 1)).sum = x + (l.drop (i + 1)).sum := by simp
          rw [decide_eq_true (hiff.mpr hall), e2]
          cases b with
          | true =>
            rw [if_pos rfl]
            have := ih' true
            rw [decide_eq_true hall] at this
            exact this
          | false =>
            rw [if_neg (by decide)]
            have := ih' (decide (x > 0))
            rw [decide_eq_true hall] at this
            refine this.trans ?_
            congr 2
            by_cases hx : x > 0
            · rw [decide_eq_true hx, decide_eq_true (show 0 < x + (l.drop (i + 1)).sum by omega)]; rfl
            · have : x = 0 := by omega
              subst this
              simp
        · rw [decide_eq_false (fun h => hall (hiff.mp h))]
          cases b with
          | true => rw [if_pos rfl]; have := ih' true; rw [decide_eq_false hall] at this; exact this
          | false => rw [if_neg (by decide)]; have := ih' (decide (x > 0)); rw [decide_eq_false hall] at this; exact this
theorem may_num (k : Nat) (a : Int) (l : List Int) (hl : ∀ w ∈ l, M.In w) (hm : l.length ≤ 100000) (hk : 600 ≤ k) : trivetref03_May.f k a l = some (decide (Shr.may a l)) := by
  have hj : ∀ b : Bool, b = true → trivetref03_May.j0 k l b = some false := by
    intro b hb
    obtain ⟨j, rfl⟩ : ∃ j, k = j + 1 := ⟨k - 1, by omega⟩
    subst hb
    simp [trivetref03_May.j0]
  unfold trivetref03_May.f
  by_cases h1 : a < 0
  · rw [if_pos h1, hj true rfl, decide_eq_false (by unfold Shr.may; omega)]
  · rw [if_neg h1]
    by_cases h2 : a > 10000000000000
    · rw [if_pos h2, hj true rfl, decide_eq_false (by unfold Shr.may; omega)]
    · rw [if_neg h2]
      by_cases h3 : (l.length : Int) = 0
      · rw [if_pos h3, hj true rfl, decide_eq_false]
        intro h
        have : l = [] := List.length_eq_zero_iff.mp (by omega)
        subst this
        have := h.2.2.2.2
        simp at this
      · rw [if_neg h3]
        by_cases h4 : (l.length : Int) > 480
        · rw [hj _ (decide_eq_true h4), decide_eq_false (by unfold Shr.may; omega)]
        · rw [decide_eq_false h4]
          obtain ⟨j, rfl⟩ : ∃ j, k = j + 1 := ⟨k - 1, by omega⟩
          simp only [trivetref03_May.j0]
          rw [if_neg (by decide)]
          have := may_loop l.length j 0 l false hl (by omega) (by omega) (by omega)
          refine this.trans ?_
          rw [List.drop_zero, Bool.false_or]
          congr 1
          by_cases c1 : ∀ w ∈ l, 0 ≤ w ∧ w ≤ 10000000000000
          · by_cases c2 : 0 < l.sum
            · rw [decide_eq_true c1, decide_eq_true c2, decide_eq_true (show Shr.may a l from ⟨by omega, by omega, by omega, c1, c2⟩)]; rfl
            · rw [decide_eq_true c1, decide_eq_false c2, decide_eq_false (fun h : Shr.may a l => c2 h.2.2.2.2)]; rfl
          · rw [decide_eq_false c1, decide_eq_false (fun h : Shr.may a l => c1 h.2.2.2.1)]; rfl
theorem whole_sums {a : Int} {l : List Int} (h : Shr.may a l) (hlen : (Shr.sh a l).length = l.length) (n : Nat) : ∀ (k i : Nat), l.length = i + n →
    trivetlaw03_SplitWhole.l0 (k + n + 1) a l true (Shr.sh a l) (l.take i).sum ((Shr.sh a l).take i).sum i = trivetlaw03_SplitWhole.l1 k a l true (Shr.sh a l) l.sum (Shr.sh a l).sum 0 := by
  have hm := h.2.2.1
  induction n with
  | zero =>
    intro k i hi
    simp only [trivetlaw03_SplitWhole.l0]
    rw [if_neg (by omega), List.take_of_length_le (by omega), List.take_of_length_le (by omega)]
  | succ n ih =>
    intro k i hi
    have hg : ∀ s : List Int, i < s.length → s.take (i + 1) = s.take i ++ [rd s (i : Int)] := by
      intro s hs
      rw [List.take_add_one, List.getElem?_eq_getElem hs]
      simp [rd, List.getD_eq_getElem?_getD, List.getElem?_eq_getElem hs]
    have hn := Shr.near h i (by omega)
    have ih' := ih k (i + 1) (by omega)
    rw [hg l (by omega), hg (Shr.sh a l) (by omega), U.sum_add, U.sum_add] at ih'
    have hmem : rd l (i : Int) ∈ l := by
      unfold rd
      rw [List.getD_eq_getElem?_getD, List.getElem?_eq_getElem (by omega)]
      exact List.getElem_mem _
    have hw := h.2.2.2.1 _ hmem
    have s1 := Shr.sum_nn (l := l.take i) (fun w hw => h.2.2.2.1 w (List.mem_of_mem_take hw))
    have s2 := Shr.sum_nn (l := (Shr.sh a l).take i) (by
      intro w hw
      obtain ⟨q, hq, rfl⟩ := List.mem_iff_getElem.mp (List.mem_of_mem_take hw)
      have := Shr.near h q (by omega)
      have e : rd (Shr.sh a l) (q : Int) = (Shr.sh a l)[q] := by simp [rd, List.getD_eq_getElem?_getD, List.getElem?_eq_getElem hq]
      rw [e] at this
      have := h.2.1
      omega)
    have lt1 : (l.take i).length ≤ 480 := by simp; omega
    have lt2 : ((Shr.sh a l).take i).length ≤ 480 := by simp; omega
    have ha := h.2.1
    have e1 : (l.take i).sum + [rd l (i : Int)].sum = (l.take i).sum + rd l (i : Int) := by simp
    have e2 : ((Shr.sh a l).take i).sum + [rd (Shr.sh a l) (i : Int)].sum = ((Shr.sh a l).take i).sum + rd (Shr.sh a l) (i : Int) := by simp
    rw [e1, e2] at ih'
    obtain ⟨K, hK⟩ : ∃ K, K = k + n + 1 := ⟨_, rfl⟩
    rw [← hK] at ih'
    rw [show k + (n + 1) + 1 = K + 1 by omega]
    simp only [trivetlaw03_SplitWhole.l0]
    rw [if_pos (by omega), if_pos (by omega), if_pos (by omega), if_neg (by omega), if_neg (by omega), M.w64_id (n := (l.take i).sum + rd l (i : Int)) (by omega) (by omega), M.w64_id (n := ((Shr.sh a l).take i).sum + rd (Shr.sh a l) (i : Int)) (by omega) (by omega), M.w64_id (n := (i : Int) + 1) (by omega) (by omega)]
    by_cases c : rd l (i : Int) = 0
    · rw [if_pos c, if_pos (hn.2.2.1 c)]; exact ih'
    · rw [if_neg c]; exact ih'
theorem whole_near {a : Int} {l : List Int} (h : Shr.may a l) (hlen : (Shr.sh a l).length = l.length) (n : Nat) : ∀ (k i : Nat), l.length = i + n → n + 7000 ≤ k →
    trivetlaw03_SplitWhole.l1 k a l true (Shr.sh a l) l.sum (Shr.sh a l).sum i = some true := by
  have hm := h.2.2.1
  have hs := Shr.sum_nn h.2.2.2.1
  have ha : M.In a := by have := h.1; have := h.2.1; unfold M.In; omega
  have hall : M.In l.sum := by unfold M.In; omega
  have eN : (2 : Int) ^ 250 < 65536 ^ 32 := by decide
  have eM : (65536 : Int) ^ 32 < 65536 ^ 64 := by decide
  have e3 : (2 : Int) ^ 250 = 1809251394333065553493296640760748560207343510400633813116524750123642650624 := by decide
  have small : ∀ x : Int, -1000000000000000000000000000000000000000000 ≤ x → x ≤ 1000000000000000000000000000000000000000000 → M.abs x < 65536 ^ 32 := by
    intro x h1 h2
    unfold M.abs
    split <;> omega
  induction n with
  | zero =>
    intro k i hi hk
    obtain ⟨j, rfl⟩ : ∃ j, k = j + 1 := ⟨k - 1, by omega⟩
    simp only [trivetlaw03_SplitWhole.l1]
    rw [if_neg (by omega), if_pos trivial, Shr.sum h]
    simp
  | succ n ih =>
    intro k i hi hk
    obtain ⟨j, rfl⟩ : ∃ j, k = j + 1 := ⟨k - 1, by omega⟩
    have hn := Shr.near h i (by omega)
    have hmem : rd l (i : Int) ∈ l := by
      unfold rd
      rw [List.getD_eq_getElem?_getD, List.getElem?_eq_getElem (by omega)]
      exact List.getElem_mem _
    have hw := h.2.2.2.1 _ hmem
    have ih' := ih j (i + 1) (by omega) (by omega)
    have h0 := h.1
    have h1 := h.2.1
    simp only [trivetlaw03_SplitWhole.l1]
    generalize rd l (i : Int) = w at *
    generalize rd (Shr.sh a l) (i : Int) = s at *
    have p0 : 0 ≤ a * w := Int.mul_nonneg h0 hw.1
    have p1 : a * w ≤ 10000000000000 * 10000000000000 := Int.mul_le_mul h1 hw.2 hw.1 (by decide)
    have q0 : 0 ≤ s * l.sum := Int.mul_nonneg hn.1 hs.1
    have q1 : s * l.sum ≤ 10000000000000 * (10000000000000 * 480) := Int.mul_le_mul (by omega) (by omega) hs.1 (by decide)
    rw [if_pos (by omega), trivetref01_Of.num j a ha (by omega), Option.bind_some, if_pos (by omega), trivetref01_Of.num j w (by unfold M.In; omega) (by omega), Option.bind_some,
      trivetref01_Mul.num j a w (small _ (by omega) (by omega)) (small _ (by omega) (by omega)) (by omega), Option.bind_some, if_pos (by omega), trivetref01_Of.num j s (by unfold M.In; omega) (by omega), Option.bind_some, trivetref01_Of.num j l.sum hall (by omega), Option.bind_some,
      trivetref01_Mul.num j s l.sum (small _ (by omega) (by omega)) (small _ (by omega) (by omega)) (by omega), Option.bind_some]
    generalize s * l.sum = v at *
    generalize a * w = u at *
    have m1 := small v (by omega) (by omega)
    have m2 := small u (by omega) (by omega)
    have m3 := small (-v) (by omega) (by omega)
    have m4 := small (u - v) (by omega) (by omega)
    have m5 := small (M.abs (u - v)) (by have := U.abs_nonneg (u - v); omega) (by omega)
    have m6 := small l.sum (by omega) (by omega)
    rw [trivetref01_Neg.num j v (by omega) (by omega), Option.bind_some, trivetref01_Add.num j u (-v) (by omega) (by omega) (by omega), Option.bind_some, Option.bind_some, show u + -v = u - v by omega]
    have e : (U.num (u - v)).1 = (U.num (M.abs (u - v))).1 ∧ false = (U.num (M.abs (u - v))).2 := by
      have h := U.abs_nonneg (u - v)
      have e : M.abs (M.abs (u - v)) = M.abs (u - v) := by rw [show M.abs (M.abs (u - v)) = if M.abs (u - v) < 0 then -M.abs (u - v) else M.abs (u - v) from rfl, if_neg (by omega)]
      constructor
      · simp only [U.num, e]
      · simp only [U.num]; exact (decide_eq_false (by omega)).symm
    have hc := cmp_num j (M.abs (u - v)) l.sum m5 m6 (by omega)
    rw [← e.1, ← e.2] at hc
    rw [hc, Option.bind_some, if_neg (show ¬ M.abs (u - v) = l.sum by omega), if_pos hn.2.2.2, if_neg (by decide), M.w64_id (n := (i : Int) + 1) (by omega) (by omega)]
    exact ih'
theorem SplitWhole : trivetlaw03_SplitWhole.Pure := by
  intro a l h1 h2 h3 h4
  have ha := M.in_of_wf h1
  have hl : ∀ x ∈ l, M.In x := fun x hx => M.in_of_wf (h4 x hx)
  obtain ⟨K, hK⟩ : ∃ K, K = 10000 := ⟨_, rfl⟩
  refine ⟨K, ?_⟩
  unfold trivetlaw03_SplitWhole.f
  rw [trivetlaw03_up.num K (by omega), Option.bind_some]
  by_cases h : (l.length : Int) > 500
  · rw [if_pos h]
  · rw [if_neg h, split_Shares.num K a l ha hl (by omega) (by omega), Option.bind_some, may_num K a l hl (by omega) (by omega), Option.bind_some]
    obtain ⟨j, hj⟩ : ∃ j, K = (j + l.length + 1) + 1 := ⟨K - l.length - 2, by omega⟩
    by_cases hm : Shr.may a l
    · have e : Shr.res a l = (Shr.sh a l, none) := by unfold Shr.res; rw [if_pos hm]
      have hlen : (Shr.sh a l).length = l.length := by
        have := Shr.res_len a l
        rw [e, if_pos hm] at this
        exact this
      have hm480 := hm.2.2.1
      rw [decide_eq_true hm, e, if_pos rfl, if_pos (by rfl), hj]
      obtain ⟨J, hJ⟩ : ∃ J, J = j + l.length + 1 := ⟨_, rfl⟩
      have w1 := whole_sums hm hlen l.length j 0 (by omega)
      rw [← hJ] at w1 ⊢
      simp only [trivetlaw03_SplitWhole.j0]
      rw [if_neg (by decide), if_pos (by omega)]
      exact w1.trans (whole_near hm hlen l.length j 0 (by omega) (by omega))
    · have e : Shr.res a l = ([], some 1) := by unfold Shr.res; rw [if_neg hm]
      rw [decide_eq_false hm, e, if_neg (by decide), hj]
      simp [trivetlaw03_SplitWhole.j0]

end Go.Proofs.Ytcpmfdagnchlbaa.Pure
