/- The Go law SplitFirst answers true at all totals and weights: of equal weights earlier ones get no less, and at most a cent more. Conditions: none beyond the given statement's own. -/
import Derived.Test.YtcpmfdagnchlbaaPx10
namespace Go.Proofs.Ytcpmfdagnchlbaa.Pure
open Go.RowKit Go.Proofs.Ytcpmfdagnchlbaa.P Go.Proofs.YtcpmfdagnchlbaaW.PrintWords Go.Proofs.YtcpmfdagnchlbaaW.PrintLast
set_option linter.unusedVariables false
set_option linter.unusedSimpArgs false
theorem first_pair {a : Int} {l : List Int} (h : Shr.may a l) (i j : Nat) (hij : i < j) (hj : j < l.length) (he : rd l (i : Int) = rd l (j : Int)) :
    ¬ rd (Shr.sh a l) (i : Int) < rd (Shr.sh a l) (j : Int) ∧ ¬ rd (Shr.sh a l) (i : Int) > rd (Shr.sh a l) (j : Int) + 1 := by
  rw [Shr.get h i (by omega), Shr.get h j hj, he]
  have hr : rd (Shr.rs a l.sum l) (i : Int) = rd (Shr.rs a l.sum l) (j : Int) := by
    unfold rd at he ⊢
    simp only [Int.toNat_natCast, List.getD_eq_getElem?_getD, List.getElem?_eq_getElem (show i < l.length by omega), List.getElem?_eq_getElem hj] at he
    simp only [Shr.rs, Int.toNat_natCast, List.getD_eq_getElem?_getD, List.getElem?_map, List.getElem?_eq_getElem (show i < l.length by omega), List.getElem?_eq_getElem hj]
    simp only [Option.getD_some, Option.map_some] at he ⊢
    rw [he]
  have ha := Shr.ahead h i j hij hj hr (Shr.left a l).toNat
  by_cases c1 : (j : Int) ∈ (Shr.ord a l).take (Shr.left a l).toNat
  · rw [if_pos c1, if_pos (ha c1)]; omega
  · rw [if_neg c1]
    split <;> omega
theorem first_inner {a : Int} {l : List Int} (h : Shr.may a l) (hlen : (Shr.sh a l).length = l.length) (m : Nat) : ∀ (k i j : Nat), l.length = j + m → i < j → trivetlaw03_SplitFirst.l1 (k + m + 1) l true (Shr.sh a l) i j = trivetlaw03_SplitFirst.l0 k l true (Shr.sh a l) ((i + 1 : Nat) : Int) := by
  have hm := h.2.2.1
  induction m with
  | zero =>
    intro k i j hl hij
    simp only [trivetlaw03_SplitFirst.l1]
    rw [if_neg (by omega), M.w64_id (n := (i : Int) + 1) (by omega) (by omega)]
    rfl
  | succ m ih =>
    intro k i j hl hij
    obtain ⟨K, hK⟩ : ∃ K, K = k + m + 1 := ⟨_, rfl⟩
    have ih' := ih k i (j + 1) (by omega) (by omega)
    rw [← hK] at ih'
    rw [show k + (m + 1) + 1 = K + 1 by omega]
    simp only [trivetlaw03_SplitFirst.l1]
    rw [if_pos (by omega), if_pos (by omega), if_pos (by omega), if_pos (by omega), if_pos (by omega), M.w64_id (n := (j : Int) + 1) (by omega) (by omega), if_pos (show (i : Int) < ((Shr.sh a l).length : Int) by omega)]
    by_cases he : rd l (i : Int) = rd l (j : Int)
    · have hp := first_pair h i j hij (by omega) he
      have hb : M.In (rd (Shr.sh a l) (j : Int) + 1) := by
        rw [Shr.get h j (by omega)]
        have hx : 0 ≤ rd l (j : Int) ∧ rd l (j : Int) ≤ 10000000000000 := by
          refine h.2.2.2.1 _ ?_
          unfold rd
          rw [List.getD_eq_getElem?_getD, List.getElem?_eq_getElem (by omega)]
          exact List.getElem_mem _
        have p0 : 0 ≤ a * rd l (j : Int) := Int.mul_nonneg h.1 hx.1
        have p1 : a * rd l (j : Int) ≤ 10000000000000 * 10000000000000 := Int.mul_le_mul h.2.1 hx.2 hx.1 (by decide)
        have d0 : 0 ≤ a * rd l (j : Int) / l.sum := Int.ediv_nonneg p0 (by have := h.2.2.2.2; omega)
        have hw : rd l (j : Int) ≤ l.sum := by
          refine Shr.le_sum (fun w hw => (h.2.2.2.1 w hw).1) _ ?_
          unfold rd
          rw [List.getD_eq_getElem?_getD, List.getElem?_eq_getElem (by omega)]
          exact List.getElem_mem _
        have d1 : a * rd l (j : Int) / l.sum ≤ a * l.sum / l.sum := Int.ediv_le_ediv h.2.2.2.2 (Int.mul_le_mul_of_nonneg_left hw h.1)
        rw [Int.mul_ediv_cancel _ (by have := h.2.2.2.2; omega)] at d1
        have := h.2.1
        unfold M.In
        split <;> omega
      rw [if_pos he, if_neg hp.1, M.w64_id hb.1 hb.2, if_neg hp.2]
      exact ih'
    · rw [if_neg he]
      exact ih'
theorem first_fuel {n W k2 j L i : Nat} (hW : 600 ≤ W) (hk : (n + 1) * W + 5 ≤ j + 1) (hk2 : j = (k2 + (L - (i + 1)) + 1) + 1) (hm : L ≤ 480) : n * W + 5 ≤ k2 := by
  have e : (n + 1) * W = n * W + W := Nat.succ_mul n W
  rw [e] at hk
  obtain ⟨z, hz⟩ : ∃ z, z = n * W := ⟨_, rfl⟩
  rw [← hz] at hk ⊢
  omega
theorem first_outer {a : Int} {l : List Int} (h : Shr.may a l) (hlen : (Shr.sh a l).length = l.length) (W : Nat) (hW : 600 ≤ W) (n : Nat) : ∀ (k i : Nat), i + n = 41 → n * W + 5 ≤ k → trivetlaw03_SplitFirst.l0 k l true (Shr.sh a l) (i : Int) = some true := by
  have hm := h.2.2.1
  have fin : ∀ (k : Nat) (i : Int), 1 ≤ k → trivetlaw03_SplitFirst.j1 k l true (Shr.sh a l) i false = some true := by
    intro k i hk
    obtain ⟨j, rfl⟩ : ∃ j, k = j + 1 := ⟨k - 1, by omega⟩
    simp only [trivetlaw03_SplitFirst.j1]
    rw [if_neg (by decide), if_pos trivial, hlen]
    simp
  induction n with
  | zero =>
    intro k i hi hk
    obtain ⟨j, rfl⟩ : ∃ j, k = j + 1 := ⟨k - 1, by omega⟩
    simp only [trivetlaw03_SplitFirst.l0]
    split
    · rw [decide_eq_false (by omega)]; exact fin j _ (by omega)
    · exact fin j _ (by omega)
  | succ n ih =>
    intro k i hi hk
    have hk1 : 1 ≤ k := Nat.le_trans (by omega) hk
    have hkw : W + 5 ≤ k := Nat.le_trans (by rw [Nat.succ_mul]; omega) hk
    obtain ⟨j, rfl⟩ : ∃ j, k = j + 1 := ⟨k - 1, by omega⟩
    simp only [trivetlaw03_SplitFirst.l0]
    by_cases c : (i : Int) < ((Shr.sh a l).length : Int)
    · rw [if_pos c]
      by_cases c2 : (i : Int) < 40
      · rw [decide_eq_true c2]
        obtain ⟨k2, hk2⟩ : ∃ k2, j = (k2 + (l.length - (i + 1)) + 1) + 1 := ⟨j - (l.length - (i + 1)) - 2, by omega⟩
        have hk3 : n * W + 5 ≤ k2 := first_fuel hW hk hk2 hm
        rw [hk2]
        obtain ⟨K, hK⟩ : ∃ K, K = k2 + (l.length - (i + 1)) + 1 := ⟨_, rfl⟩
        have hin := first_inner h hlen (l.length - (i + 1)) k2 i (i + 1) (by omega) (by omega)
        rw [← hK] at hin ⊢
        simp only [trivetlaw03_SplitFirst.j1]
        rw [if_pos trivial, M.w64_id (n := (i : Int) + 1) (by omega) (by omega)]
        exact hin.trans (ih k2 (i + 1) (by omega) hk3)
      · rw [decide_eq_false c2]; exact fin j _ (by omega)
    · rw [if_neg c]; exact fin j _ (by omega)
theorem SplitFirst : trivetlaw03_SplitFirst.Pure := by
  intro a l h1 h2 h3 h4
  have ha := M.in_of_wf h1
  have hl : ∀ x ∈ l, M.In x := fun x hx => M.in_of_wf (h4 x hx)
  obtain ⟨K, hK⟩ : ∃ K, K = 30000 := ⟨_, rfl⟩
  refine ⟨K, ?_⟩
  unfold trivetlaw03_SplitFirst.f
  rw [trivetlaw03_up.num K (by omega), Option.bind_some]
  by_cases h : (l.length : Int) > 500
  · rw [if_pos h]
  · rw [if_neg h, split_Shares.num K a l ha hl (by omega) (by omega), Option.bind_some]
    by_cases hm : Shr.may a l
    · have e : Shr.res a l = (Shr.sh a l, none) := by unfold Shr.res; rw [if_pos hm]
      have hlen : (Shr.sh a l).length = l.length := by
        have := Shr.res_len a l
        rw [e, if_pos hm] at this
        exact this
      rw [e, if_pos (by rfl)]
      exact first_outer hm hlen 600 (by omega) 41 K 0 (by omega) (by omega)
    · have e : Shr.res a l = ([], some 1) := by unfold Shr.res; rw [if_neg hm]
      rw [e, if_neg (by decide)]

end Go.Proofs.Ytcpmfdagnchlbaa.Pure
