/- The Go law SplitEven answers true at all totals and numbers: any total's shares of the same weight are its quotient, the first ones a cent more, or there are none. Conditions: none beyond the given statement's own. -/
import Derived.Test.YtcpmfdagnchlbaaPx5
namespace Go.Proofs.Ytcpmfdagnchlbaa.Pure
open Go.RowKit Go.Proofs.Ytcpmfdagnchlbaa.P Go.Proofs.YtcpmfdagnchlbaaW.PrintWords Go.Proofs.YtcpmfdagnchlbaaW.PrintLast
set_option linter.unusedVariables false
set_option linter.unusedSimpArgs false
theorem even_sum : ∀ n : Nat, (List.replicate n (1 : Int)).sum = (n : Int)
  | 0 => rfl
  | n + 1 => by rw [List.replicate_succ, List.sum_cons, even_sum n]; omega
theorem even_sums (c : Int) : ∀ n : Nat, (List.replicate n c).sum = (n : Int) * c
  | 0 => by simp
  | n + 1 => by rw [List.replicate_succ, List.sum_cons, even_sums c n, show ((n + 1 : Nat) : Int) = (n : Int) + 1 by omega, Int.add_mul]; omega
theorem even_may {a : Int} {n : Nat} (ha : 0 ≤ a ∧ a ≤ 10000000000000) (hn : 1 ≤ n ∧ n ≤ 480) : Shr.may a (List.replicate n 1) := by
  refine ⟨ha.1, ha.2, by simp; omega, ?_, by rw [even_sum]; omega⟩
  intro w hw
  rw [List.eq_of_mem_replicate hw]
  decide
theorem even_get {a : Int} {n : Nat} (ha : 0 ≤ a ∧ a ≤ 10000000000000) (hn : 1 ≤ n ∧ n ≤ 480) (j : Nat) (hj : j < n) : rd (Shr.sh a (List.replicate n 1)) (j : Int) = a / (n : Int) + if (j : Int) < a % (n : Int) then 1 else 0 := by
  have hm := even_may ha hn
  have hl : (List.replicate n (1 : Int)).length = n := by simp
  rw [Shr.get hm j (by omega)]
  have h1 : rd (List.replicate n (1 : Int)) (j : Int) = 1 := by
    simp [rd, List.getD_eq_getElem?_getD, List.getElem?_replicate, hj]
  have hq : Shr.qs a (List.replicate n (1 : Int)).sum (List.replicate n 1) = List.replicate n (a / (n : Int)) := by
    unfold Shr.qs
    rw [even_sum, List.map_replicate, Int.mul_one]
  have hr : Shr.rs a (List.replicate n (1 : Int)).sum (List.replicate n 1) = List.replicate n (a % (n : Int)) := by
    unfold Shr.rs
    rw [even_sum, List.map_replicate, Int.mul_one]
  have hleft : Shr.left a (List.replicate n 1) = a % (n : Int) := by
    unfold Shr.left
    rw [hq, even_sums]
    have := Int.mul_ediv_add_emod a (n : Int)
    omega
  have hord : Shr.ord a (List.replicate n 1) = Srt.upto n := by
    unfold Shr.ord
    rw [hr, hl]
    have := Srt.is (r := List.replicate n (a % (n : Int))) (L := Srt.upto n) (by simp; omega) (by simp; omega) (by simp) (by
      rw [List.pairwise_iff_getElem]
      intro p q hp hq hpq
      have e : ∀ i (h : i < (Srt.upto n).length), (Srt.upto n)[i] = (i : Int) := by intro i h; simp [Srt.upto]
      have hp' : p < n := by simpa [Srt.upto] using hp
      have hq' : q < n := by simpa [Srt.upto] using hq
      rw [e p hp, e q hq]
      right
      simp [rd, List.getD_eq_getElem?_getD, List.getElem?_replicate, hp', hq', hpq])
    simpa using this
  rw [h1, even_sum, Int.mul_one, hord, hleft]
  have m0 := Int.emod_nonneg a (show (n : Int) ≠ 0 by omega)
  have m1 := Int.emod_lt_of_pos a (show 0 < (n : Int) by omega)
  have htake : (Srt.upto n).take (a % (n : Int)).toNat = Srt.upto (a % (n : Int)).toNat := by
    unfold Srt.upto
    rw [← List.map_take, List.take_range, show min (a % (n : Int)).toNat n = (a % (n : Int)).toNat by omega]
  rw [htake]
  congr 1
  have : ((j : Int) ∈ Srt.upto (a % (n : Int)).toNat) ↔ (j : Int) < a % (n : Int) := by
    rw [Srt.mem_upto]
    omega
  by_cases c : (j : Int) < a % (n : Int)
  · rw [if_pos c, if_pos (this.mpr c)]
  · rw [if_neg c, if_neg (fun h => c (this.mp h))]
theorem even_num (k : Nat) (a n : Int) (ha : M.In a) (hn : M.In n) (hk : 2001 ≤ k) : split_Even.f k a n = some (if 1 ≤ n ∧ n ≤ 480 then Shr.res a (List.replicate n.toNat 1) else ([], some 1)) := by
  have hj : ∀ b : Bool, b = true → split_Even.j0 k a n b = some ([], some 1) := by
    intro b hb
    obtain ⟨j, rfl⟩ : ∃ j, k = j + 1 := ⟨k - 1, by omega⟩
    subst hb
    simp [split_Even.j0]
  unfold split_Even.f
  by_cases h1 : n < 1
  · rw [if_pos h1, hj true rfl, if_neg (by omega)]
  · rw [if_neg h1]
    by_cases h2 : n > 480
    · rw [hj _ (decide_eq_true h2), if_neg (by omega)]
    · rw [decide_eq_false h2, if_pos ⟨by omega, by omega⟩]
      obtain ⟨j, rfl⟩ : ∃ j, k = j + 1 := ⟨k - 1, by omega⟩
      have hr : slices_Repeat_int64_int64.f [1] n = some (List.replicate n.toNat 1) := by
        unfold slices_Repeat_int64_int64.f
        rw [if_pos ⟨rfl, by omega, by omega⟩]
        rfl
      simp only [split_Even.j0]
      rw [if_neg (by decide), hr, Option.bind_some, split_Shares.num j a _ ha (by intro w hw; rw [List.eq_of_mem_replicate hw]; decide) (by simp; omega) (by omega), Option.bind_some]
theorem even_loop {a : Int} {n : Nat} (ha : 0 ≤ a ∧ a ≤ 10000000000000) (hn : 1 ≤ n ∧ n ≤ 480) (hlen : (Shr.sh a (List.replicate n 1)).length = n) (p : Nat) : ∀ (k i : Nat), n = i + p → p < k → trivetlaw03_SplitEven.l0 k a (n : Int) true (Shr.sh a (List.replicate n 1)) i = some true := by
  induction p with
  | zero =>
    intro k i hi hk
    obtain ⟨j, rfl⟩ : ∃ j, k = j + 1 := ⟨k - 1, by omega⟩
    simp only [trivetlaw03_SplitEven.l0]
    rw [if_neg (by omega)]
  | succ p ih =>
    intro k i hi hk
    obtain ⟨j, rfl⟩ : ∃ j, k = j + 1 := ⟨k - 1, by omega⟩
    have hg := even_get ha hn i (by omega)
    have ih' := ih j (i + 1) (by omega) (by omega)
    have q0 : 0 ≤ a / (n : Int) := Int.ediv_nonneg ha.1 (by omega)
    have q1 : a / (n : Int) ≤ a := Int.ediv_le_self _ ha.1
    simp only [trivetlaw03_SplitEven.l0]
    rw [if_pos (by omega), if_neg (by omega), M.tmodu ha.1, M.tdivu ha.1, hg, M.w64_id (n := a / (n : Int)) (by omega) (by omega), M.w64_id (n := a / (n : Int) + 1) (by omega) (by omega), M.w64_id (n := (i : Int) + 1) (by omega) (by omega)]
    by_cases c : (i : Int) < a % (n : Int)
    · rw [if_pos c, if_pos (by omega), if_pos (by omega), if_pos c, if_pos rfl]
      exact ih'
    · rw [if_neg c, if_pos (by omega), if_pos (by omega), if_neg c, if_pos (by omega)]
      exact ih'
theorem SplitEven : trivetlaw03_SplitEven.Pure := by
  intro a n h1 h2
  have ha := M.in_of_wf h1
  have hn := M.in_of_wf h2
  obtain ⟨K, hK⟩ : ∃ K, K = 3002 := ⟨_, rfl⟩
  refine ⟨K, ?_⟩
  unfold trivetlaw03_SplitEven.f
  rw [trivetlaw03_up.num K (by omega), Option.bind_some, even_num K a n ha hn (by omega), Option.bind_some]
  obtain ⟨J, hJ⟩ : ∃ J, K = J + 2 := ⟨K - 2, by omega⟩
  have bad : ∀ b : Bool, b = true → (Shr.may a (List.replicate n.toNat 1) → ¬ (1 ≤ n ∧ n ≤ 480)) → trivetlaw03_SplitEven.j0 K a n true (if 1 ≤ n ∧ n ≤ 480 then Shr.res a (List.replicate n.toNat 1) else ([], some 1)).1 (if 1 ≤ n ∧ n ≤ 480 then Shr.res a (List.replicate n.toNat 1) else ([], some 1)).2 b = some true := by
    intro b hb hm
    subst hb
    have e : (if 1 ≤ n ∧ n ≤ 480 then Shr.res a (List.replicate n.toNat 1) else ([], some 1)) = ([], some 1) := by
      by_cases c : 1 ≤ n ∧ n ≤ 480
      · rw [if_pos c]
        unfold Shr.res
        rw [if_neg (fun h => hm h c)]
      · rw [if_neg c]
    rw [e, hJ]
    simp [trivetlaw03_SplitEven.j0]
  by_cases c1 : a < 0
  · rw [if_pos c1]; exact bad true rfl (fun h => by have := h.1; omega)
  · rw [if_neg c1]
    by_cases c2 : a > 10000000000000
    · rw [if_pos c2]; exact bad true rfl (fun h => by have := h.2.1; omega)
    · rw [if_neg c2]
      by_cases c3 : n < 1
      · rw [if_pos c3]; exact bad true rfl (fun _ => by omega)
      · rw [if_neg c3]
        by_cases c4 : n > 480
        · exact bad _ (decide_eq_true c4) (fun _ => by omega)
        · rw [decide_eq_false c4, if_pos ⟨by omega, by omega⟩]
          obtain ⟨m, rfl⟩ := Int.eq_ofNat_of_zero_le (show 0 ≤ n by omega)
          rw [Int.toNat_natCast]
          have hm := even_may (a := a) (n := m) ⟨by omega, by omega⟩ ⟨by omega, by omega⟩
          have e : Shr.res a (List.replicate m 1) = (Shr.sh a (List.replicate m 1), none) := by unfold Shr.res; rw [if_pos hm]
          have hlen : (Shr.sh a (List.replicate m 1)).length = m := by
            have := Shr.res_len a (List.replicate m 1)
            rw [e, if_pos hm] at this
            simpa using this
          rw [e, hJ]
          simp only [trivetlaw03_SplitEven.j0]
          rw [if_neg (by decide), if_pos (by rfl)]
          have hb : (((Shr.sh a (List.replicate m 1)).length : Int) != (m : Int)) = false := by rw [hlen]; simp
          rw [hb]
          simp only [trivetlaw03_SplitEven.j1]
          rw [if_neg (by decide)]
          exact even_loop ⟨by omega, by omega⟩ ⟨by omega, by omega⟩ hlen m J 0 (by omega) (by omega)

end Go.Proofs.Ytcpmfdagnchlbaa.Pure
