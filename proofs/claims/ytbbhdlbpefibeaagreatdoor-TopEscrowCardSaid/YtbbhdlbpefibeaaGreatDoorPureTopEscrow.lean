/- The Go law TopEscrow answers true at all numbers: whatever twelve months come to, the payment, the start and the cushion are what the document tells, or they may not be. Conditions: none beyond the given statement's own. -/
import Derived.Test.YtbbhdlbpefibeaaGreatDoorPx6
namespace Go.Proofs.YtbbhdlbpefibeaaGreatDoor.Pure
open Go.RowKit Go.Proofs.YtbbhdlbpefibeaaGreatDoor.P Go.Proofs.YtbbhdlbpefibeaaGreatDoorW.PrintWords Go.Proofs.YtbbhdlbpefibeaaGreatDoorW.PrintLast
set_option linter.unusedVariables false
set_option linter.unusedSimpArgs false
/-- what there is behind i months, of a start s -/
def T (l : List Int) (P s : Int) (i : Nat) : Int := s + (i : Int) * P - (l.take i).sum
def BL (l : List Int) (P s : Int) (n : Nat) : List Int := (List.range n).map (fun j => T l P s (j + 1))
theorem T_zero (l : List Int) (P s : Int) : T l P s 0 = s := by simp [T]
theorem T_shift (l : List Int) (P s d : Int) (i : Nat) : T l P (s + d) i = T l P s i + d := by unfold T; omega
theorem take_succ_sum (l : List Int) (i : Nat) (h : i < l.length) : (l.take (i + 1)).sum = (l.take i).sum + rd l (i : Int) := by
  have e : rd l (i : Int) = l[i] := by simp [rd, List.getD_eq_getElem?_getD, List.getElem?_eq_getElem h]
  rw [List.take_succ_eq_append_getElem h, List.sum_append, e]
  simp
theorem T_succ (l : List Int) (P s : Int) (i : Nat) (h : i < l.length) : T l P s (i + 1) = T l P s i + (P - rd l (i : Int)) := by
  unfold T
  rw [take_succ_sum l i h, show ((i + 1 : Nat) : Int) = (i : Int) + 1 by omega, Int.add_mul, Int.one_mul]
  omega
theorem BL_len (l : List Int) (P s : Int) (n : Nat) : (BL l P s n).length = n := by simp [BL]
theorem BL_succ (l : List Int) (P s : Int) (n : Nat) : BL l P s (n + 1) = BL l P s n ++ [T l P s (n + 1)] := by simp [BL, List.range_succ]
theorem BL_get (l : List Int) (P s : Int) (n j : Nat) (h : j < n) : rd (BL l P s n) (j : Int) = T l P s (j + 1) := by
  simp [rd, BL, List.getD_eq_getElem?_getD, h]
def okL (l : List Int) : Prop := l.length = 12 ∧ ∀ x ∈ l, 0 ≤ x ∧ x ≤ 10000000000000
theorem rd_ok {l : List Int} (h : okL l) (i : Nat) (hi : i < 12) : 0 ≤ rd l (i : Int) ∧ rd l (i : Int) ≤ 10000000000000 := by
  have e : rd l (i : Int) = l[i]'(by have := h.1; omega) := by simp [rd, List.getD_eq_getElem?_getD, List.getElem?_eq_getElem (show i < l.length by have := h.1; omega)]
  rw [e]
  exact h.2 _ (List.getElem_mem _)
theorem sums_ok {l : List Int} (h : okL l) : ∀ i : Nat, i ≤ 12 → 0 ≤ (l.take i).sum ∧ (l.take i).sum ≤ 10000000000000 * (i : Int) := by
  intro i
  induction i with
  | zero => intro _; simp
  | succ n ih =>
    intro hn
    have := ih (by omega)
    have := rd_ok h n (by omega)
    rw [take_succ_sum l n (by have := h.1; omega)]
    omega
theorem T_bd {l : List Int} (h : okL l) {P s : Int} (hP : 0 ≤ P ∧ P ≤ 10000000000001) (hs : -1000000000000000 ≤ s ∧ s ≤ 1000000000000000) (i : Nat) (hi : i ≤ 12) : -1200000000000000 ≤ T l P s i ∧ T l P s i ≤ 1200000000000000 := by
  have h1 := sums_ok h i hi
  unfold T
  have h2 : 0 ≤ (i : Int) * P := Int.mul_nonneg (by omega) hP.1
  have h3 : (i : Int) * P ≤ 12 * 10000000000001 := Int.mul_le_mul (by omega) hP.2 hP.1 (by decide)
  omega
theorem bal_loop {l : List Int} (h : okL l) {P s : Int} (hP : 0 ≤ P ∧ P ≤ 10000000000001) (hs : -1000000000000000 ≤ s ∧ s ≤ 1000000000000000) (n : Nat) : ∀ (k i : Nat), i + n = 12 → n < k →
    analysis_balances.l0 k P (T l P s i) (BL l P s i) l 12 i = some (BL l P s 12) := by
  have hl := h.1
  induction n with
  | zero =>
    intro k i hi hk
    obtain ⟨j, rfl⟩ : ∃ j, k = j + 1 := ⟨k - 1, by omega⟩
    obtain rfl : i = 12 := by omega
    simp only [analysis_balances.l0]
    rw [if_neg (by omega)]
  | succ n ih =>
    intro k i hi hk
    obtain ⟨j, rfl⟩ : ∃ j, k = j + 1 := ⟨k - 1, by omega⟩
    have r := rd_ok h i (by omega)
    have b0 := T_bd h hP hs i (by omega)
    have ih' := ih j (i + 1) (by omega) (by omega)
    rw [BL_succ, T_succ l P s i (by omega)] at ih'
    simp only [analysis_balances.l0]
    rw [if_pos (by omega), if_pos (by omega), if_pos (by omega), if_pos (by rw [BL_len]; omega), M.w64_id (n := P - rd l (i : Int)) (by omega) (by omega), M.w64_id (n := T l P s i + (P - rd l (i : Int))) (by omega) (by omega), M.w64_id (n := (i : Int) + 1) (by omega) (by omega)]
    exact ih'
theorem bal_num {l : List Int} (h : okL l) {P s : Int} (hP : 0 ≤ P ∧ P ≤ 10000000000001) (hs : -1000000000000000 ≤ s ∧ s ≤ 1000000000000000) (k : Nat) (hk : 20 ≤ k) : analysis_balances.f k l P s = some (BL l P s 12) := by
  have := bal_loop h hP hs 12 k 0 (by omega) (by omega)
  rw [T_zero] at this
  unfold analysis_balances.f
  rw [h.1]
  exact this
theorem ref_in {l : List Int} (h : okL l) {P s : Int} (hP : 0 ≤ P ∧ P ≤ 10000000000001) (hs : -1000000000000000 ≤ s ∧ s ≤ 1000000000000000) (x : Nat) (hx : x < 12) (n : Nat) : ∀ (k i : Nat), i + n = x + 1 → n < k →
    trivetref15_Balances.l1 k l P s (BL l P s x) x (T l P s i) i = trivetref15_Balances.l0 (k - n - 1) l P s (BL l P s (x + 1)) ((x + 1 : Nat) : Int) := by
  have hl := h.1
  induction n with
  | zero =>
    intro k i hi hk
    obtain ⟨j, rfl⟩ : ∃ j, k = j + 1 := ⟨k - 1, by omega⟩
    obtain rfl : i = x + 1 := by omega
    simp only [trivetref15_Balances.l1]
    rw [if_neg (by omega), if_pos (by rw [BL_len]; omega), ← BL_succ, M.w64_id (n := (x : Int) + 1) (by omega) (by omega)]
    rfl
  | succ n ih =>
    intro k i hi hk
    obtain ⟨j, rfl⟩ : ∃ j, k = j + 1 := ⟨k - 1, by omega⟩
    have r := rd_ok h i (by omega)
    have b0 := T_bd h hP hs i (by omega)
    have ih' := ih j (i + 1) (by omega) (by omega)
    rw [T_succ l P s i (by omega)] at ih'
    simp only [trivetref15_Balances.l1]
    rw [if_pos (by omega), if_pos (by omega), if_pos (by omega), M.w64_id (n := T l P s i + P) (by omega) (by omega), M.w64_id (n := T l P s i + P - rd l (i : Int)) (by omega) (by omega), M.w64_id (n := (i : Int) + 1) (by omega) (by omega), show T l P s i + P - rd l (i : Int) = T l P s i + (P - rd l (i : Int)) by omega]
    refine ih'.trans ?_
    rw [show j + 1 - (n + 1) - 1 = j - n - 1 by omega]
theorem ref_loop {l : List Int} (h : okL l) {P s : Int} (hP : 0 ≤ P ∧ P ≤ 10000000000001) (hs : -1000000000000000 ≤ s ∧ s ≤ 1000000000000000) (n : Nat) : ∀ (k x : Nat), x + n = 12 → n * 20 < k →
    trivetref15_Balances.l0 k l P s (BL l P s x) x = some (BL l P s 12) := by
  induction n with
  | zero =>
    intro k x hx hk
    obtain ⟨j, rfl⟩ : ∃ j, k = j + 1 := ⟨k - 1, by omega⟩
    obtain rfl : x = 12 := by omega
    simp only [trivetref15_Balances.l0]
    rw [if_neg (by omega)]
  | succ n ih =>
    intro k x hx hk
    obtain ⟨j, rfl⟩ : ∃ j, k = j + 1 := ⟨k - 1, by omega⟩
    simp only [trivetref15_Balances.l0]
    rw [if_pos (by omega)]
    have := ref_in h hP hs x (by omega) (x + 1) j 0 (by omega) (by omega)
    rw [T_zero] at this
    exact this.trans (ih _ (x + 1) (by omega) (by omega))
theorem ref_num {l : List Int} (h : okL l) {P s : Int} (hP : 0 ≤ P ∧ P ≤ 10000000000001) (hs : -1000000000000000 ≤ s ∧ s ≤ 1000000000000000) (k : Nat) (hk : 300 ≤ k) : trivetref15_Balances.f k l P s = some (BL l P s 12) := ref_loop h hP hs 12 k 0 (by omega) (by omega)
/-- the least of twelve -/
def IsMin (F : List Int) (n : Nat) (m : Int) : Prop := (∃ j, j < n ∧ m = rd F (j : Int)) ∧ ∀ j : Nat, j < n → m ≤ rd F (j : Int)
theorem IsMin.uniq {F : List Int} {n : Nat} {a b : Int} (h : IsMin F n a) (g : IsMin F n b) : a = b := by
  obtain ⟨⟨i, hi, ei⟩, h2⟩ := h
  obtain ⟨⟨j, hj, ej⟩, g2⟩ := g
  have := h2 j hj
  have := g2 i hi
  omega
theorem IsMin.step {F : List Int} {n : Nat} {m : Int} (h : IsMin F n m) : IsMin F (n + 1) (mn m (rd F (n : Int))) := by
  obtain ⟨⟨i, hi, ei⟩, h2⟩ := h
  unfold mn
  by_cases c : rd F (n : Int) < m
  · rw [if_pos c]
    refine ⟨⟨n, by omega, rfl⟩, fun j hj => ?_⟩
    by_cases e : j = n
    · subst e; omega
    · have := h2 j (by omega); omega
  · rw [if_neg c]
    refine ⟨⟨i, by omega, ei⟩, fun j hj => ?_⟩
    by_cases e : j = n
    · subst e; omega
    · exact h2 j (by omega)
theorem min_loop {F : List Int} (hF : F.length = 12) (n : Nat) : ∀ (k i : Nat) (m : Int), i + n = 12 → n < k → IsMin F i m → ∃ r, slices_Min_int64_int64.l0 k F m i = some r ∧ IsMin F 12 r := by
  induction n with
  | zero =>
    intro k i m hi hk hm
    obtain ⟨j, rfl⟩ : ∃ j, k = j + 1 := ⟨k - 1, by omega⟩
    obtain rfl : i = 12 := by omega
    simp only [slices_Min_int64_int64.l0]
    rw [if_neg (by omega)]
    exact ⟨m, rfl, hm⟩
  | succ n ih =>
    intro k i m hi hk hm
    obtain ⟨j, rfl⟩ : ∃ j, k = j + 1 := ⟨k - 1, by omega⟩
    obtain ⟨r, h1, h2⟩ := ih j (i + 1) (mn m (rd F (i : Int))) (by omega) (by omega) hm.step
    simp only [slices_Min_int64_int64.l0]
    rw [if_pos (by omega), if_pos (by omega), M.w64_id (n := (i : Int) + 1) (by omega) (by omega)]
    exact ⟨r, h1, h2⟩
theorem min_num {F : List Int} (hF : F.length = 12) (k : Nat) (hk : 20 ≤ k) : ∃ r, slices_Min_int64_int64.f k F = some r ∧ IsMin F 12 r := by
  unfold slices_Min_int64_int64.f
  rw [if_neg (by omega), if_pos (by omega)]
  refine min_loop hF 11 k 1 _ (by omega) (by omega) ⟨⟨0, by omega, rfl⟩, fun j hj => ?_⟩
  obtain rfl : j = 0 := by omega
  exact Int.le_refl _
theorem index_loop {F : List Int} (hF : F.length = 12) (m : Int) (n : Nat) : ∀ (k i : Nat), i + n = 12 → n < k → ∃ r, slices_Index_int64_int64.l0 k F m 12 i = some r := by
  induction n with
  | zero =>
    intro k i hi hk
    obtain ⟨j, rfl⟩ : ∃ j, k = j + 1 := ⟨k - 1, by omega⟩
    simp only [slices_Index_int64_int64.l0]
    rw [if_neg (by omega)]
    exact ⟨_, rfl⟩
  | succ n ih =>
    intro k i hi hk
    obtain ⟨j, rfl⟩ : ∃ j, k = j + 1 := ⟨k - 1, by omega⟩
    obtain ⟨r, h1⟩ := ih j (i + 1) (by omega) (by omega)
    simp only [slices_Index_int64_int64.l0]
    rw [if_pos (by omega), if_pos (by omega), if_pos (by omega), M.w64_id (n := (i : Int) + 1) (by omega) (by omega)]
    by_cases c : m = rd F (i : Int)
    · rw [if_pos c]; exact ⟨_, rfl⟩
    · rw [if_neg c]; exact ⟨r, h1⟩
theorem index_num {F : List Int} (hF : F.length = 12) (m : Int) (k : Nat) (hk : 20 ≤ k) : ∃ r, slices_Index_int64_int64.f k F m = some r := by
  unfold slices_Index_int64_int64.f
  rw [hF]
  exact index_loop hF m 12 k 0 (by omega) (by omega)
theorem year_ok {l : List Int} (h : okL l) : 0 ≤ l.sum ∧ l.sum ≤ 120000000000000 := by
  have := sums_ok h 12 (by omega)
  rw [List.take_of_length_le (by have := h.1; omega)] at this
  omega
def Pay (l : List Int) : Int := (l.sum + 11) / 12
def Cus (l : List Int) (c : Int) : Int := mn c (l.sum / 6)
theorem pay_ok {l : List Int} (h : okL l) : 0 ≤ Pay l ∧ Pay l ≤ 10000000000001 := by have := year_ok h; unfold Pay; omega
theorem cus_ok {l : List Int} {c : Int} (h : okL l) (hc : 0 ≤ c ∧ c ≤ 10000000000000) : 0 ≤ Cus l c ∧ Cus l c ≤ 10000000000000 := by have := year_ok h; unfold Cus mn; split <;> omega
theorem sum_loop {l : List Int} (h : okL l) (c : Int) (n : Nat) : ∀ (k i : Nat), i + n = 12 → n < k →
    analysis_Analyze.l0 k l c l 12 i (l.take i).sum 0 0 0 0 = analysis_Analyze.l0 (k - n) l c l 12 12 l.sum 0 0 0 0 := by
  have hl := h.1
  induction n with
  | zero =>
    intro k i hi hk
    obtain rfl : i = 12 := by omega
    rw [List.take_of_length_le (by omega)]
    rfl
  | succ n ih =>
    intro k i hi hk
    obtain ⟨j, rfl⟩ : ∃ j, k = j + 1 := ⟨k - 1, by omega⟩
    have r := rd_ok h i (by omega)
    have b := sums_ok h i (by omega)
    have ih' := ih j (i + 1) (by omega) (by omega)
    rw [take_succ_sum l i (by omega)] at ih'
    rw [show j + 1 - (n + 1) = j - n by omega, ← ih']
    conv => lhs; unfold analysis_Analyze.l0
    rw [if_pos (by omega), if_pos (by omega), if_pos (by omega), M.w64_id (n := (l.take i).sum + rd l (i : Int)) (by omega) (by omega), M.w64_id (n := (i : Int) + 1) (by omega) (by omega)]
    rfl
theorem min_ok {l : List Int} (h : okL l) {m : Int} (hm : IsMin (BL l (Pay l) 0 12) 12 m) : -1200000000000000 ≤ m ∧ m ≤ 1200000000000000 := by
  obtain ⟨⟨j, hj, e⟩, _⟩ := hm
  rw [BL_get _ _ _ _ _ hj] at e
  have := T_bd h (pay_ok h) (s := 0) (by omega) (j + 1) (by omega)
  omega
theorem min_near {l : List Int} (h : okL l) {m : Int} (hm : IsMin (BL l (Pay l) 0 12) 12 m) : -200000000000000 ≤ m ∧ m ≤ 200000000000000 := by
  obtain ⟨⟨j, hj, e⟩, _⟩ := hm
  rw [BL_get _ _ _ _ _ hj] at e
  have h1 := sums_ok h (j + 1) (by omega)
  have hp := pay_ok h
  have h2 : 0 ≤ ((j + 1 : Nat) : Int) * Pay l := Int.mul_nonneg (by omega) hp.1
  have h3 : ((j + 1 : Nat) : Int) * Pay l ≤ 12 * 10000000000001 := Int.mul_le_mul (by omega) hp.2 hp.1 (by decide)
  unfold T at e
  omega
theorem analyze_num {l : List Int} (h : okL l) {c : Int} (hc : 0 ≤ c ∧ c ≤ 10000000000000) (k : Nat) (hk : 100 ≤ k) : ∃ m j q, IsMin (BL l (Pay l) 0 12) 12 m ∧ analysis_Analyze.f k l c = some (l.sum, Pay l, Cus l c, Cus l c - m, j, q, none) := by
  have hy := year_ok h
  have hp := pay_ok h
  have hcu := cus_ok h hc
  obtain ⟨k, rfl⟩ : ∃ j, k = j + 1 := ⟨k - 1, by omega⟩
  obtain ⟨kk, hkk⟩ : ∃ kk, k - 12 = kk + 1 := ⟨k - 13, by omega⟩
  obtain ⟨m, hm, hmin⟩ := min_num (BL_len l (Pay l) 0 12) kk (by omega)
  obtain ⟨j, hj⟩ := index_num (BL_len l (Pay l) 0 12) m kk (by omega)
  have hmb := min_near h hmin
  have e1 : wrap64 (Int.tdiv (wrap64 (l.sum + 11)) 12) = Pay l := by rw [M.w64_id (n := l.sum + 11) (by omega) (by omega), M.tdivu (by omega), M.w64_id (by omega) (by omega)]; rfl
  have e2 : mn c (wrap64 (Int.tdiv l.sum 6)) = Cus l c := by rw [M.tdivu (by omega), M.w64_id (by omega) (by omega)]; rfl
  refine ⟨m, j, BL l (Pay l) (Cus l c - m) 12, hmin, ?_⟩
  have hmay : analysis_months.may l := ⟨h.1, h.2⟩
  have hcents : analysis_cents.f c = some true := by unfold analysis_cents.f; rw [if_pos (by omega), decide_eq_true hc.2]
  unfold analysis_Analyze.f analysis_months.f
  rw [decide_eq_true hmay, Option.bind_some, if_pos rfl, hcents, Option.bind_some]
  simp only [analysis_Analyze.j0]
  rw [if_neg (by decide), h.1]
  have := sum_loop h c 12 k 0 (by omega) (by omega)
  refine Eq.trans this ?_
  rw [hkk]
  unfold analysis_Analyze.l0
  rw [if_neg (by omega), e1, e2, bal_num h hp (by omega) kk (by omega), Option.bind_some, hm, Option.bind_some, Option.bind_some, hj, Option.bind_some, M.w64_id (n := Cus l c - m) (by omega) (by omega), bal_num h hp (by omega) kk (by omega), Option.bind_some]
theorem ref_l1 {l : List Int} (h : okL l) {c : Int} (hc : 0 ≤ c ∧ c ≤ 10000000000000) (n : Nat) : ∀ (k i : Nat) (m' lo : Int), i + n = 12 → 1 ≤ i → n + 301 ≤ k → IsMin (BL l (Pay l) 0 12) i m' →
    ∃ m j q, IsMin (BL l (Pay l) 0 12) 12 m ∧ trivetref15_Analyze.l1 k l (BL l (Pay l) 0 12) i l.sum (Pay l) (Cus l c) (Cus l c - m') lo = some (l.sum, Pay l, Cus l c, Cus l c - m, j, q) := by
  have hp := pay_ok h
  have hcu := cus_ok h hc
  induction n with
  | zero =>
    intro k i m' lo hi h1 hk hm
    obtain ⟨j, rfl⟩ : ∃ j, k = j + 1 := ⟨k - 1, by omega⟩
    obtain rfl : i = 12 := by omega
    have hmb := min_near h hm
    refine ⟨m', lo, BL l (Pay l) (Cus l c - m') 12, hm, ?_⟩
    simp only [trivetref15_Analyze.l1]
    rw [if_neg (by omega), ref_num h hp (by omega) j (by omega), Option.bind_some]
  | succ n ih =>
    intro k i m' lo hi h1 hk hm
    obtain ⟨j, rfl⟩ : ∃ j, k = j + 1 := ⟨k - 1, by omega⟩
    have e := BL_get l (Pay l) 0 12 i (by omega)
    have b := T_bd h hp (s := 0) (by omega) (i + 1) (by omega)
    simp only [trivetref15_Analyze.l1]
    rw [if_pos (by omega), if_pos (by omega), if_pos (by rw [BL_len]; omega), if_neg (by omega), M.w64_id (n := Cus l c - rd (BL l (Pay l) 0 12) (i : Int)) (by omega) (by omega), M.w64_id (n := (i : Int) + 1) (by omega) (by omega)]
    have hst := hm.step
    unfold mn at hst
    by_cases g : rd (BL l (Pay l) 0 12) (i : Int) < m'
    · rw [if_pos (by omega)]
      rw [if_pos g] at hst
      exact ih j (i + 1) _ _ (by omega) (by omega) (by omega) hst
    · rw [if_neg (by omega)]
      rw [if_neg g] at hst
      exact ih j (i + 1) _ _ (by omega) (by omega) (by omega) hst
theorem ref_sum {l : List Int} (h : okL l) (c : Int) (n : Nat) : ∀ (k i : Nat), i + n = 12 → n < k →
    trivetref15_Analyze.l0 k l c i (l.take i).sum 0 0 0 0 = trivetref15_Analyze.l0 (k - n) l c 12 l.sum 0 0 0 0 := by
  have hl := h.1
  induction n with
  | zero =>
    intro k i hi hk
    obtain rfl : i = 12 := by omega
    rw [List.take_of_length_le (by omega)]
    rfl
  | succ n ih =>
    intro k i hi hk
    obtain ⟨j, rfl⟩ : ∃ j, k = j + 1 := ⟨k - 1, by omega⟩
    have r := rd_ok h i (by omega)
    have b := sums_ok h i (by omega)
    have ih' := ih j (i + 1) (by omega) (by omega)
    rw [take_succ_sum l i (by omega)] at ih'
    rw [show j + 1 - (n + 1) = j - n by omega, ← ih']
    conv => lhs; unfold trivetref15_Analyze.l0
    rw [if_pos (by omega), if_pos (by omega), if_pos (by omega), M.w64_id (n := (l.take i).sum + rd l (i : Int)) (by omega) (by omega), M.w64_id (n := (i : Int) + 1) (by omega) (by omega)]
    rfl
theorem ref_analyze {l : List Int} (h : okL l) {c : Int} (hc : 0 ≤ c ∧ c ≤ 10000000000000) (k : Nat) (hk : 400 ≤ k) : ∃ m j q, IsMin (BL l (Pay l) 0 12) 12 m ∧ trivetref15_Analyze.f k l c = some (l.sum, Pay l, Cus l c, Cus l c - m, j, q) := by
  have hy := year_ok h
  have hp := pay_ok h
  have hcu := cus_ok h hc
  obtain ⟨kk, hkk⟩ : ∃ kk, k - 12 = (((kk + 1) + 1) + 1) + 1 := ⟨k - 16, by omega⟩
  have e : rd (BL l (Pay l) 0 12) 0 = T l (Pay l) 0 1 := BL_get l (Pay l) 0 12 0 (by omega)
  have b := T_bd h hp (s := 0) (by omega) 1 (by omega)
  have hm0 : IsMin (BL l (Pay l) 0 12) 1 (rd (BL l (Pay l) 0 12) ((0 : Nat) : Int)) := ⟨⟨0, by omega, rfl⟩, fun j hj => by
    obtain rfl : j = 0 := by omega
    exact Int.le_refl _⟩
  obtain ⟨m, j, q, h1, h2⟩ := ref_l1 h hc 11 kk 1 _ 0 (by omega) (by omega) (by omega) hm0
  refine ⟨m, j, q, h1, ?_⟩
  have := ref_sum h c 12 k 0 (by omega) (by omega)
  unfold trivetref15_Analyze.f
  refine Eq.trans this ?_
  rw [hkk]
  unfold trivetref15_Analyze.l0
  rw [if_neg (by omega)]
  have last : trivetref15_Analyze.j1 (((kk + 1) + 1) + 1) l c l.sum (Pay l) 0 0 0 = some (l.sum, Pay l, Cus l c, Cus l c - m, j, q) := by
    have hj2 : trivetref15_Analyze.j2 ((kk + 1) + 1) l l.sum (Pay l) (Cus l c) 0 0 = some (l.sum, Pay l, Cus l c, Cus l c - m, j, q) := by
      simp only [trivetref15_Analyze.j2]
      rw [ref_num h hp (by omega) (kk + 1) (by omega), Option.bind_some]
      conv => lhs; unfold trivetref15_Analyze.l1
      rw [if_pos (by decide), if_pos (by decide), if_pos (by rw [BL_len]; decide), if_pos rfl, show wrap64 (0 + 1) = ((1 : Nat) : Int) by rw [M.w64_id (by omega) (by omega)]; rfl, M.w64_id (n := Cus l c - rd (BL l (Pay l) 0 12) 0) (by omega) (by omega)]
      exact h2
    simp only [trivetref15_Analyze.j1]
    rw [M.tdivu (by omega), M.w64_id (n := l.sum / 6) (by omega) (by omega)]
    by_cases g : c < l.sum / 6
    · have e1 : Cus l c = c := by unfold Cus mn; split <;> omega
      rw [if_pos g]
      rw [e1] at hj2 ⊢
      exact hj2
    · have e1 : Cus l c = l.sum / 6 := by unfold Cus mn; split <;> omega
      rw [if_neg g]
      rw [e1] at hj2 ⊢
      exact hj2
  rw [Int.tmod_eq_emod_of_nonneg (by omega), M.tdivu (by omega), M.w64_id (n := l.sum / 12) (by omega) (by omega), M.w64_id (n := l.sum / 12 + 1) (by omega) (by omega)]
  by_cases g : l.sum % 12 > 0
  · rw [if_pos g, show l.sum / 12 + 1 = Pay l by unfold Pay; omega]; exact last
  · rw [if_neg g, show l.sum / 12 = Pay l by unfold Pay; omega]; exact last
theorem may_loop {l : List Int} (hl : l.length = 12) (n : Nat) : ∀ (k i : Nat), i + n = 12 → n < k → ∃ b, trivetref15_May.l0 k l i = some b ∧ (b = true ↔ ∀ j : Nat, i ≤ j → j < 12 → 0 ≤ rd l (j : Int) ∧ rd l (j : Int) ≤ 10000000000000) := by
  induction n with
  | zero =>
    intro k i hi hk
    obtain ⟨j, rfl⟩ : ∃ j, k = j + 1 := ⟨k - 1, by omega⟩
    simp only [trivetref15_May.l0]
    rw [if_neg (by omega)]
    exact ⟨true, rfl, fun _ j h1 h2 => by omega, fun _ => rfl⟩
  | succ n ih =>
    intro k i hi hk
    obtain ⟨j, rfl⟩ : ∃ j, k = j + 1 := ⟨k - 1, by omega⟩
    obtain ⟨b, hb, hb2⟩ := ih j (i + 1) (by omega) (by omega)
    simp only [trivetref15_May.l0]
    rw [if_pos (by omega), if_pos (by omega), if_pos (by omega), M.w64_id (n := (i : Int) + 1) (by omega) (by omega)]
    by_cases h1 : rd l (i : Int) < 0
    · rw [if_pos h1]
      refine ⟨false, rfl, fun h => (by cases h), fun h => ?_⟩
      have := h i (Nat.le_refl _) (by omega)
      omega
    rw [if_neg h1]
    by_cases h2 : rd l (i : Int) > 10000000000000
    · rw [if_pos h2]
      refine ⟨false, rfl, fun h => (by cases h), fun h => ?_⟩
      have := h i (Nat.le_refl _) (by omega)
      omega
    rw [if_neg h2]
    refine ⟨b, hb, fun h x h3 h4 => ?_, fun h => hb2.mpr (fun x h3 h4 => h x (by omega) h4)⟩
    by_cases e : x = i
    · subst e; omega
    · exact hb2.mp h x (by omega) h4
theorem all_iff {l : List Int} (hl : l.length = 12) : (∀ j : Nat, 0 ≤ j → j < 12 → 0 ≤ rd l (j : Int) ∧ rd l (j : Int) ≤ 10000000000000) ↔ okL l := by
  constructor
  · intro h
    refine ⟨hl, fun x hx => ?_⟩
    obtain ⟨j, hj, rfl⟩ := List.getElem_of_mem hx
    have := h j (Nat.zero_le _) (by omega)
    simpa [rd, List.getD_eq_getElem?_getD, List.getElem?_eq_getElem hj] using this
  · intro h j _ hj
    exact rd_ok h j hj
instance (l : List Int) : Decidable (okL l) := inferInstanceAs (Decidable (_ ∧ _))
theorem may_num (l : List Int) (k : Nat) (hk : 20 ≤ k) : trivetref15_May.f k l = some (decide (okL l)) := by
  unfold trivetref15_May.f
  by_cases hl : l.length = 12
  · rw [if_pos (by omega)]
    obtain ⟨b, hb, hb2⟩ := may_loop hl 12 k 0 (by omega) (by omega)
    refine Eq.trans hb (congrArg some ?_)
    by_cases g : okL l
    · rw [decide_eq_true g]; exact hb2.mpr ((all_iff hl).mpr g)
    · rw [decide_eq_false g]
      cases b with
      | true => exact absurd ((all_iff hl).mp (hb2.mp rfl)) g
      | false => rfl
  · rw [if_neg (by omega), decide_eq_false (fun h : okL l => hl h.1)]
theorem law_loop {l : List Int} (h : okL l) {c : Int} (hc : 0 ≤ c ∧ c ≤ 10000000000000) {m : Int} (hm : IsMin (BL l (Pay l) 0 12) 12 m) (lo : Int) (q : List Int) (n : Nat) : ∀ (k i : Nat) (b : Bool), i + n = 12 → n + 401 ≤ k → (b = true ∨ ∃ j : Nat, i ≤ j ∧ j < 12 ∧ T l (Pay l) 0 (j + 1) = m) →
    trivettop_TopEscrow.l0 k l c true (BL l (Pay l) (Cus l c - m) 12) (BL l (Pay l) (Cus l c - m - 1) 12) b i l.sum (Pay l) (Cus l c) (Cus l c - m) lo q = some true := by
  induction n with
  | zero =>
    intro k i b hi hk hb
    obtain ⟨j, rfl⟩ : ∃ j, k = j + 1 := ⟨k - 1, by omega⟩
    obtain rfl : i = 12 := by omega
    obtain rfl : b = true := by
      rcases hb with hb | ⟨j, h1, h2, _⟩
      · exact hb
      · omega
    obtain ⟨m2, j2, q2, hm2, e2⟩ := ref_analyze h hc j (by omega)
    obtain rfl := hm.uniq hm2
    simp only [trivettop_TopEscrow.l0]
    rw [if_neg (by omega), e2, Option.bind_some, if_pos trivial, if_pos trivial, if_pos rfl, if_pos rfl]
    simp
  | succ n ih =>
    intro k i b hi hk hb
    obtain ⟨j, rfl⟩ : ∃ j, k = j + 1 := ⟨k - 1, by omega⟩
    have e0 := BL_get l (Pay l) 0 12 i (by omega)
    have e1 := BL_get l (Pay l) (Cus l c - m) 12 i (by omega)
    have e2 := BL_get l (Pay l) (Cus l c - m - 1) 12 i (by omega)
    have t1 := T_shift l (Pay l) 0 (Cus l c - m) (i + 1)
    have t2 := T_shift l (Pay l) 0 (Cus l c - m - 1) (i + 1)
    rw [Int.zero_add] at t1 t2
    have hge := hm.2 i (by omega)
    rw [e0] at hge
    simp only [trivettop_TopEscrow.l0]
    rw [if_pos (by omega), if_pos (by omega), if_pos (by rw [BL_len]; omega), if_neg (by rw [e1, t1]; omega), M.w64_id (n := (i : Int) + 1) (by omega) (by omega)]
    cases b with
    | true => rw [if_pos rfl]; exact ih j (i + 1) true (by omega) (by omega) (.inl rfl)
    | false =>
      rw [if_neg (by decide), if_pos (by rw [BL_len]; omega)]
      refine ih j (i + 1) _ (by omega) (by omega) ?_
      rcases hb with hb | ⟨x, h1, h2, h3⟩
      · cases hb
      · by_cases g : x = i
        · subst g
          left
          exact decide_eq_true (by rw [e2, t2]; omega)
        · right
          exact ⟨x, by omega, h2, h3⟩
theorem TopEscrow : trivettop_TopEscrow.Pure := by
  intro l c h1 h2 h3 h4
  have hcin := M.in_of_wf h4
  unfold M.In at hcin
  refine ⟨1001, ?_⟩
  unfold trivettop_TopEscrow.f trivettop_up.f
  rw [Option.bind_some, may_num l 1001 (by omega)]
  by_cases g : okL l ∧ 0 ≤ c ∧ c ≤ 10000000000000
  · obtain ⟨h, hc⟩ := g
    obtain ⟨m, j, q, hm, e⟩ := analyze_num h hc 1001 (by omega)
    have hmb := min_near h hm
    have hcu := cus_ok h hc
    rw [e, Option.bind_some, decide_eq_true h, Option.bind_some, if_pos rfl, if_neg (by omega), decide_eq_false (by omega)]
    simp only [trivettop_TopEscrow.j0]
    rw [if_neg (by decide), if_pos (by rfl), ref_num h (pay_ok h) (by omega) 1000 (by omega), Option.bind_some, M.w64_id (n := Cus l c - m - 1) (by omega) (by omega), ref_num h (pay_ok h) (by omega) 1000 (by omega), Option.bind_some]
    obtain ⟨x, hx, ex⟩ := hm.1
    rw [BL_get _ _ _ _ _ hx] at ex
    exact law_loop h hc hm j q 12 1000 0 false (by omega) (by omega) (.inr ⟨x, Nat.zero_le _, hx, ex.symm⟩)
  · have e : analysis_Analyze.f 1001 l c = some (0, 0, 0, 0, 0, [], some 1) := by
      unfold analysis_Analyze.f analysis_months.f
      rw [Option.bind_some]
      by_cases hm : analysis_months.may l
      · rw [decide_eq_true hm, if_pos rfl]
        have hn : ¬ (0 ≤ c ∧ c ≤ 10000000000000) := fun hc => g ⟨⟨hm.1, hm.2⟩, hc⟩
        have hcents : analysis_cents.f c = some false := by
          unfold analysis_cents.f
          by_cases h0 : c ≥ 0
          · rw [if_pos h0, decide_eq_false (by omega)]
          · rw [if_neg h0]
        rw [hcents, Option.bind_some]
        rfl
      · rw [decide_eq_false hm, if_neg (by decide)]
        rfl
    rw [e, Option.bind_some, Option.bind_some]
    have hj : trivettop_TopEscrow.j0 1001 l c true (some 1) true 0 0 0 0 0 [] = some true := by
      simp only [trivettop_TopEscrow.j0]
      rfl
    by_cases h : okL l
    · rw [decide_eq_true h, if_pos rfl]
      by_cases h0 : c < 0
      · rw [if_pos h0]; exact hj
      · rw [if_neg h0, decide_eq_true (show c > 10000000000000 by have : ¬ (0 ≤ c ∧ c ≤ 10000000000000) := fun hc => g ⟨h, hc⟩; omega)]; exact hj
    · rw [decide_eq_false h, if_neg (by decide)]; exact hj

end Go.Proofs.YtbbhdlbpefibeaaGreatDoor.Pure
