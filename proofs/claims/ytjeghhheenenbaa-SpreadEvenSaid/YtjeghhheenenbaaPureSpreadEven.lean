/- The Go law SpreadEven answers true at all analyses: in no month more than two cents more is paid than in another one, where no deficiency is spread over two months. Conditions: none beyond the given statement's own. -/
import Derived.Test.YtjeghhheenenbaaPx11
namespace Go.Proofs.Ytjeghhheenenbaa.Pure
open Go.RowKit Go.Proofs.Ytjeghhheenenbaa.P Go.Proofs.YtjeghhheenenbaaW.PrintWords Go.Proofs.YtjeghhheenenbaaW.PrintLast
set_option linter.unusedVariables false
set_option linter.unusedSimpArgs false
theorem even_inner (q : Nat) : ∀ (N K i kk : Nat) (su sho de re : Int) (g : Nat → Int), 12 = kk + q → i < 12 → N + q < K → (∀ j, -100000000000000 ≤ g j ∧ g j ≤ 100000000000000) → (∀ a b, a < 12 → b < 12 → g a - g b ≤ 2) →
    (∀ K', N ≤ K' → trivetlaw16_SpreadEven.l0 K' true ((i + 1 : Nat) : Int) su sho de re (Spr.mk g) = some true) →
    trivetlaw16_SpreadEven.l1 K true (i : Int) (kk : Int) su sho de re (Spr.mk g) = some true := by
  induction q with
  | zero =>
    intro N K i kk su sho de re g hi hi2 hk hg hd hn
    obtain ⟨j, rfl⟩ : ∃ j, K = j + 1 := ⟨K - 1, by omega⟩
    simp only [trivetlaw16_SpreadEven.l1]
    rw [if_neg (by rw [Spr.len]; omega), M.w64_id (n := (i : Int) + 1) (by omega) (by omega), show (i : Int) + 1 = ((i + 1 : Nat) : Int) by omega]
    exact hn j (by omega)
  | succ q ih =>
    intro N K i kk su sho de re g hi hi2 hk hg hd hn
    obtain ⟨j, rfl⟩ : ∃ j, K = j + 1 := ⟨K - 1, by omega⟩
    have g1 := hg i
    have g2 := hg kk
    have h2 := hd i kk hi2 (by omega)
    simp only [trivetlaw16_SpreadEven.l1]
    rw [if_pos (by rw [Spr.len]; omega), if_pos (by omega), if_pos (by rw [Spr.len]; omega), if_pos (by omega), Spr.at_ g i hi2, Spr.at_ g kk (by omega), M.w64_id (n := g i - g kk) (by omega) (by omega), if_neg (by omega), M.w64_id (n := (kk : Int) + 1) (by omega) (by omega), show (kk : Int) + 1 = ((kk + 1 : Nat) : Int) by omega]
    exact ih N j i (kk + 1) su sho de re g (by omega) hi2 (by omega) hg hd hn
theorem even_outer (p : Nat) : ∀ (K i : Nat) (su sho de re : Int) (g : Nat → Int), 12 = i + p → 20 * p < K → (∀ j, -100000000000000 ≤ g j ∧ g j ≤ 100000000000000) → (∀ a b, a < 12 → b < 12 → g a - g b ≤ 2) →
    trivetlaw16_SpreadEven.l0 K true (i : Int) su sho de re (Spr.mk g) = some true := by
  induction p with
  | zero =>
    intro K i su sho de re g hi hk hg hd
    obtain ⟨j, rfl⟩ : ∃ j, K = j + 1 := ⟨K - 1, by omega⟩
    simp only [trivetlaw16_SpreadEven.l0]
    rw [if_neg (by rw [Spr.len]; omega)]
  | succ p ih =>
    intro K i su sho de re g hi hk hg hd
    obtain ⟨j, rfl⟩ : ∃ j, K = j + 1 := ⟨K - 1, by omega⟩
    simp only [trivetlaw16_SpreadEven.l0]
    rw [if_pos (by rw [Spr.len]; omega)]
    exact even_inner 12 (20 * p + 1) j i 0 su sho de re g (by omega) (by omega) (by omega) hg hd (fun K' hK' => ih K' (i + 1) su sho de re g (by omega) (by omega) hg hd)
theorem ev_near (a : Int) (i j : Nat) (hi : i < 12) (hj : j < 12) : Spr.ev a 12 i - Spr.ev a 12 j ≤ 1 ∧ -1 ≤ Spr.ev a 12 i - Spr.ev a 12 j := by
  unfold Spr.ev
  rw [if_pos (show (i : Int) < 12 by omega), if_pos (show (j : Int) < 12 by omega)]
  split <;> split <;> omega
theorem mo_near (p s t : Int) (cur : Bool) (h : ¬ (Spr.de s t > 0 ∧ Spr.de s t < p)) (i j : Nat) (hi : i < 12) (hj : j < 12) : Spr.mo p s t cur i - Spr.mo p s t cur j ≤ 2 := by
  have nn := Spr.nn s t
  have ri := Spr.re_in s t cur
  have n1 := ev_near (Spr.su s t - Spr.re s t cur) i j hi hj
  have n2 := ev_near (Spr.sho s t) i j hi hj
  have n3 := ev_near (Spr.de s t) i j hi hj
  have hb : 0 < Spr.su s t → Spr.sho s t = 0 ∧ Spr.de s t = 0 := by
    unfold Spr.sho Spr.de Spr.su
    repeat' split
    all_goals omega
  have e3 : ∀ k, k < 12 → Spr.ev (Spr.de s t) (if Spr.de s t < p then 2 else 12) k = Spr.ev (Spr.de s t) 12 k := by
    intro k hk
    by_cases c : Spr.de s t < p
    · rw [show Spr.de s t = 0 by omega, Spr.ev_zero, Spr.ev_zero]
    · rw [if_neg c]
  unfold Spr.mo
  rw [e3 i hi, e3 j hj]
  by_cases c : 0 < Spr.su s t
  · obtain ⟨z1, z2⟩ := hb c
    rw [z1, z2, Spr.ev_zero, Spr.ev_zero]
    omega
  · rw [show Spr.su s t - Spr.re s t cur = 0 by omega, Spr.ev_zero, Spr.ev_zero]
    omega
theorem SpreadEven : trivetlaw16_SpreadEven.Pure := by
  intro y p c s lo bal t cur _ _ _ _ _ _ _ _ _
  obtain ⟨K, hK⟩ : ∃ K, K = 2100 := ⟨_, rfl⟩
  refine ⟨K, ?_⟩
  have skip : ∀ (su sho de re : Int) (l : List Int), trivetlaw16_SpreadEven.j0 K true true su sho de re l = some true := by
    intro su sho de re l
    obtain ⟨j, rfl⟩ : ∃ j, K = j + 1 := ⟨K - 1, by omega⟩
    simp [trivetlaw16_SpreadEven.j0]
  unfold trivetlaw16_SpreadEven.f
  rw [trivetlaw16_up.num K (by omega), Option.bind_some, spread_Of.num K y p c s lo bal t cur (by omega), Option.bind_some]
  by_cases h : Spr.may p s t
  · simp only [if_pos h]
    rw [if_pos (by rfl)]
    have go : ¬ (Spr.de s t > 0 ∧ Spr.de s t < p) → trivetlaw16_SpreadEven.j0 K true false (Spr.su s t) (Spr.sho s t) (Spr.de s t) (Spr.re s t cur) (Spr.mk (Spr.mo p s t cur)) = some true := by
      intro hn
      obtain ⟨j, rfl⟩ : ∃ j, K = j + 1 := ⟨K - 1, by omega⟩
      simp only [trivetlaw16_SpreadEven.j0]
      rw [if_neg (by decide)]
      exact even_outer 12 j 0 _ _ _ _ _ (by omega) (by omega) (Spr.mo_in cur h) (fun a b ha hb => mo_near p s t cur hn a b ha hb)
    by_cases c1 : Spr.de s t > 0
    · rw [if_pos c1]
      by_cases c2 : Spr.de s t < p
      · rw [decide_eq_true c2]; exact skip _ _ _ _ _
      · rw [decide_eq_false c2]; exact go (fun h => c2 h.2)
    · rw [if_neg c1]; exact go (fun h => c1 h.1)
  · simp only [if_neg h]
    rw [if_neg (by decide)]
    exact skip _ _ _ _ _

end Go.Proofs.Ytjeghhheenenbaa.Pure
