/- The Go law SpreadStays answers true at all analyses: what is handed in stays as it is; what was told stays, whatever becomes of it. Conditions: none beyond the given statement's own. -/
import Derived.Test.YtjeghhheenenbaaPx12
namespace Go.Proofs.Ytjeghhheenenbaa.Pure
open Go.RowKit Go.Proofs.Ytjeghhheenenbaa.P Go.Proofs.YtjeghhheenenbaaW.PrintWords Go.Proofs.YtjeghhheenenbaaW.PrintLast
set_option linter.unusedVariables false
set_option linter.unusedSimpArgs false
theorem stays_loop (p : Nat) : ∀ (K i : Nat) (t y pp c s lo su sho de re : Int) (cur : Bool) (bal x : List Int), x.length = i + p → x.length ≤ 12 → bal.length ≤ 1000000000000000 → bal.length + 3000 + p < K →
    trivetlaw16_SpreadStays.l0 K t cur true bal (if Spr.may pp s t then none else some 1) (if Spr.may pp s t then Spr.mk (Spr.mo pp s t cur) else []) (i : Int) y pp c s lo bal su sho de re x = some true := by
  induction p with
  | zero =>
    intro K i t y pp c s lo su sho de re cur bal x hx hx2 hb hk
    obtain ⟨j, rfl⟩ : ∃ j, K = j + 1 := ⟨K - 1, by omega⟩
    simp only [trivetlaw16_SpreadStays.l0]
    rw [if_neg (by omega), spread_Of.num j y pp c s lo bal t cur (by omega), Option.bind_some, if_pos trivial, trivetlaw14_Same.any j bal hb (by omega), Option.bind_some, if_pos (by rfl)]
    by_cases h : Spr.may pp s t
    · simp only [if_pos h]
      rw [if_pos (by rfl), if_pos (by rfl), trivetlaw14_Same.num j _ (by rw [Spr.len]; omega) (by omega), Option.bind_some]
    · simp only [if_neg h]
      rw [if_neg (by decide), if_neg (by decide), trivetlaw14_Same.num j _ (by simp) (by omega), Option.bind_some]
  | succ p ih =>
    intro K i t y pp c s lo su sho de re cur bal x hx hx2 hb hk
    obtain ⟨j, rfl⟩ : ∃ j, K = j + 1 := ⟨K - 1, by omega⟩
    simp only [trivetlaw16_SpreadStays.l0]
    rw [if_pos (by omega), if_pos (by omega), M.w64_id (n := (i : Int) + 1) (by omega) (by omega), show (i : Int) + 1 = ((i + 1 : Nat) : Int) by omega]
    exact ih j (i + 1) t y pp c s lo su sho de re cur bal _ (by rw [List.length_set]; omega) (by rw [List.length_set]; omega) hb (by omega)
theorem SpreadStays : trivetlaw16_SpreadStays.Pure := by
  intro y p c s lo bal t cur _ _ _ _ _ _ hb _ _
  obtain ⟨K, hK⟩ : ∃ K, K = bal.length + 4000 := ⟨_, rfl⟩
  refine ⟨K, ?_⟩
  unfold trivetlaw16_SpreadStays.f
  rw [trivetlaw16_up.num K (by omega), Option.bind_some, Option.bind_some, if_pos (by simp; omega), spread_Of.num K y p c s lo bal t cur (by omega), Option.bind_some, Option.bind_some]
  by_cases h : Spr.may p s t
  · have := stays_loop 12 K 0 t y p c s lo (Spr.su s t) (Spr.sho s t) (Spr.de s t) (Spr.re s t cur) cur bal (Spr.mk (Spr.mo p s t cur)) (by rw [Spr.len]) (by rw [Spr.len]; omega) (by omega) (by omega)
    simp only [if_pos h] at this ⊢
    rw [if_pos (by rw [Spr.len]; simp), List.nil_append, List.nil_append]
    exact this
  · have := stays_loop 0 K 0 t y p c s lo 0 0 0 0 cur bal [] (by simp) (by simp) (by omega) (by omega)
    simp only [if_neg h] at this ⊢
    rw [if_pos (by simp), List.nil_append, List.nil_append]
    exact this

end Go.Proofs.Ytjeghhheenenbaa.Pure
