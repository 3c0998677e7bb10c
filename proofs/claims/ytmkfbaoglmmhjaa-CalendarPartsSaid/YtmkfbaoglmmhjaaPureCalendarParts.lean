/- The Go law CalendarParts answers true at all items and days: what is paid in a time is what is paid in its two parts. Conditions: none beyond the given statement's own. -/
import Derived.Test.YtmkfbaoglmmhjaaPx14
import Derived.Test.YtmkfbaoglmmhjaaCal
namespace Go.Proofs.Ytmkfbaoglmmhjaa.Pure
open Go.RowKit Go.Proofs.Ytmkfbaoglmmhjaa.P Go.Proofs.YtmkfbaoglmmhjaaW.PrintWords Go.Proofs.YtmkfbaoglmmhjaaW.PrintLast
set_option linter.unusedVariables false
set_option linter.unusedSimpArgs false
theorem parts_left (u v : List S45) (i : Nat) (h : i < u.length) : rd_T45 (u ++ v) (i : Int) = rd_T45 u (i : Int) := by
  unfold rd_T45
  rw [Int.toNat_natCast, List.getD_eq_getElem?_getD, List.getElem?_append_left h, List.getD_eq_getElem?_getD]
theorem parts_right (u v : List S45) (i : Nat) (h : u.length ≤ i) : rd_T45 (u ++ v) (i : Int) = rd_T45 v ((i - u.length : Nat) : Int) := by
  unfold rd_T45
  rw [Int.toNat_natCast, Int.toNat_natCast, List.getD_eq_getElem?_getD, List.getElem?_append_right h, List.getD_eq_getElem?_getD]
theorem parts_loop (n : Nat) : ∀ (k i : Nat) (u v : List S45), u.length + v.length = i + n → u.length + v.length ≤ 100000 → n < k → trivetlaw14_CalendarParts.l0 k true (u ++ v) u v (i : Int) = some true := by
  induction n with
  | zero =>
    intro k i u v hl hm hk
    obtain ⟨j, rfl⟩ : ∃ j, k = j + 1 := ⟨k - 1, by omega⟩
    rw [trivetlaw14_CalendarParts.l0, if_neg (by rw [List.length_append]; omega)]
  | succ n ih =>
    intro k i u v hl hm hk
    obtain ⟨j, rfl⟩ : ∃ j, k = j + 1 := ⟨k - 1, by omega⟩
    have ih' := ih j (i + 1) u v (by omega) hm (by omega)
    rw [trivetlaw14_CalendarParts.l0, if_pos (by rw [List.length_append]; omega), M.w64_id (n := (i : Int) + 1) (by omega) (by omega)]
    by_cases c : i < u.length
    · rw [parts_left u v i c, if_pos (by omega), if_pos (by omega), if_neg (by simp), if_neg (by omega)]
      exact ih'
    · have e : (i : Int) - (u.length : Int) = ((i - u.length : Nat) : Int) := by omega
      rw [parts_right u v i (by omega), if_neg (by omega), if_pos (show (i : Int) ≥ (u.length : Int) by omega), if_pos (by omega), M.w64_id (n := (i : Int) - (u.length : Int)) (by omega) (by omega), e, if_pos (by omega), if_pos (by omega), if_neg (by simp)]
      exact ih'
theorem CalendarParts : trivetlaw14_CalendarParts.Pure := by
  intro l a b c _ _ _ ha hb hc
  have ha := M.in_of_wf ha
  have hb := M.in_of_wf hb
  have hc := M.in_of_wf hc
  obtain ⟨K, hK⟩ : ∃ K, K = 50000 := ⟨_, rfl⟩
  refine ⟨K + 2, ?_⟩
  unfold trivetlaw14_CalendarParts.f
  rw [trivetlaw14_up.num (K + 2) (by omega), Option.bind_some]
  have out : trivetlaw14_CalendarParts.j0 (K + 2) l a b c true true = some true := by rw [trivetlaw14_CalendarParts.j0, if_pos rfl]
  by_cases c1 : (l.length : Int) > 50
  · rw [if_pos c1]; exact out
  rw [if_neg c1]
  by_cases c2 : a > b
  · rw [if_pos c2]; exact out
  rw [if_neg c2]
  by_cases c3 : b > c
  · rw [if_pos c3]; exact out
  rw [if_neg c3]
  by_cases c4 : wrap64 (c - a) > 4000
  · rw [if_pos c4]; exact out
  rw [if_neg c4]
  by_cases c5 : a < -100000
  · rw [if_pos c5]; exact out
  rw [if_neg c5]
  by_cases c6 : c > 200000
  · rw [decide_eq_true c6]; exact out
  rw [decide_eq_false c6, trivetlaw14_CalendarParts.j0, if_neg (by decide), calendar_Outs.num (K + 1) l a c ha hc (by omega), Option.bind_some, calendar_Outs.num (K + 1) l a b ha hb (by omega), Option.bind_some, calendar_Outs.num (K + 1) l b c hb hc (by omega), Option.bind_some]
  by_cases h : Cal.askO l a c
  · have h1 : Cal.askO l a b := ⟨h.1, h.2.1, by have := h.2.1; omega, by have := h.2.2; omega⟩
    have h2 : Cal.askO l b c := ⟨h.1, h1.2.2, h.2.2⟩
    have n1 := Cal.outs_len h1
    have n2 := Cal.outs_len h2
    rw [if_pos h, if_pos h1, if_pos h2, if_pos (by rfl), if_pos (by rfl), if_pos (by rfl), trivetlaw14_CalendarParts.j1, if_neg (by decide), Cal.parts h1 h2 (by omega) (by omega)]
    rw [M.w64_id (n := ((Cal.outs l a b).length : Int) + ((Cal.outs l b c).length : Int)) (by omega) (by omega), if_pos (by rw [List.length_append]; omega)]
    exact parts_loop _ K 0 _ _ (by rw [Nat.zero_add]) (by omega) (by omega)
  · rw [if_neg h, if_neg (by decide), trivetlaw14_CalendarParts.j1, if_pos rfl, if_pos rfl, if_neg (by decide)]

end Go.Proofs.Ytmkfbaoglmmhjaa.Pure
