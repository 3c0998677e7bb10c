/- The Go law CalendarStays answers true at all items and days: items that are handed in stay as they are; what was told stays, whatever becomes of it. Conditions: none beyond the given statement's own. -/
import Derived.Test.YtmkfbaoglmmhjaaPx13
import Derived.Test.YtmkfbaoglmmhjaaCal
namespace Go.Proofs.Ytmkfbaoglmmhjaa.Pure
open Go.RowKit Go.Proofs.Ytmkfbaoglmmhjaa.P Go.Proofs.YtmkfbaoglmmhjaaW.PrintWords Go.Proofs.YtmkfbaoglmmhjaaW.PrintLast
set_option linter.unusedVariables false
set_option linter.unusedSimpArgs false
theorem stays_items (n : Nat) : ∀ (k i : Nat) (l : List S48), l.length = i + n → l.length ≤ 1000 → trivetlaw14_CalendarStays.l2 (k + n + 1) l true l (i : Int) = some true := by
  induction n with
  | zero =>
    intro k i l hl hm
    rw [Nat.add_zero, trivetlaw14_CalendarStays.l2, if_neg (by omega)]
  | succ n ih =>
    intro k i l hl hm
    rw [show k + (n + 1) + 1 = (k + n + 1) + 1 by omega, trivetlaw14_CalendarStays.l2, if_pos (by omega), if_pos (by omega), if_pos (by omega), if_neg (by simp), M.w64_id (n := (i : Int) + 1) (by omega) (by omega)]
    exact ih k (i + 1) l (by omega) hm
theorem stays_outs (n : Nat) : ∀ (k i : Nat) (l : List S48) (a : List S45), a.length = i + n → a.length ≤ 100000 → trivetlaw14_CalendarStays.l1 (k + n + 1) l true l a a (i : Int) = trivetlaw14_CalendarStays.l2 k l true l 0 := by
  induction n with
  | zero =>
    intro k i l a hl hm
    rw [Nat.add_zero, trivetlaw14_CalendarStays.l1, if_neg (by omega)]
  | succ n ih =>
    intro k i l a hl hm
    rw [show k + (n + 1) + 1 = (k + n + 1) + 1 by omega, trivetlaw14_CalendarStays.l1, if_pos (by omega), if_pos (by omega), if_pos (by omega), if_neg (by simp), M.w64_id (n := (i : Int) + 1) (by omega) (by omega)]
    exact ih k (i + 1) l a (by omega) hm
theorem stays_zero (n : Nat) : ∀ (k i : Nat) (l : List S48) (p q : Int) (a c : List S45) (e : Option Int), a.length = i + n → a.length ≤ 100000 → ∃ a', trivetlaw14_CalendarStays.l0 (k + n + 1) l p q true l a e c (i : Int) = trivetlaw14_CalendarStays.l0 (k + 1) l p q true l a' e c (a'.length : Int) := by
  induction n with
  | zero =>
    intro k i l p q a c e hl hm
    exact ⟨a, by rw [hl]; rfl⟩
  | succ n ih =>
    intro k i l p q a c e hl hm
    obtain ⟨a', h⟩ := ih k (i + 1) l p q (a.set i ⟨0, 0, 0⟩) c e (by simp; omega) (by simp; omega)
    refine ⟨a', ?_⟩
    rw [← h, show k + (n + 1) + 1 = (k + n + 1) + 1 by omega]
    conv => lhs; rw [trivetlaw14_CalendarStays.l0, if_pos (by omega), if_pos (by omega), M.w64_id (n := (i : Int) + 1) (by omega) (by omega)]
    rfl
theorem CalendarStays : trivetlaw14_CalendarStays.Pure := by
  intro l a b _ _ _ ha hb
  have ha := M.in_of_wf ha
  have hb := M.in_of_wf hb
  obtain ⟨K, hK⟩ : ∃ K, K = 50000 := ⟨_, rfl⟩
  refine ⟨K, ?_⟩
  unfold trivetlaw14_CalendarStays.f
  rw [trivetlaw14_up.num K (by omega), Option.bind_some]
  by_cases h0 : (l.length : Int) > 100
  · rw [if_pos h0]
  have hn : ∃ (o : List S45) (e : Option Int), (if Cal.askO l a b then (Cal.outs l a b, none) else (([] : List S45), some 1)) = (o, e) ∧ o.length ≤ 10000 ∧ (e.isNone = true ∨ ¬ e.isNone = true) := by
    by_cases h : Cal.askO l a b
    · exact ⟨_, _, if_pos h, Cal.outs_len h, Decidable.em _⟩
    · exact ⟨_, _, if_neg h, by simp, Decidable.em _⟩
  obtain ⟨o, e, ho, hlen, he⟩ := hn
  have key : ∀ k, 12100 ≤ k → calendar_Outs.f k l a b = some (o, e) := fun k hk => by rw [calendar_Outs.num k l a b ha hb hk, ho]
  rw [if_neg h0, Option.bind_some, if_pos (by simp; omega), Option.bind_some, List.nil_append, key K (by omega), Option.bind_some, Option.bind_some, if_pos (by simp; omega), List.nil_append]
  obtain ⟨J, hJ⟩ : ∃ J, K = J + o.length + 1 := ⟨K - o.length - 1, by omega⟩
  obtain ⟨a', h1⟩ := stays_zero o.length J 0 l a b o o e (by omega) (by omega)
  have e0 : ((0 : Nat) : Int) = 0 := rfl
  rw [hJ]
  rw [e0] at h1
  rw [h1, trivetlaw14_CalendarStays.l0, if_neg (by omega), key J (by omega), Option.bind_some]
  obtain ⟨I, hI⟩ : ∃ I, J = ((I + l.length + 1) + o.length + 1) + 1 := ⟨J - l.length - o.length - 3, by omega⟩
  have done : trivetlaw14_CalendarStays.j1 J l true l o o ((o.length : Int) != (o.length : Int)) = some true := by
    rw [hI, trivetlaw14_CalendarStays.j1, if_neg (by simp)]
    have h2 := stays_outs o.length (I + l.length + 1) 0 l o (by omega) (by omega)
    rw [e0] at h2
    rw [h2]
    exact stays_items l.length I 0 l (by omega) (by omega)
  rcases he with he | he
  · rw [if_pos he, if_pos he]; exact done
  · rw [if_neg he, if_neg he]; exact done

end Go.Proofs.Ytmkfbaoglmmhjaa.Pure
