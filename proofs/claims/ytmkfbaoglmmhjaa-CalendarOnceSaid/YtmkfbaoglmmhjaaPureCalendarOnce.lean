/- The Go law CalendarOnce answers true at all items and days: from a day on each item is paid once in twelve months. Conditions: none beyond the given statement's own. -/
import Derived.Test.YtmkfbaoglmmhjaaPx15
import Derived.Test.YtmkfbaoglmmhjaaCal
namespace Go.Proofs.Ytmkfbaoglmmhjaa.Pure
open Go.RowKit Go.Proofs.Ytmkfbaoglmmhjaa.P Go.Proofs.YtmkfbaoglmmhjaaW.PrintWords Go.Proofs.YtmkfbaoglmmhjaaW.PrintLast
set_option linter.unusedVariables false
set_option linter.unusedSimpArgs false
theorem civ_lt {y m d y' m' d' : Int} (h : M.date y m d) (h' : M.date y' m' d') (hlt : 12 * y + m < 12 * y' + m') : M.civ y m d < M.civ y' m' d' := by
  have i1 := M.date_in h
  have i2 := M.date_in h'
  have f1 := M.F_date (y := y) (m := m) ⟨i1.2.2.1, i1.2.2.2.1⟩
  have f2 := M.F_date (y := y') (m := m') ⟨i2.2.2.1, i2.2.2.2.1⟩
  have mono := M.F_mono (s := 12 * y + m - 1) (t := 12 * y' + m' - 1) (by omega) (by omega) (by omega)
  rw [f1.1, f1.2, f2.1] at mono
  have c1 := M.civ_day y m d
  have c2 := M.civ_day y' m' d'
  omega
/-- is an item paid from a date on, still in its year? -/
def still (x : S48) (m d : Int) : Prop := x.f0 > m ∨ (x.f0 = m ∧ x.f1 ≥ d)
theorem in_first {x : S48} {y m d : Int} (hx : calendar_Check.okI x) (h1 : M.date y m d) (h2 : M.date (y + 1) m d) (hd : d ≤ 28) : (M.civ y m d ≤ Cal.day x y ∧ Cal.day x y < M.civ (y + 1) m d) ↔ still x m d := by
  have i1 := M.date_in h1
  have dx := Cal.date hx (y := y) ⟨i1.1, i1.2.1⟩
  have ix := M.date_in dx
  have hx' := hx
  unfold calendar_Check.okI at hx'
  have up := civ_lt dx h2 (by omega)
  have e1 := M.civ_day y m d
  have e2 := M.civ_day y x.f0 (mn x.f1 (M.days y x.f0))
  have hday : Cal.day x y = M.civ y x.f0 (mn x.f1 (M.days y x.f0)) := rfl
  have hp := M.days_pos (y := y) (m := x.f0) ⟨i1.1, i1.2.1, hx'.1, hx'.2.1⟩
  unfold still
  rw [hday]
  rcases Int.lt_trichotomy x.f0 m with c | c | c
  · have := civ_lt dx h1 (by omega)
    constructor
    · intro h; omega
    · intro h; omega
  · subst c
    have hmn : mn x.f1 (M.days y x.f0) ≥ d ↔ x.f1 ≥ d := by
      unfold mn
      split <;> omega
    constructor
    · intro h
      exact .inr ⟨rfl, hmn.mp (by omega)⟩
    · intro h
      have := hmn.mpr (by omega)
      omega
  · have := civ_lt h1 dx (by omega)
    constructor
    · intro h; exact .inl c
    · intro h; omega
theorem in_second {x : S48} {y m d : Int} (hx : calendar_Check.okI x) (h1 : M.date y m d) (h2 : M.date (y + 1) m d) (hd : d ≤ 28) : (M.civ y m d ≤ Cal.day x (y + 1) ∧ Cal.day x (y + 1) < M.civ (y + 1) m d) ↔ ¬ still x m d := by
  have i1 := M.date_in h2
  have dx := Cal.date hx (y := y + 1) ⟨i1.1, i1.2.1⟩
  have ix := M.date_in dx
  have i0 := M.date_in h1
  have hx' := hx
  unfold calendar_Check.okI at hx'
  have up := civ_lt h1 dx (by omega)
  have e1 := M.civ_day (y + 1) m d
  have e2 := M.civ_day (y + 1) x.f0 (mn x.f1 (M.days (y + 1) x.f0))
  have hday : Cal.day x (y + 1) = M.civ (y + 1) x.f0 (mn x.f1 (M.days (y + 1) x.f0)) := rfl
  have hp := M.days_pos (y := y + 1) (m := x.f0) ⟨i1.1, i1.2.1, hx'.1, hx'.2.1⟩
  unfold still
  rw [hday]
  rcases Int.lt_trichotomy x.f0 m with c | c | c
  · have := civ_lt dx h2 (by omega)
    constructor
    · intro h; omega
    · intro h; omega
  · subst c
    have hmn : mn x.f1 (M.days (y + 1) x.f0) ≥ d ↔ x.f1 ≥ d := by
      unfold mn
      split <;> omega
    constructor
    · intro h g
      have := hmn.mpr (by omega)
      omega
    · intro h
      have : ¬ mn x.f1 (M.days (y + 1) x.f0) ≥ d := fun g => h (.inr ⟨rfl, hmn.mp g⟩)
      omega
  · have := civ_lt h2 dx (by omega)
    constructor
    · intro h; omega
    · intro h; exact absurd (.inl c) h
theorem once_len {y m d : Int} (h1 : M.date y m d) (h2 : M.date (y + 1) m d) (hd : d ≤ 28) : ∀ (l : List S48) (i : Nat), (∀ x ∈ l, calendar_Check.okI x) → (Cal.yr l i (M.civ y m d) (M.civ (y + 1) m d) y).length + (Cal.yr l i (M.civ y m d) (M.civ (y + 1) m d) (y + 1)).length = l.length
  | [], i, _ => rfl
  | x :: r, i, hok => by
    have ih := once_len h1 h2 hd r (i + 1) (fun z hz => hok z (by simp [hz]))
    have a1 := in_first (hok x (by simp)) h1 h2 hd
    have a2 := in_second (hok x (by simp)) h1 h2 hd
    rw [Cal.yr, Cal.yr]
    by_cases c : still x m d
    · rw [if_pos (a1.mpr c), if_neg (fun h => (a2.mp h) c), List.length_cons, List.length_cons]
      omega
    · rw [if_neg (fun h => c (a1.mp h)), if_pos (a2.mpr c), List.length_cons, List.length_cons]
      omega
theorem once_loop (R : List S45) (l : List S48) (hl : l.length ≤ 32) (hR : R.length ≤ 10000)
    (HI : ∀ i : Nat, i < R.length → ∃ j : Nat, j < l.length ∧ (rd_T45 R (i : Int)).f1 = (j : Int) ∧ (rd_T45 R (i : Int)).f2 = (rd_T48 l (j : Int)).f2)
    (HP : ∀ i i' : Nat, i < i' → i' < R.length → (rd_T45 R (i : Int)).f1 ≠ (rd_T45 R (i' : Int)).f1 ∧ (rd_T45 R (i : Int)).f0 ≤ (rd_T45 R (i' : Int)).f0) (n : Nat) :
    ∀ (k i : Nat) (seen : List Bool), R.length = i + n → seen.length = l.length → (∀ j : Nat, seen.getD j false = true → ∃ i' : Nat, i' < i ∧ (rd_T45 R (i' : Int)).f1 = (j : Int)) → n < k → trivetlaw14_CalendarOnce.l0 k l true R seen (i : Int) = some true := by
  induction n with
  | zero =>
    intro k i seen h1 h2 h3 hk
    obtain ⟨j, rfl⟩ : ∃ j, k = j + 1 := ⟨k - 1, by omega⟩
    rw [trivetlaw14_CalendarOnce.l0, if_neg (by omega)]
  | succ n ih =>
    intro k i seen h1 h2 h3 hk
    obtain ⟨q, rfl⟩ : ∃ j, k = j + 1 := ⟨k - 1, by omega⟩
    obtain ⟨j, j1, j2, j3⟩ := HI i (by omega)
    have hsee : ¬ rdOf false seen (j : Int) = true := by
      intro h
      obtain ⟨i', g1, g2⟩ := h3 j h
      exact (HP i' i g1 (by omega)).1 (by rw [g2, j2])
    have ih' := ih q (i + 1) (seen.set j true) (by omega) (by simp [h2]) (fun a ha => by
      by_cases e : a = j
      · exact ⟨i, by omega, by rw [j2, e]⟩
      · have : seen.getD a false = true := by
          rw [List.getD_eq_getElem?_getD, List.getElem?_set_ne (fun h => e h.symm)] at ha
          rw [List.getD_eq_getElem?_getD]
          exact ha
        obtain ⟨i', g1, g2⟩ := h3 a this
        exact ⟨i', by omega, g2⟩) (by omega)
    rw [trivetlaw14_CalendarOnce.l0, if_pos (by omega), if_pos (by omega), j2, if_neg (by omega), if_neg (by omega), if_pos (by omega), if_pos (by omega), if_neg hsee, if_pos (by omega), if_pos j3, M.w64_id (n := (i : Int) + 1) (by omega) (by omega), M.w64_id (n := (i : Int) - 1) (by omega) (by omega)]
    by_cases c : (i : Int) > 0
    · have e : (i : Int) - 1 = ((i - 1 : Nat) : Int) := by omega
      have hp := (HP (i - 1) i (by omega) (by omega)).2
      rw [if_pos c, if_pos (by omega), if_pos (by omega), e, if_neg (by omega)]
      exact ih'
    · rw [if_neg c]
      exact ih'
theorem CalendarOnce : trivetlaw14_CalendarOnce.Pure := by
  intro l y m d _ _ _ hy hm hd
  have hy := M.in_of_wf hy
  obtain ⟨K, hK⟩ : ∃ K, K = 50000 := ⟨_, rfl⟩
  refine ⟨K + 2, ?_⟩
  unfold trivetlaw14_CalendarOnce.f
  rw [trivetlaw14_up.num (K + 2) (by omega), Option.bind_some]
  have out : trivetlaw14_CalendarOnce.j0 (K + 2) l true true y m d = some true := by rw [trivetlaw14_CalendarOnce.j0, if_pos rfl]
  by_cases c1 : (l.length : Int) > 32
  · rw [if_pos c1]; exact out
  rw [if_neg c1]
  by_cases c2 : d > 28
  · rw [decide_eq_true c2]; exact out
  rw [decide_eq_false c2, trivetlaw14_CalendarOnce.j0, if_neg (by decide)]
  have out2 : ∀ y', trivetlaw14_CalendarOnce.j1 (K + 1) l true true y m d y' m d = some true := fun y' => by rw [trivetlaw14_CalendarOnce.j1, if_pos rfl]
  unfold trivetref04_May_s.f
  rw [Option.bind_some]
  by_cases h1 : M.date y m d
  · have i1 := M.date_in h1
    rw [if_pos (decide_eq_true h1), Option.bind_some, M.w64_id (n := y + 1) (by omega) (by omega)]
    by_cases h2 : M.date (y + 1) m d
    · have i2 := M.date_in h2
      rw [decide_eq_true h2, trivetlaw14_CalendarOnce.j1, if_neg (by decide)]
      have b1 := M.civ_bd h1
      have b2 := M.civ_bd h2
      have n1 : trivetref04_Number_s.f y m d = some (M.civ y m d) := if_pos ⟨i1.1, i1.2.1, i1.2.2.1, i1.2.2.2.1, i1.2.2.2.2.1, i1.2.2.2.2.2.1⟩
      have n2 : trivetref04_Number_s.f (y + 1) m d = some (M.civ (y + 1) m d) := if_pos ⟨i2.1, i2.2.1, i2.2.2.1, i2.2.2.2.1, i2.2.2.2.2.1, i2.2.2.2.2.2.1⟩
      rw [n1, Option.bind_some, n2, Option.bind_some, calendar_Outs.num K l _ _ (by unfold M.In; omega) (by unfold M.In; omega) (by omega), Option.bind_some]
      by_cases hmay : calendar_Check.may l
      · have hask : Cal.askO l (M.civ y m d) (M.civ (y + 1) m d) := ⟨hmay, b1, b2⟩
        have hlen := Cal.outs_len hask
        have hs := Cal.outs_spec hask
        have ya : M.yr (M.civ y m d) = y := (M.of_civ h1).1
        have yb : M.yr (M.civ (y + 1) m d) = y + 1 := (M.of_civ h2).1
        have hR : (Cal.outs l (M.civ y m d) (M.civ (y + 1) m d)).length = l.length := by
          rw [hs.1.length_eq, ya, yb, show (y + 1 + 1 - y).toNat = 2 by omega, Cal.raw, Cal.raw, Cal.raw, List.append_nil, List.length_append]
          exact once_len h1 h2 (by omega) l 0 hmay.2
        have HM : ∀ p ∈ Cal.outs l (M.civ y m d) (M.civ (y + 1) m d), ∃ (j : Nat) (x : S48), l[j]? = some x ∧ p.f1 = (j : Int) ∧ p.f2 = x.f2 ∧ ((still x m d ∧ p.f0 = Cal.day x y) ∨ (¬ still x m d ∧ p.f0 = Cal.day x (y + 1))) := by
          intro p hp
          obtain ⟨j, x, y', a1, a2, a3, a4, a5⟩ := (Cal.mem_outs hask p).mp hp
          have hx := hmay.2 x (List.mem_of_getElem? a1)
          have e : M.yr (Cal.day x y') = y' := (M.of_civ (Cal.date hx a2)).1
          have m1 := Cal.yr_mono (a := M.civ y m d) (n := Cal.day x y') b1.1 (by omega) a4
          have m2 := Cal.yr_mono (a := Cal.day x y') (n := M.civ (y + 1) m d) (by omega) b2.2 (by omega)
          rw [ya, e] at m1
          rw [yb, e] at m2
          have hyy : y' = y ∨ y' = y + 1 := by omega
          refine ⟨j, x, a1, by rw [a3], by rw [a3], ?_⟩
          rcases hyy with rfl | rfl
          · exact .inl ⟨(in_first hx h1 h2 (by omega)).mp ⟨a4, a5⟩, by rw [a3]⟩
          · exact .inr ⟨(in_second hx h1 h2 (by omega)).mp ⟨a4, a5⟩, by rw [a3]⟩
        rw [if_pos hask, if_pos (by rfl)]
        generalize Cal.outs l (M.civ y m d) (M.civ (y + 1) m d) = R at hlen hR HM hs
        have hget : ∀ i : Nat, (hi : i < R.length) → rd_T45 R (i : Int) = R[i] := fun i hi => by
          unfold rd_T45
          rw [Int.toNat_natCast, List.getD_eq_getElem?_getD, List.getElem?_eq_getElem hi]; rfl
        have hget2 : ∀ (j : Nat) (x : S48), l[j]? = some x → rd_T48 l (j : Int) = x := fun j x h => by
          unfold rd_T48
          rw [Int.toNat_natCast, List.getD_eq_getElem?_getD, h]; rfl
        rw [if_pos (by rw [hR]), if_pos (by omega), if_pos (by omega)]
        have hrep : ∀ (n j : Nat), (List.replicate n false).getD j false = false := fun n j => by
          rw [List.getD_eq_getElem?_getD, List.getElem?_replicate]
          split <;> rfl
        refine once_loop R l (by omega) hlen (fun i hi => ?_) (fun i i' hii hi' => ?_) R.length K 0 _ (by rw [Nat.zero_add]) (by simp) (fun j hj => by rw [hrep] at hj; cases hj) (by omega)
        · obtain ⟨j, x, a1, a2, a3, _⟩ := HM _ (List.getElem_mem hi)
          rw [hget i hi]
          exact ⟨j, (List.getElem?_eq_some_iff.mp a1).1, a2, by rw [hget2 j x a1]; exact a3⟩
        · have hi : i < R.length := by omega
          have hT := (List.pairwise_iff_getElem.mp hs.2) i i' hi hi' hii
          obtain ⟨j, x, a1, a2, _, a4⟩ := HM _ (List.getElem_mem hi)
          obtain ⟨j', x', k1, k2, _, k4⟩ := HM _ (List.getElem_mem hi')
          rw [hget i hi, hget i' hi']
          unfold Cal.T at hT
          refine ⟨fun e => ?_, by omega⟩
          have ej : j = j' := by rw [a2, k2] at e; omega
          subst ej
          rw [a1] at k1
          obtain rfl := Option.some.inj k1
          rcases a4 with ⟨g1, g2⟩ | ⟨g1, g2⟩
          · rcases k4 with ⟨g3, g4⟩ | ⟨g3, g4⟩
            · omega
            · exact g3 g1
          · rcases k4 with ⟨g3, g4⟩ | ⟨g3, g4⟩
            · exact g1 g3
            · omega
      · rw [if_neg (show ¬ Cal.askO l (M.civ y m d) (M.civ (y + 1) m d) from fun h => hmay h.1), if_neg (by decide), if_pos rfl]
        unfold calendar_Check.f
        rw [if_neg hmay, Option.bind_some]
        rfl
    · rw [decide_eq_false h2]
      exact out2 _
  · rw [if_neg (by simpa using h1)]
    exact out2 _

end Go.Proofs.Ytmkfbaoglmmhjaa.Pure
