/- The Go law CalendarOuts answers true at all items and days: whether any items may be, and what is to be paid between any days, is what the document's answer tells, day by day; or something is amiss. Conditions: none beyond the given statement's own. -/
import Derived.Test.YtmkfbaoglmmhjaaPx10
import Derived.Test.YtmkfbaoglmmhjaaCal
namespace Go.Proofs.Ytmkfbaoglmmhjaa.Pure
open Go.RowKit Go.Proofs.Ytmkfbaoglmmhjaa.P Go.Proofs.YtmkfbaoglmmhjaaW.PrintWords Go.Proofs.YtmkfbaoglmmhjaaW.PrintLast
set_option linter.unusedVariables false
set_option linter.unusedSimpArgs false
theorem paid_tells {x : S48} {y m d : Int} (hx : calendar_Check.okI x) (hd : M.date y m d) : trivetref14_paid.f x.f0 x.f1 x.f2 y m d = some (decide (Cal.day x y = M.civ y m d)) := by
  have hin := M.date_in hd
  have hy : Cal.inYr y := ⟨hin.1, hin.2.1⟩
  have hdx := Cal.date hx hy
  unfold trivetref14_paid.f trivetref04_Days_s.f
  by_cases c : x.f0 = m
  · rw [if_pos c, Option.bind_some]
    subst c
    have e1 := M.civ_day y x.f0 (mn x.f1 (M.days y x.f0))
    have e2 := M.civ_day y x.f0 d
    have hiff : Cal.day x y = M.civ y x.f0 d ↔ mn x.f1 (M.days y x.f0) = d := by
      unfold Cal.day
      omega
    have hl := hin.2.2.2.2.2.2
    unfold mn at hiff
    by_cases c1 : x.f1 = d
    · rw [if_pos c1, decide_eq_true (hiff.mpr (by rw [if_neg (by omega)]; exact c1))]
    · rw [if_neg c1]
      by_cases c2 : x.f1 > M.days y x.f0
      · rw [if_pos c2]
        rw [if_pos c2] at hiff
        by_cases c3 : d = M.days y x.f0
        · rw [decide_eq_true (hiff.mpr c3.symm), beq_iff_eq.mpr c3]
        · rw [decide_eq_false (fun h => c3 (hiff.mp h).symm), beq_eq_false_iff_ne.mpr c3]
      · rw [if_neg c2]
        rw [if_neg c2] at hiff
        rw [decide_eq_false (fun h => c1 (hiff.mp h))]
  · rw [if_neg c, decide_eq_false (show ¬ Cal.day x y = M.civ y m d from fun h => c (M.civ_inj hdx hd h).2.1)]
def onDay : List S48 → Nat → Int → Int → List S45
  | [], _, _, _ => []
  | x :: r, i, t, y => if Cal.day x y = t then ⟨t, (i : Int), x.f2⟩ :: onDay r (i + 1) t y else onDay r (i + 1) t y
def byDay (l : List S48) : Nat → Int → List S45
  | 0, _ => []
  | n + 1, t => onDay l 0 t (M.yr t) ++ byDay l n (t + 1)
theorem onDay_len (t y : Int) : ∀ (l : List S48) (i : Nat), (onDay l i t y).length ≤ l.length
  | [], i => Nat.le_refl _
  | x :: r, i => by
    have := onDay_len t y r (i + 1)
    unfold onDay
    split <;> simp <;> omega
/-- the day behind a day -/
theorem next_day {y m d t : Int} (hd : M.date y m d) (ht : M.civ y m d = t) (hb : t + 1 ≤ 84005) :
    (d + 1 > M.days y m → m + 1 > 12 → M.yr (t + 1) = y + 1 ∧ M.mo (t + 1) = 1 ∧ M.dy (t + 1) = 1) ∧
    (d + 1 > M.days y m → ¬ m + 1 > 12 → M.yr (t + 1) = y ∧ M.mo (t + 1) = m + 1 ∧ M.dy (t + 1) = 1) ∧
    (¬ d + 1 > M.days y m → M.yr (t + 1) = y ∧ M.mo (t + 1) = m ∧ M.dy (t + 1) = d + 1) := by
  have hin := M.date_in hd
  have e1 := M.civ_day y m d
  refine ⟨fun h1 h2 => ?_, fun h1 h2 => ?_, fun h1 => ?_⟩
  · obtain rfl : m = 12 := by omega
    have e2 := M.civ_year (y := y)
    have e3 : M.days y 12 = 31 := by
      unfold M.days
      rw [if_pos ⟨hin.1, hin.2.1, by decide, by decide⟩, if_neg (by decide), if_neg (by decide)]
    have hy : y ≠ 2199 := by
      rintro rfl
      have e4 : M.civ 2199 12 1 = 83975 := by decide +kernel
      omega
    have hd2 : M.date (y + 1) 1 1 := by
      have := M.days_pos (y := y + 1) (m := 1) ⟨by omega, by omega, by decide, by decide⟩
      exact ⟨by omega, by omega⟩
    have := M.of_civ hd2
    rw [show M.civ (y + 1) 1 1 = t + 1 by omega] at this
    exact this
  · have e2 := M.civ_next (y := y) (m := m) ⟨hin.1, hin.2.1⟩ ⟨hin.2.2.1, by omega⟩
    have hd2 : M.date y (m + 1) 1 := by
      have := M.days_pos (y := y) (m := m + 1) ⟨hin.1, hin.2.1, by omega, by omega⟩
      exact ⟨by omega, by omega⟩
    have := M.of_civ hd2
    rw [show M.civ y (m + 1) 1 = t + 1 by omega] at this
    exact this
  · have e2 := M.civ_day y m (d + 1)
    have hd2 : M.date y m (d + 1) := ⟨by omega, by omega⟩
    have := M.of_civ hd2
    rw [show M.civ y m (d + 1) = t + 1 by omega] at this
    exact this
theorem ref_inner (n : Nat) : ∀ (k i : Nat) (l : List S48) (acc : List S45) (b t y m d : Int), l.length = i + n → l.length ≤ 32 → (∀ x ∈ l, calendar_Check.okI x) → M.date y m d → M.civ y m d = t → t + 1 ≤ 84005 → -100000 ≤ t → acc.length + n ≤ 100000000 →
    trivetref14_Outs.l1 (k + n + 1) l b acc t (i : Int) y m d = trivetref14_Outs.l0 k l b (acc ++ onDay (l.drop i) i t y) (t + 1) (M.yr (t + 1)) (M.mo (t + 1)) (M.dy (t + 1)) := by
  induction n with
  | zero =>
    intro k i l acc b t y m d hl hm hok hd ht h1 h2 ha
    have hin := M.date_in hd
    have hn := next_day hd ht h1
    rw [Nat.add_zero, trivetref14_Outs.l1, if_neg (by omega), List.drop_eq_nil_of_le (by omega)]
    unfold trivetref04_Days_s.f
    rw [Option.bind_some, M.w64_id (n := d + 1) (by omega) (by omega), M.w64_id (n := m + 1) (by omega) (by omega), M.w64_id (n := t + 1) (by omega) (by omega), M.w64_id (n := y + 1) (by omega) (by omega)]
    have e0 : acc ++ onDay [] i t y = acc := by simp [onDay]
    rw [e0]
    by_cases c1 : d + 1 > M.days y m
    · rw [if_pos c1]
      by_cases c2 : m + 1 > 12
      · obtain ⟨n1, n2, n3⟩ := hn.1 c1 c2
        rw [if_pos c2, n1, n2, n3]
      · obtain ⟨n1, n2, n3⟩ := hn.2.1 c1 c2
        rw [if_neg c2, n1, n2, n3]
    · obtain ⟨n1, n2, n3⟩ := hn.2.2 c1
      rw [if_neg c1, if_neg (by omega), n1, n2, n3]
  | succ n ih =>
    intro k i l acc b t y m d hl hm hok hd ht h1 h2 ha
    have hx := hok _ (Cal.rd_mem l i (by omega))
    have hdr := Cal.drop_rd l i (by omega)
    have ih' := fun acc => ih k (i + 1) l acc b t y m d (by omega) hm hok hd ht h1 h2
    rw [show k + (n + 1) + 1 = (k + n + 1) + 1 by omega, trivetref14_Outs.l1, if_pos (by omega), if_pos (by omega), M.w64_id (n := (i : Int) + 1) (by omega) (by omega), show (i : Int) + 1 = ((i + 1 : Nat) : Int) by omega, hdr]
    generalize rd_T48 l (i : Int) = x at hx ⊢
    rw [paid_tells hx hd, Option.bind_some, ht]
    by_cases c : Cal.day x y = t
    · rw [if_pos (decide_eq_true c), if_pos (by omega), ih' _ (by simp; omega)]
      congr 1
      rw [onDay, if_pos c, List.append_assoc]
      rfl
    · rw [if_neg (by simpa using c), ih' _ (by omega)]
      congr 1
      rw [onDay, if_neg c]
theorem ref_outer (n : Nat) : ∀ (k : Nat) (l : List S48) (acc : List S45) (b t : Int), n = (b - t).toNat → l.length ≤ 32 → (∀ x ∈ l, calendar_Check.okI x) → -25567 ≤ t → t ≤ 84005 → b ≤ 84005 → acc.length + n * 32 ≤ 10000000 → n * 40 + 1 ≤ k →
    trivetref14_Outs.l0 k l b acc t (M.yr t) (M.mo t) (M.dy t) = some (acc ++ byDay l n t) := by
  induction n with
  | zero =>
    intro k l acc b t hn hm hok h1 h2 h3 ha hk
    obtain ⟨j, rfl⟩ : ∃ j, k = j + 1 := ⟨k - 1, by omega⟩
    rw [trivetref14_Outs.l0, if_neg (by omega)]
    simp [byDay]
  | succ n ih =>
    intro k l acc b t hn hm hok h1 h2 h3 ha hk
    obtain ⟨j, rfl⟩ : ∃ j, k = (j + l.length + 1) + 1 := ⟨k - l.length - 2, by omega⟩
    have hdt := M.dateOf h1 h2
    have hlen := onDay_len t (M.yr t) l 0
    have hin := ref_inner l.length j 0 l acc b t (M.yr t) (M.mo t) (M.dy t) (by omega) hm hok hdt.1 hdt.2 (by omega) (by omega) (by omega)
    rw [List.drop_zero] at hin
    have e0 : ((0 : Nat) : Int) = 0 := rfl
    rw [e0] at hin
    rw [trivetref14_Outs.l0, if_pos (by omega), hin, ih j l _ b (t + 1) (by omega) hm hok (by omega) (by omega) h3 (by simp; omega) (by omega), byDay, List.append_assoc]
theorem mem_onDay (t y : Int) (p : S45) : ∀ (l : List S48) (i : Nat), p ∈ onDay l i t y ↔ ∃ j x, l[j]? = some x ∧ p = ⟨t, ((i + j : Nat) : Int), x.f2⟩ ∧ Cal.day x y = t
  | [], i => by simp [onDay]
  | x :: r, i => by
    have ih := mem_onDay t y p r (i + 1)
    have tail : (∃ j z, r[j]? = some z ∧ p = ⟨t, ((i + 1 + j : Nat) : Int), z.f2⟩ ∧ Cal.day z y = t) → ∃ j z, (x :: r)[j]? = some z ∧ p = ⟨t, ((i + j : Nat) : Int), z.f2⟩ ∧ Cal.day z y = t :=
      fun ⟨j, z, h1, h2, h3⟩ => ⟨j + 1, z, by simpa using h1, by rw [h2, show i + 1 + j = i + (j + 1) by omega], h3⟩
    unfold onDay
    constructor
    · intro h
      split at h
      · rename_i c
        rcases List.mem_cons.mp h with e | e
        · exact ⟨0, x, rfl, e, c⟩
        · exact tail (ih.mp e)
      · exact tail (ih.mp h)
    · rintro ⟨j, z, h1, h2, h3⟩
      cases j with
      | zero =>
        simp at h1
        subst h1
        rw [if_pos h3, h2]
        simp
      | succ j =>
        have h4 : p ∈ onDay r (i + 1) t y := ih.mpr ⟨j, z, by simpa using h1, by rw [h2, show i + (j + 1) = i + 1 + j by omega], h3⟩
        split
        · exact List.mem_cons_of_mem _ h4
        · exact h4
theorem pw_onDay (t y : Int) : ∀ (l : List S48) (i : Nat), (onDay l i t y).Pairwise Cal.T
  | [], i => List.Pairwise.nil
  | x :: r, i => by
    have ih := pw_onDay t y r (i + 1)
    unfold onDay
    split
    · refine List.pairwise_cons.mpr ⟨fun q hq => ?_, ih⟩
      obtain ⟨j, z, _, h2, _⟩ := (mem_onDay t y q r (i + 1)).mp hq
      rw [h2]
      right
      refine ⟨rfl, ?_⟩
      show (i : Int) < ((i + 1 + j : Nat) : Int)
      omega
    · exact ih
theorem mem_byDay (l : List S48) (p : S45) : ∀ (n : Nat) (t : Int), p ∈ byDay l n t ↔ ∃ s : Nat, s < n ∧ p ∈ onDay l 0 (t + s) (M.yr (t + s))
  | 0, t => by simp [byDay]
  | n + 1, t => by
    have ih := mem_byDay l p n (t + 1)
    rw [byDay, List.mem_append, ih]
    constructor
    · rintro (h | ⟨s, hs, h⟩)
      · exact ⟨0, by omega, by simpa using h⟩
      · exact ⟨s + 1, by omega, by rw [show t + ((s + 1 : Nat) : Int) = t + 1 + s by omega]; exact h⟩
    · rintro ⟨s, hs, h⟩
      cases s with
      | zero => exact .inl (by simpa using h)
      | succ s => exact .inr ⟨s, by omega, by rw [show t + 1 + (s : Int) = t + ((s + 1 : Nat) : Int) by omega]; exact h⟩
theorem pw_byDay (l : List S48) : ∀ (n : Nat) (t : Int), (byDay l n t).Pairwise Cal.T
  | 0, t => List.Pairwise.nil
  | n + 1, t => by
    rw [byDay, List.pairwise_append]
    refine ⟨pw_onDay t _ l 0, pw_byDay l n (t + 1), fun p hp q hq => ?_⟩
    obtain ⟨j, x, _, a2, _⟩ := (mem_onDay _ _ _ _ _).mp hp
    obtain ⟨s, hs, hq'⟩ := (mem_byDay _ _ _ _).mp hq
    obtain ⟨j', z, _, b2, _⟩ := (mem_onDay _ _ _ _ _).mp hq'
    left
    rw [a2, b2]
    show t < t + 1 + (s : Int)
    omega
theorem outs_byDay {l : List S48} {a b : Int} (h : Cal.askO l a b) : Cal.outs l a b = byDay l (b - a).toNat a := by
  refine Cal.uniq (fun p => ?_) (Cal.outs_spec h).2 (pw_byDay l _ a)
  rw [Cal.mem_outs h, mem_byDay]
  constructor
  · rintro ⟨j, x, y, i1, i2, i3, i4, i5⟩
    have hx := h.1.2 x (List.mem_of_getElem? i1)
    have e : M.yr (Cal.day x y) = y := (M.of_civ (Cal.date hx i2)).1
    refine ⟨(Cal.day x y - a).toNat, by omega, ?_⟩
    rw [show a + ((Cal.day x y - a).toNat : Int) = Cal.day x y by omega, e]
    exact (mem_onDay _ _ _ _ _).mpr ⟨j, x, i1, by rw [i3, Nat.zero_add], rfl⟩
  · rintro ⟨s, hs, hp⟩
    obtain ⟨j, x, i1, i2, i3⟩ := (mem_onDay _ _ _ _ _).mp hp
    have r1 := h.2.1
    have r2 := h.2.2
    have hd := M.date_in (M.dateOf (n := a + s) (by omega) (by omega)).1
    exact ⟨j, x, M.yr (a + s), i1, ⟨hd.1, hd.2.1⟩, by rw [i3, i2, Nat.zero_add], by omega, by omega⟩
theorem same_loop (n : Nat) : ∀ (k i : Nat) (a : List S45), a.length = i + n → a.length ≤ 100000 → n < k → trivetlaw14_CalendarOuts.l0 k true a a (i : Int) = some true := by
  induction n with
  | zero =>
    intro k i a hl hm hk
    obtain ⟨j, rfl⟩ : ∃ j, k = j + 1 := ⟨k - 1, by omega⟩
    rw [trivetlaw14_CalendarOuts.l0, if_neg (by omega)]
  | succ n ih =>
    intro k i a hl hm hk
    obtain ⟨j, rfl⟩ : ∃ j, k = j + 1 := ⟨k - 1, by omega⟩
    rw [trivetlaw14_CalendarOuts.l0, if_pos (by omega), if_pos (by omega), if_pos (by omega), if_neg (by simp), M.w64_id (n := (i : Int) + 1) (by omega) (by omega)]
    exact ih j (i + 1) a (by omega) hm (by omega)
theorem CalendarOuts : trivetlaw14_CalendarOuts.Pure := by
  intro l a b _ _ _ ha hb
  have ha := M.in_of_wf ha
  have hb := M.in_of_wf hb
  obtain ⟨K, hK⟩ : ∃ K, K = 5000000 := ⟨_, rfl⟩
  refine ⟨K + 3, ?_⟩
  unfold trivetlaw14_CalendarOuts.f
  rw [trivetlaw14_up.num (K + 3) (by omega), Option.bind_some]
  by_cases h0 : (l.length : Int) > 100
  · rw [if_pos h0]
  rw [if_neg h0, calendar_Outs.num (K + 3) l a b ha hb (by omega), trivetref14_May.num (K + 3) l (by omega)]
  unfold calendar_Check.f
  simp only [Option.bind_some]
  have bad2 : trivetlaw14_CalendarOuts.j1 (K + 2) l a b true [] (some 1) true = some true := rfl
  by_cases h1 : calendar_Check.may l
  · rw [if_pos h1, if_pos (by rfl), if_pos (decide_eq_true h1), decide_eq_true h1]
    rw [trivetlaw14_CalendarOuts.j0, if_neg (by decide)]
    unfold trivetref04_Of_s.f
    rw [if_pos ha, Option.bind_some, if_pos hb, Option.bind_some, if_pos rfl]
    by_cases h2 : -25567 ≤ a ∧ a ≤ 84005
    · rw [if_pos h2, if_pos (by rfl)]
      by_cases h3 : -25567 ≤ b ∧ b ≤ 84005
      · have hask : Cal.askO l a b := ⟨h1, h2, h3⟩
        have hlen := Cal.outs_len hask
        have href : trivetref14_Outs.f (K + 1) l a b = some (Cal.outs l a b) := by
          unfold trivetref14_Outs.f trivetref04_Of_s.f
          rw [if_pos ha, if_pos h2, Option.bind_some]
          have key := ref_outer (b - a).toNat (K + 1) l [] b a rfl h1.1 h1.2 h2.1 h2.2 h3.2 (by simp; omega) (by omega)
          rw [List.nil_append, ← outs_byDay hask] at key
          exact key
        rw [if_pos h3, if_pos hask, trivetlaw14_CalendarOuts.j1, if_neg (show ¬ (!(M.yr b, M.mo b, M.dy b, true).2.2.2) = true by simp), href, Option.bind_some, if_pos (by rfl), trivetlaw14_CalendarOuts.j2, if_neg (by simp)]
        exact same_loop (Cal.outs l a b).length K 0 (Cal.outs l a b) (by rw [Nat.zero_add]) (by omega) (by omega)
      · rw [if_neg h3, if_neg (show ¬ Cal.askO l a b from fun h => h3 h.2.2)]
        exact bad2
    · rw [if_neg h2, if_neg (by decide), if_neg (show ¬ Cal.askO l a b from fun h => h2 h.2.1)]
      exact bad2
  · rw [if_neg h1, if_neg (by decide), if_neg (by simpa using h1), decide_eq_false h1, if_neg (show ¬ Cal.askO l a b from fun h => h1 h.1)]
    rw [trivetlaw14_CalendarOuts.j0, if_neg (by decide)]
    unfold trivetref04_Of_s.f
    rw [if_pos ha, Option.bind_some, if_pos hb, Option.bind_some, if_neg (by decide)]
    exact bad2

end Go.Proofs.Ytmkfbaoglmmhjaa.Pure
