/- The Go law CalendarYears answers true at all items and days: of any twelve months what is paid is all items' amounts together, month by month what is to be paid between their firsts. Conditions: none beyond the given statement's own. -/
import Derived.Test.YtmkfbaoglmmhjaaPx12
import Derived.Test.YtmkfbaoglmmhjaaCal
namespace Go.Proofs.Ytmkfbaoglmmhjaa.Pure
open Go.RowKit Go.Proofs.Ytmkfbaoglmmhjaa.P Go.Proofs.YtmkfbaoglmmhjaaW.PrintWords Go.Proofs.YtmkfbaoglmmhjaaW.PrintLast
set_option linter.unusedVariables false
set_option linter.unusedSimpArgs false
theorem civ_lt2 {y m d y' m' d' : Int} (h : M.date y m d) (h' : M.date y' m' d') (hlt : 12 * y + m < 12 * y' + m') : M.civ y m 1 + M.days y m ≤ M.civ y' m' d' := by
  have i1 := M.date_in h
  have i2 := M.date_in h'
  have f1 := M.F_date (y := y) (m := m) ⟨i1.2.2.1, i1.2.2.2.1⟩
  have f2 := M.F_date (y := y') (m := m') ⟨i2.2.2.1, i2.2.2.2.1⟩
  have mono := M.F_mono (s := 12 * y + m - 1) (t := 12 * y' + m' - 1) (by omega) (by omega) (by omega)
  rw [f1.1, f1.2, f2.1] at mono
  have c2 := M.civ_day y' m' d'
  omega
def sum2 (R : List S45) : Int := (R.map (fun p => p.f2)).sum
theorem sum2_perm {a b : List S45} (h : a.Perm b) : sum2 a = sum2 b := by
  unfold sum2
  induction h with
  | nil => rfl
  | cons x _ ih => simp [ih]
  | swap x y l => simp; omega
  | trans _ _ ih1 ih2 => exact ih1.trans ih2
theorem sum2_append (a b : List S45) : sum2 (a ++ b) = sum2 a + sum2 b := by
  unfold sum2
  rw [List.map_append, U.sum_add]
/-- of a month's days: just the month's items -/
theorem month_first {x : S48} {y m : Int} (hx : calendar_Check.okI x) (h1 : M.date y m 1) : (M.civ y m 1 ≤ Cal.day x y ∧ Cal.day x y < M.civ y m 1 + M.days y m) ↔ x.f0 = m := by
  have i1 := M.date_in h1
  have dx := Cal.date hx (y := y) ⟨i1.1, i1.2.1⟩
  have ix := M.date_in dx
  have e2 := M.civ_day y x.f0 (mn x.f1 (M.days y x.f0))
  have hday : Cal.day x y = M.civ y x.f0 (mn x.f1 (M.days y x.f0)) := rfl
  rw [hday]
  rcases Int.lt_trichotomy x.f0 m with c | c | c
  · have := civ_lt2 dx h1 (by omega)
    constructor
    · intro h; omega
    · intro h; omega
  · subst c
    constructor
    · intro h; rfl
    · intro h; omega
  · have := civ_lt2 h1 dx (by omega)
    constructor
    · intro h; omega
    · intro h; omega
theorem month_sum {y m : Int} (h1 : M.date y m 1) : ∀ (l : List S48) (i : Nat), (∀ x ∈ l, calendar_Check.okI x) → sum2 (Cal.yr l i (M.civ y m 1) (M.civ y m 1 + M.days y m) y) = Cal.amt l m
  | [], i, _ => rfl
  | x :: r, i, hok => by
    have ih := month_sum h1 r (i + 1) (fun z hz => hok z (by simp [hz]))
    have a1 := month_first (hok x (by simp)) h1
    rw [Cal.yr, Cal.amt_cons]
    by_cases c : x.f0 = m
    · rw [if_pos (a1.mpr c), if_pos c, ← ih]
      simp [sum2]
    · rw [if_neg (fun h => c (a1.mp h)), if_neg c, ih, Int.zero_add]
theorem month_behind {y m : Int} (h1 : M.date y m 1) (h2 : y + 1 ≤ 2199) : ∀ (l : List S48) (i : Nat), (∀ x ∈ l, calendar_Check.okI x) → Cal.yr l i (M.civ y m 1) (M.civ y m 1 + M.days y m) (y + 1) = []
  | [], i, _ => rfl
  | x :: r, i, hok => by
    have ih := month_behind h1 h2 r (i + 1) (fun z hz => hok z (by simp [hz]))
    have i1 := M.date_in h1
    have hx := hok x (by simp)
    have dx := Cal.date hx (y := y + 1) ⟨by omega, by omega⟩
    have ix := M.date_in dx
    have := civ_lt2 h1 dx (by omega)
    have hday : Cal.day x (y + 1) = M.civ (y + 1) x.f0 (mn x.f1 (M.days (y + 1) x.f0)) := rfl
    rw [Cal.yr, if_neg (by rw [hday]; omega), ih]
theorem first_date {t : Int} (ht : 22800 ≤ t ∧ t ≤ 26399) : M.date (t / 12) (t % 12 + 1) 1 := by
  have := M.days_pos (y := t / 12) (m := t % 12 + 1) ⟨by omega, by omega, by omega, by omega⟩
  exact ⟨by decide, by omega⟩
theorem first_yr {t : Int} (ht : 22800 ≤ t ∧ t ≤ 26399) : M.yr (M.F t) = t / 12 := (M.of_civ (first_date ht)).1
theorem first_bd {t : Int} (ht : 22800 ≤ t ∧ t ≤ 26399) : -25567 ≤ M.F t ∧ M.F t ≤ 84005 := M.civ_bd (first_date ht)
theorem month_outs {l : List S48} {t : Int} (hl : calendar_Check.may l) (ht : 22800 ≤ t ∧ t + 1 ≤ 26399) : sum2 (Cal.outs l (M.F t) (M.F (t + 1))) = Cal.amt l (t % 12 + 1) := by
  have hask : Cal.askO l (M.F t) (M.F (t + 1)) := ⟨hl, first_bd (by omega), first_bd (by omega)⟩
  have hd := first_date (t := t) (by omega)
  have e1 := M.F_succ (t := t) (by omega)
  rw [sum2_perm (Cal.outs_spec hask).1, first_yr (t := t) (by omega), first_yr (t := t + 1) (by omega), e1]
  have e2 : M.F t = M.civ (t / 12) (t % 12 + 1) 1 := rfl
  have e3 : M.len t = M.days (t / 12) (t % 12 + 1) := rfl
  rw [e2, e3]
  have hs := month_sum hd l 0 hl.2
  by_cases c : (t + 1) / 12 = t / 12
  · rw [show ((t + 1) / 12 + 1 - t / 12).toNat = 1 by omega, Cal.raw, Cal.raw, List.append_nil]
    exact hs
  · rw [show ((t + 1) / 12 + 1 - t / 12).toNat = 2 by omega, Cal.raw, Cal.raw, Cal.raw, List.append_nil, month_behind hd (by omega) l 0 hl.2, List.append_nil]
    exact hs
def slotOf (mo : Int) (x : S48) : Nat := ((x.f0 - mo + 12) % 12).toNat
def leftBehind (mo : Int) (k : Nat) (l : List S48) : Int := (l.map (fun x => if k ≤ slotOf mo x then x.f2 else 0)).sum
theorem left_cons (mo : Int) (k : Nat) (x : S48) (r : List S48) : leftBehind mo k (x :: r) = (if k ≤ slotOf mo x then x.f2 else 0) + leftBehind mo k r := by
  unfold leftBehind
  rw [List.map_cons, List.sum_cons]
theorem left_step {mo : Int} (hm : 1 ≤ mo ∧ mo ≤ 12) (k : Nat) (hk : k < 12) : ∀ (l : List S48), (∀ x ∈ l, calendar_Check.okI x) → leftBehind mo k l = Cal.amt l (Cal.far mo k) + leftBehind mo (k + 1) l
  | [], _ => rfl
  | x :: r, hok => by
    have ih := left_step hm k hk r (fun z hz => hok z (by simp [hz]))
    have hx := hok x (by simp)
    unfold calendar_Check.okI at hx
    have hs := Cal.slot (f := x.f0) ⟨hx.1, hx.2.1⟩ hm k hk
    have hs2 : ((x.f0 - mo + 12) % 12).toNat = slotOf mo x := rfl
    rw [hs2] at hs
    rw [left_cons, left_cons, Cal.amt_cons, ih]
    by_cases c : slotOf mo x = k
    · rw [if_pos (hs.mpr c), if_pos (by omega), if_neg (by omega)]
      omega
    · rw [if_neg (fun h => c (hs.mp h))]
      by_cases c2 : k ≤ slotOf mo x
      · rw [if_pos c2, if_pos (by omega)]
        omega
      · rw [if_neg c2, if_neg (by omega)]
        omega
theorem left_bd (mo : Int) (k : Nat) : ∀ (l : List S48), (∀ x ∈ l, calendar_Check.okI x) → 0 ≤ leftBehind mo k l ∧ leftBehind mo k l ≤ 10000000000000 * (l.length : Int)
  | [], _ => by simp [leftBehind]
  | x :: r, hok => by
    have ih := left_bd mo k r (fun z hz => hok z (by simp [hz]))
    have hx := hok x (by simp)
    unfold calendar_Check.okI at hx
    rw [left_cons, List.length_cons]
    split <;> omega
theorem left_end {mo : Int} (hm : 1 ≤ mo ∧ mo ≤ 12) : ∀ (l : List S48), (∀ x ∈ l, calendar_Check.okI x) → leftBehind mo 12 l = 0
  | [], _ => rfl
  | x :: r, hok => by
    have ih := left_end hm r (fun z hz => hok z (by simp [hz]))
    have : slotOf mo x < 12 := by unfold slotOf; omega
    rw [left_cons, ih, if_neg (by omega)]
    rfl
theorem years_all (n : Nat) : ∀ (k i : Nat) (l : List S48) (mon : List Int) (s y m d mo : Int), l.length = i + n → l.length ≤ 32 → (∀ x ∈ l, calendar_Check.okI x) → 0 ≤ s ∧ s ≤ 10000000000000 * (i : Int) →
    trivetlaw14_CalendarYears.l0 (k + n + 1) l true mon s (i : Int) y m d = trivetlaw14_CalendarYears.l1 k l true mon (s + leftBehind mo 0 (l.drop i)) 0 y m d := by
  induction n with
  | zero =>
    intro k i l mon s y m d mo hl hm hok hs
    rw [Nat.add_zero, trivetlaw14_CalendarYears.l0, if_neg (by omega), List.drop_eq_nil_of_le (by omega)]
    simp [leftBehind]
  | succ n ih =>
    intro k i l mon s y m d mo hl hm hok hs
    have hx := hok _ (Cal.rd_mem l i (by omega))
    have hd := Cal.drop_rd l i (by omega)
    have ih' := fun s => ih k (i + 1) l mon s y m d mo (by omega) hm hok
    rw [show k + (n + 1) + 1 = (k + n + 1) + 1 by omega, trivetlaw14_CalendarYears.l0, if_pos (by omega), if_pos (by omega), M.w64_id (n := (i : Int) + 1) (by omega) (by omega), show (i : Int) + 1 = ((i + 1 : Nat) : Int) by omega, hd, left_cons]
    generalize rd_T48 l (i : Int) = x at hx ⊢
    unfold calendar_Check.okI at hx
    rw [M.w64_id (n := s + x.f2) (by omega) (by omega), ih' _ (by omega), if_pos (Nat.zero_le _), Int.add_assoc]
theorem years_month (n : Nat) : ∀ (k i : Nat) (l : List S48) (mon : List Int) (R : List S45) (r q s y m d : Int), R.length = i + n → R.length ≤ 10000 → (∀ p ∈ R, 1 ≤ p.f2 ∧ p.f2 ≤ 10000000000000) → 0 ≤ s ∧ s ≤ 10000000000000 * (i : Int) → 0 ≤ q → q < (mon.length : Int) → q < 12 → s + sum2 (R.drop i) = rd mon q → (0 ≤ r - rd mon q ∧ r ≤ 1000000000000000) → 0 ≤ rd mon q →
    trivetlaw14_CalendarYears.l2 (k + n + 1) l true mon r q R s (i : Int) y m d = trivetlaw14_CalendarYears.l1 k l true mon (r - rd mon q) (q + 1) y m d := by
  induction n with
  | zero =>
    intro k i l mon R r q s y m d hl hm hok hs h1 h2 h3 h4 h5 h6
    rw [List.drop_eq_nil_of_le (by omega)] at h4
    have h4' : s = rd mon q := by rw [← h4]; simp [sum2]
    rw [Nat.add_zero, trivetlaw14_CalendarYears.l2, if_neg (by omega), if_pos h1, if_pos h2, if_pos h4', h4', M.w64_id (n := r - rd mon q) (by omega) (by omega), M.w64_id (n := q + 1) (by omega) (by omega)]
  | succ n ih =>
    intro k i l mon R r q s y m d hl hm hok hs h1 h2 h3 h4 h5 h6
    have hi : i < R.length := by omega
    have hget : rd_T45 R (i : Int) = R[i] := by
      unfold rd_T45
      rw [Int.toNat_natCast, List.getD_eq_getElem?_getD, List.getElem?_eq_getElem hi]; rfl
    have hx := hok _ (List.getElem_mem hi)
    have h4' : s + R[i].f2 + sum2 (R.drop (i + 1)) = rd mon q := by
      rw [← h4, List.drop_eq_getElem_cons hi]
      simp only [sum2, List.map_cons, List.sum_cons]
      omega
    rw [show k + (n + 1) + 1 = (k + n + 1) + 1 by omega, trivetlaw14_CalendarYears.l2, if_pos (by omega), if_pos (by omega), hget, M.w64_id (n := (i : Int) + 1) (by omega) (by omega), M.w64_id (n := s + R[i].f2) (by omega) (by omega)]
    exact ih k (i + 1) l mon R r q (s + R[i].f2) y m d (by omega) hm hok (by omega) h1 h2 h3 h4' h5 h6
theorem years_loop (n : Nat) : ∀ (k q : Nat) (l : List S48) (y m : Int), q + n = 12 → calendar_Check.may l → M.date y m 1 → M.inYears (M.mt y m + 12) → n * 10010 + 13000 ≤ k →
    trivetlaw14_CalendarYears.l1 k l true (Cal.mon l m) (leftBehind m q l) (q : Int) y m 1 = some true := by
  induction n with
  | zero =>
    intro k q l y m hq hl hd ht hk
    obtain ⟨j, rfl⟩ : ∃ j, k = j + 1 := ⟨k - 1, by omega⟩
    obtain rfl : q = 12 := by omega
    have i1 := M.date_in hd
    rw [trivetlaw14_CalendarYears.l1, if_neg (by omega), if_pos rfl, left_end ⟨i1.2.2.1, i1.2.2.2.1⟩ l hl.2]
    rfl
  | succ n ih =>
    intro k q l y m hq hl hd ht hk
    have hk2 : n * 10010 + 10010 + 13000 ≤ k := by rw [Nat.succ_mul] at hk; exact hk
    have i1 := M.date_in hd
    have ht0 := ht
    unfold M.inYears at ht
    have hmt : M.mt y m = 12 * y + m - 1 := rfl
    have hm12 : 1 ≤ m ∧ m ≤ 12 := ⟨i1.2.2.1, i1.2.2.2.1⟩
    obtain ⟨t, htt⟩ : ∃ t, t = M.mt y m + (q : Int) := ⟨_, rfl⟩
    have ht1 : 22800 ≤ t ∧ t + 1 ≤ 26399 := by omega
    have hlen1 := M.len_pos (t := t) (by omega)
    have hlen2 := M.len_pos (t := t + 1) (by omega)
    have hmon : ∀ (u v : Int), v = M.mt y m + u → 0 ≤ u → u ≤ 12 → trivetref04_Months_s.f y m 1 u = some (v / 12, v % 12 + 1, 1, true) := by
      intro u v hv h0 h12
      have hl3 := M.len_pos (t := v) (by omega)
      unfold trivetref04_Months_s.f
      rw [if_pos ⟨i1.1, i1.2.1, i1.2.2.1, i1.2.2.2.1, by decide, by decide⟩, if_pos (show -3600 ≤ u ∧ u ≤ 3600 ∧ M.inYears (M.mt y m + u) from ⟨by omega, by omega, by unfold M.inYears; omega⟩), ← hv]
      have e : M.cut 1 (M.len v) = 1 := by unfold M.cut; rw [if_pos (by omega)]
      rw [e]
    have hnum : ∀ v : Int, 22800 ≤ v ∧ v ≤ 26399 → trivetref04_Number_s.f (v / 12) (v % 12 + 1) 1 = some (M.F v) := by
      intro v hv
      exact if_pos ⟨by omega, by omega, by omega, by omega, by decide, by decide⟩
    have hask : Cal.askO l (M.F t) (M.F (t + 1)) := ⟨hl, first_bd (by omega), first_bd (by omega)⟩
    have hRl := Cal.outs_len hask
    obtain ⟨j, rfl⟩ : ∃ j, k = (j + (Cal.outs l (M.F t) (M.F (t + 1))).length + 1) + 1 := ⟨k - (Cal.outs l (M.F t) (M.F (t + 1))).length - 2, by omega⟩
    have hk3 : n * 10010 + 13000 ≤ j := by
      generalize (Cal.outs l (M.F t) (M.F (t + 1))).length = z at hk2 hRl
      generalize n * 10010 = u at hk2 ⊢
      clear hmon hnum hask hlen1 hlen2 ht1 ht hmt hm12 htt i1
      omega
    have b1 := hask.2.1
    have b2 := hask.2.2
    have hf2 : ∀ p ∈ Cal.outs l (M.F t) (M.F (t + 1)), 1 ≤ p.f2 ∧ p.f2 ≤ 10000000000000 := by
      intro p hp
      obtain ⟨a, x, y', a1, _, a3, _⟩ := (Cal.mem_outs hask p).mp hp
      have hx := hl.2 x (List.mem_of_getElem? a1)
      unfold calendar_Check.okI at hx
      rw [a3]
      exact ⟨hx.2.2.2.2.1, hx.2.2.2.2.2⟩
    have hamt := month_outs (l := l) (t := t) hl ht1
    have hfar : Cal.far m q = t % 12 + 1 := by
      unfold Cal.far
      split <;> omega
    have hrd : rd (Cal.mon l m) (q : Int) = Cal.amt l (t % 12 + 1) := by
      rw [← hfar]
      unfold rd Cal.mon
      rw [Int.toNat_natCast, List.getD_eq_getElem?_getD, List.getElem?_map, List.getElem?_range (by omega)]; rfl
    have hab := Cal.amt_bd (t % 12 + 1) l hl.2
    have hst := left_step hm12 q (by omega) l hl.2
    rw [hfar] at hst
    have hlb := left_bd m (q + 1) l hl.2
    have hlb0 := left_bd m q l hl.2
    have h32 := hl.1
    have hmlen : (Cal.mon l m).length = 12 := by simp [Cal.mon]
    rw [trivetlaw14_CalendarYears.l1, if_pos (by omega), hmon (q : Int) t htt (by omega) (by omega), Option.bind_some, M.w64_id (n := (q : Int) + 1) (by omega) (by omega), hmon ((q : Int) + 1) (t + 1) (by omega) (by omega) (by omega), Option.bind_some]
    simp only []
    rw [hnum t (by omega), Option.bind_some, hnum (t + 1) (by omega), Option.bind_some, calendar_Outs.num _ l _ _ (by unfold M.In; omega) (by unfold M.In; omega) (by omega), Option.bind_some, if_pos hask, if_pos (by rfl)]
    have key := years_month (Cal.outs l (M.F t) (M.F (t + 1))).length j 0 l (Cal.mon l m) (Cal.outs l (M.F t) (M.F (t + 1))) (leftBehind m q l) (q : Int) 0 y m 1 (by omega) hRl hf2 (by simp) (by omega) (by omega) (by omega) (by rw [List.drop_zero, Int.zero_add, hamt, hrd]) (by rw [hrd]; omega) (by rw [hrd]; omega)
    have e0 : ((0 : Nat) : Int) = 0 := rfl
    rw [e0] at key
    rw [key, hrd, show leftBehind m q l - Cal.amt l (t % 12 + 1) = leftBehind m (q + 1) l by omega]
    exact ih j (q + 1) l y m (by omega) hl hd ht0 hk3
theorem CalendarYears : trivetlaw14_CalendarYears.Pure := by
  intro l a _ _ _ ha
  have ha := M.in_of_wf ha
  obtain ⟨K, hK⟩ : ∃ K, K = 200000 := ⟨_, rfl⟩
  refine ⟨K + 1, ?_⟩
  unfold trivetlaw14_CalendarYears.f
  rw [trivetlaw14_up.num (K + 1) (by omega), Option.bind_some]
  by_cases h0 : (l.length : Int) > 100
  · rw [if_pos h0]
  rw [if_neg h0, calendar_Months.num (K + 1) l a ha (by omega), Option.bind_some]
  by_cases h : Cal.ask l a
  · obtain ⟨h1, h2, h3, h4⟩ := h
    have hdate := (M.dateOf h1.1 h1.2).1
    rw [h2] at hdate
    have hin := M.date_in hdate
    rw [if_pos (show Cal.ask l a from ⟨h1, h2, h3, h4⟩), if_pos (by rfl)]
    unfold trivetref04_Of_s.f
    rw [if_pos ha, if_pos h1, Option.bind_some, if_pos (by rfl), h2]
    have hmlen : (Cal.mon l (M.mo a)).length = 12 := by simp [Cal.mon]
    rw [trivetlaw14_CalendarYears.j0, if_neg (by simp [Cal.mon])]
    obtain ⟨J, hJ⟩ : ∃ J, K = J + l.length + 1 := ⟨K - l.length - 1, by have := h3.1; omega⟩
    have key := years_all l.length J 0 l (Cal.mon l (M.mo a)) 0 (M.yr a) (M.mo a) 1 (M.mo a) (by omega) h3.1 h3.2 (by simp)
    have e0 : ((0 : Nat) : Int) = 0 := rfl
    rw [e0, List.drop_zero, Int.zero_add] at key
    rw [hJ]
    have h32 := h3.1
    exact key.trans (years_loop 12 J 0 l (M.yr a) (M.mo a) rfl h3 hdate h4 (by omega))
  · rw [if_neg h, if_neg (by decide)]

end Go.Proofs.Ytmkfbaoglmmhjaa.Pure
