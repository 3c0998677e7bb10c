-- Written by a program of this session out of the translation of the seat: Lean functions and the proofs that the Go functions come to them.
import Derived.Test.YtmkfbaoglmmhjaaPx0
import Derived.Test.YtmkfbaoglmmhjaaPx1
import Derived.Test.YtmkfbaoglmmhjaaPx2
import Derived.Test.YtmkfbaoglmmhjaaPx3
import Derived.Test.YtmkfbaoglmmhjaaPx4
import Derived.Test.YtmkfbaoglmmhjaaPx5
import Derived.Test.YtmkfbaoglmmhjaaPx6
import Derived.Test.YtmkfbaoglmmhjaaPx7
import Derived.Test.YtmkfbaoglmmhjaaPx8
import Derived.Test.YtmkfbaoglmmhjaaPx9
import Derived.Test.YtmkfbaoglmmhjaaPx11
import Derived.Test.YtmkfbaoglmmhjaaPx12
import Derived.Test.YtmkfbaoglmmhjaaPx13
import Derived.Test.YtmkfbaoglmmhjaaPx14
import Derived.Test.YtmkfbaoglmmhjaaPx15
namespace Go.Proofs.Ytmkfbaoglmmhjaa.P
open Go.RowKit Go.Proofs.YtmkfbaoglmmhjaaW.PrintWords Go.Proofs.YtmkfbaoglmmhjaaW.PrintLast Go.Proofs.YtmkfbaoglmmhjaaW.PrintMore
set_option linter.unusedVariables false
set_option linter.unusedSimpArgs false
section
open Go.Sort Go.Stab
/-- ahead: on an earlier day, or on the same day and an earlier item -/
def Cal.T (p q : S45) : Prop := p.f0 < q.f0 ∨ (p.f0 = q.f0 ∧ p.f1 < q.f1)
theorem Sr3.spec (l : List S45) (h : l.Pairwise (fun p q => p.f0 = q.f0 → p.f1 < q.f1)) : (Sr3.srt l).Perm l ∧ (Sr3.srt l).Pairwise Cal.T := by
  have hT : ∀ x y z, Cal.T x y → Cal.T y z → Cal.T x z := by
    intro x y z h1 h2
    unfold Cal.T at *
    omega
  obtain ⟨d, hd⟩ : ∃ d, d = l.toArray := ⟨_, rfl⟩
  have hsz : d.size = l.length := by rw [hd]; simp
  have hcross : ∀ x y, x < y → y < l.length → Cross (ltOf Sr3.cmp) Cal.T d[x]! d[y]! := by
    intro x y hxy hy
    have hp := (List.pairwise_iff_getElem.mp h) x y (by omega) hy hxy
    have ex : d[x]! = l[x]'(by omega) := by rw [getElem!_pos d x (by omega)]; simp [hd]
    have ey : d[y]! = l[y]'hy := by rw [getElem!_pos d y (by omega)]; simp [hd]
    rw [ex, ey]
    generalize l[x]'(by omega) = p at hp
    generalize l[y]'hy = q at hp
    unfold Cross
    simp only [ltOf, Cal.T, Sr3.cmp]
    constructor
    · intro hlt
      have hlt := of_decide_eq_true hlt
      left
      split at hlt
      · assumption
      · split at hlt <;> omega
    · intro hlt
      have hlt := of_decide_eq_false hlt
      split at hlt
      · omega
      · rename_i hn
        by_cases e : p.f0 = q.f0
        · exact .inr ⟨e, hp e⟩
        · exact .inl (by omega)
  have hs := stable_spec hT l.length d (by omega) hcross
  have hdef : Sr3.srt l = (Stab.stable (ltOf Sr3.cmp) d l.length).toList := by
    unfold Sr3.srt
    rw [hd]
  rw [hdef]
  obtain ⟨⟨p1, p2, p3⟩, s⟩ := hs
  obtain ⟨d', hd'⟩ : ∃ d', d' = Stab.stable (ltOf Sr3.cmp) d l.length := ⟨_, rfl⟩
  rw [← hd'] at p1 p2 p3 s ⊢
  have ex : ∀ {α : Type} (a : Array α) (n : Nat), n = a.size → a.extract 0 n = a := by
    intro α a n hn
    subst hn
    simp
  have e1 := ex d' l.length (by omega)
  have e2 := ex d l.length (by omega)
  rw [e1, e2] at p3
  constructor
  · have : d.toList = l := by rw [hd]
    rw [this] at p3
    exact p3
  · rw [List.pairwise_iff_getElem]
    intro i j hi hj hij
    have hi' : i < d'.size := by simpa using hi
    have hj' : j < d'.size := by simpa using hj
    have := s i j (Nat.zero_le _) hij (by omega)
    rw [getElem!_pos d' i hi', getElem!_pos d' j hj'] at this
    simpa using this
end
theorem Cal.irr {p q : S45} (h : Cal.T p q) (h2 : Cal.T q p) : False := by
  unfold Cal.T at h h2
  omega
theorem Cal.uniq : ∀ {a b : List S45}, (∀ p, p ∈ a ↔ p ∈ b) → a.Pairwise Cal.T → b.Pairwise Cal.T → a = b
  | [], [], _, _, _ => rfl
  | [], y :: b, h, _, _ => absurd ((h y).mpr (by simp)) (by simp)
  | x :: a, [], h, _, _ => absurd ((h x).mp (by simp)) (by simp)
  | x :: a, y :: b, h, ha, hb => by
    have ha' := List.pairwise_cons.mp ha
    have hb' := List.pairwise_cons.mp hb
    have hxy : x = y := by
      have h1 : x ∈ y :: b := (h x).mp (by simp)
      have h2 : y ∈ x :: a := (h y).mpr (by simp)
      rcases List.mem_cons.mp h1 with h | h
      · exact h
      · rcases List.mem_cons.mp h2 with h' | h'
        · exact h'.symm
        · exact (Cal.irr (hb'.1 x h) (ha'.1 y h')).elim
    subst hxy
    have h' : ∀ p, p ∈ a ↔ p ∈ b := fun p => by
      constructor
      · intro hp
        rcases List.mem_cons.mp ((h p).mp (List.mem_cons_of_mem _ hp)) with e | e
        · subst e; exact (Cal.irr (ha'.1 p hp) (ha'.1 p hp)).elim
        · exact e
      · intro hp
        rcases List.mem_cons.mp ((h p).mpr (List.mem_cons_of_mem _ hp)) with e | e
        · subst e; exact (Cal.irr (hb'.1 p hp) (hb'.1 p hp)).elim
        · exact e
    rw [Cal.uniq h' ha'.2 hb'.2]
/-- on which day an item is paid in a year -/
def Cal.day (x : S48) (y : Int) : Int := M.civ y x.f0 (mn x.f1 (M.days y x.f0))
def Cal.yr : List S48 → Nat → Int → Int → Int → List S45
  | [], _, _, _, _ => []
  | x :: r, i, fr, tl, y => if fr ≤ Cal.day x y ∧ Cal.day x y < tl then ⟨Cal.day x y, (i : Int), x.f2⟩ :: Cal.yr r (i + 1) fr tl y else Cal.yr r (i + 1) fr tl y
def Cal.raw (l : List S48) (fr tl : Int) : Nat → Int → List S45
  | 0, _ => []
  | n + 1, y => Cal.yr l 0 fr tl y ++ Cal.raw l fr tl n (y + 1)
def Cal.outs (l : List S48) (fr tl : Int) : List S45 := Sr3.srt (Cal.raw l fr tl (M.yr tl + 1 - M.yr fr).toNat (M.yr fr))
def Cal.inYr (y : Int) : Prop := 1900 ≤ y ∧ y ≤ 2199
theorem Cal.date {x : S48} {y : Int} (hx : calendar_Check.okI x) (hy : Cal.inYr y) : M.date y x.f0 (mn x.f1 (M.days y x.f0)) := by
  unfold calendar_Check.okI at hx
  unfold Cal.inYr at hy
  have := M.days_pos (y := y) (m := x.f0) ⟨hy.1, hy.2, hx.1, hx.2.1⟩
  unfold M.date mn
  split <;> omega
theorem calendar_day.num {x : S48} {y : Int} (hx : calendar_Check.okI x) (hy : Cal.inYr y) : calendar_day.f x.f0 x.f1 x.f2 y = some (Cal.day x y) := by
  unfold calendar_day.f date_Days.f date_Number_s.f
  rw [Option.bind_some, if_pos (Cal.date hx hy), Option.bind_some, if_pos (by rfl)]
  rfl
theorem Cal.yr_len (fr tl y : Int) : ∀ (l : List S48) (i : Nat), (Cal.yr l i fr tl y).length ≤ l.length
  | [], i => Nat.le_refl _
  | x :: r, i => by
    have := Cal.yr_len fr tl y r (i + 1)
    unfold Cal.yr
    split <;> simp <;> omega
theorem Cal.raw_len (l : List S48) (fr tl : Int) : ∀ (n : Nat) (y : Int), (Cal.raw l fr tl n y).length ≤ n * l.length
  | 0, y => by simp [Cal.raw]
  | n + 1, y => by
    have h1 := Cal.yr_len fr tl y l 0
    have h2 := Cal.raw_len l fr tl n (y + 1)
    rw [Cal.raw, List.length_append, Nat.succ_mul]
    omega
theorem calendar_Outs.inner (n : Nat) : ∀ (k i : Nat) (l : List S48) (acc : List S45) (a b y q r s : Int), l.length = i + n → l.length ≤ 32 → (∀ x ∈ l, calendar_Check.okI x) → Cal.inYr y → acc.length + n ≤ 100000 →
    calendar_Outs.l1 (k + n + 1) l a b acc y l (l.length : Int) (i : Int) q r s = calendar_Outs.l0 k l a b (acc ++ Cal.yr (l.drop i) i a b y) (y + 1) q r s := by
  induction n with
  | zero =>
    intro k i l acc a b y q r s hl hm hok hy ha
    have hy' := hy
    unfold Cal.inYr at hy'
    rw [Nat.add_zero, calendar_Outs.l1, if_neg (by omega), List.drop_eq_nil_of_le (by omega), M.w64_id (n := y + 1) (by omega) (by omega)]
    simp [Cal.yr]
  | succ n ih =>
    intro k i l acc a b y q r s hl hm hok hy ha
    have hx := hok _ (Cal.rd_mem l i (by omega))
    have hd := Cal.drop_rd l i (by omega)
    have ih' := fun acc => ih k (i + 1) l acc a b y q r s (by omega) hm hok hy
    rw [show k + (n + 1) + 1 = (k + n + 1) + 1 by omega, calendar_Outs.l1, if_pos (by omega), if_pos (by omega), if_pos (by omega), M.w64_id (n := (i : Int) + 1) (by omega) (by omega), show (i : Int) + 1 = ((i + 1 : Nat) : Int) by omega, hd]
    generalize rd_T48 l (i : Int) = x at hx ⊢
    rw [calendar_day.num hx hy, Option.bind_some]
    by_cases c1 : a ≤ Cal.day x y
    · rw [if_pos (show Cal.day x y ≥ a from c1)]
      by_cases c2 : Cal.day x y < b
      · rw [if_pos c2, if_pos (by omega), ih' _ (by simp; omega)]
        congr 1
        rw [Cal.yr, if_pos ⟨c1, c2⟩, List.append_assoc]
        rfl
      · rw [if_neg c2, ih' _ (by omega)]
        congr 1
        rw [Cal.yr, if_neg (fun h => c2 h.2)]
    · rw [if_neg (show ¬ Cal.day x y ≥ a from c1), ih' _ (by omega)]
      congr 1
      rw [Cal.yr, if_neg (fun h => c1 h.1)]
theorem calendar_Outs.outer (n : Nat) : ∀ (k : Nat) (l : List S48) (acc : List S45) (a b y q r s : Int), n = (q + 1 - y).toNat → l.length ≤ 32 → (∀ x ∈ l, calendar_Check.okI x) → 1900 ≤ y → q ≤ 2199 → acc.length + n * 32 ≤ 90000 → n * 40 + 1 ≤ k →
    calendar_Outs.l0 k l a b acc y q r s = some (Sr3.srt (acc ++ Cal.raw l a b n y), none) := by
  induction n with
  | zero =>
    intro k l acc a b y q r s hn hm hok hy hq ha hk
    obtain ⟨j, rfl⟩ : ∃ j, k = j + 1 := ⟨k - 1, by omega⟩
    rw [calendar_Outs.l0, if_neg (by omega), if_pos (by omega)]
    simp [Cal.raw]
  | succ n ih =>
    intro k l acc a b y q r s hn hm hok hy hq ha hk
    obtain ⟨j, rfl⟩ : ∃ j, k = (j + l.length + 1) + 1 := ⟨k - l.length - 2, by omega⟩
    have hlen := Cal.yr_len a b y l 0
    have hin := calendar_Outs.inner l.length j 0 l acc a b y q r s (by omega) hm hok ⟨hy, by omega⟩ (by omega)
    rw [List.drop_zero] at hin
    have e0 : ((0 : Nat) : Int) = 0 := rfl
    rw [e0] at hin
    rw [calendar_Outs.l0, if_pos (by omega), hin, ih j l _ a b (y + 1) q r s (by omega) hm hok (by omega) hq (by simp; omega) (by omega), Cal.raw, List.append_assoc]
/-- may what is to be paid be asked for? -/
def Cal.askO (l : List S48) (a b : Int) : Prop := calendar_Check.may l ∧ (-25567 ≤ a ∧ a ≤ 84005) ∧ (-25567 ≤ b ∧ b ≤ 84005)
instance (l : List S48) (a b : Int) : Decidable (Cal.askO l a b) := inferInstanceAs (Decidable (_ ∧ _))
theorem calendar_Outs.num (k : Nat) (l : List S48) (a b : Int) (ha : M.In a) (hb : M.In b) (hk : 12100 ≤ k) : calendar_Outs.f k l a b = some (if Cal.askO l a b then (Cal.outs l a b, none) else ([], some 1)) := by
  unfold calendar_Outs.f calendar_Check.f
  rw [Option.bind_some]
  by_cases h1 : calendar_Check.may l
  · rw [if_pos h1, if_pos (by rfl)]
    unfold date_Of_s.f
    rw [if_pos ha, Option.bind_some]
    by_cases h2 : -25567 ≤ a ∧ a ≤ 84005
    · rw [if_pos h2, if_pos (by rfl), if_pos hb, Option.bind_some]
      by_cases h3 : -25567 ≤ b ∧ b ≤ 84005
      · rw [if_pos h3, if_pos (by rfl), if_pos (show Cal.askO l a b from ⟨h1, h2, h3⟩)]
        have da := M.date_in (M.dateOf h2.1 h2.2).1
        have db := M.date_in (M.dateOf h3.1 h3.2).1
        have key := calendar_Outs.outer (M.yr b + 1 - M.yr a).toNat k l [] a b (M.yr a) (M.yr b) (M.mo b) (M.dy b) rfl h1.1 h1.2 da.1 db.2.1 (by simp; omega) (by omega)
        rw [key]
        rfl
      · rw [if_neg h3, if_neg (by decide), if_neg (show ¬ Cal.askO l a b from fun h => h3 h.2.2)]
        rfl
    · rw [if_neg h2, if_neg (by decide), if_neg (show ¬ Cal.askO l a b from fun h => h2 h.2.1)]
      rfl
  · rw [if_neg h1, if_neg (by decide), if_neg (show ¬ Cal.askO l a b from fun h => h1 h.1)]
    rfl
theorem Cal.yr_mono {a n : Int} (ha : -25567 ≤ a) (hn : n ≤ 84005) (h : a ≤ n) : M.yr a ≤ M.yr n := by
  obtain ⟨da, ca⟩ := M.dateOf ha (by omega)
  obtain ⟨dn, cn⟩ := M.dateOf (n := n) (by omega) hn
  have ia := M.date_in da
  have in_ := M.date_in dn
  rcases Int.lt_or_le (M.yr n) (M.yr a) with hlt | hle
  · exfalso
    have fa := M.F_date (y := M.yr a) (m := M.mo a) ⟨ia.2.2.1, ia.2.2.2.1⟩
    have fn := M.F_date (y := M.yr n) (m := M.mo n) ⟨in_.2.2.1, in_.2.2.2.1⟩
    have mono := M.F_mono (s := 12 * M.yr n + M.mo n - 1) (t := 12 * M.yr a + M.mo a - 1) (by omega) (by omega) (by omega)
    rw [fn.1, fn.2, fa.1] at mono
    have c1 := M.civ_day (M.yr a) (M.mo a) (M.dy a)
    have c2 := M.civ_day (M.yr n) (M.mo n) (M.dy n)
    omega
  · exact hle
theorem Cal.mem_yr (fr tl y : Int) (p : S45) : ∀ (l : List S48) (i : Nat), p ∈ Cal.yr l i fr tl y ↔ ∃ j x, l[j]? = some x ∧ p = ⟨Cal.day x y, ((i + j : Nat) : Int), x.f2⟩ ∧ fr ≤ Cal.day x y ∧ Cal.day x y < tl
  | [], i => by simp [Cal.yr]
  | x :: r, i => by
    have ih := Cal.mem_yr fr tl y p r (i + 1)
    have tail : (∃ j z, r[j]? = some z ∧ p = ⟨Cal.day z y, ((i + 1 + j : Nat) : Int), z.f2⟩ ∧ fr ≤ Cal.day z y ∧ Cal.day z y < tl) → ∃ j z, (x :: r)[j]? = some z ∧ p = ⟨Cal.day z y, ((i + j : Nat) : Int), z.f2⟩ ∧ fr ≤ Cal.day z y ∧ Cal.day z y < tl :=
      fun ⟨j, z, h1, h2, h3⟩ => ⟨j + 1, z, by simpa using h1, by rw [h2, show i + 1 + j = i + (j + 1) by omega], h3⟩
    unfold Cal.yr
    constructor
    · intro h
      split at h
      · rename_i c
        rcases List.mem_cons.mp h with e | e
        · exact ⟨0, x, rfl, e, c⟩
        · exact tail (ih.mp e)
      · exact tail (ih.mp h)
    · rintro ⟨j, z, h1, h2, h3⟩
      cases j with
      | zero =>
        simp at h1
        subst h1
        rw [if_pos h3, h2]
        simp
      | succ j =>
        have h4 : p ∈ Cal.yr r (i + 1) fr tl y := ih.mpr ⟨j, z, by simpa using h1, by rw [h2, show i + (j + 1) = i + 1 + j by omega], h3⟩
        split
        · exact List.mem_cons_of_mem _ h4
        · exact h4
theorem Cal.pw_yr (fr tl y : Int) : ∀ (l : List S48) (i : Nat), (Cal.yr l i fr tl y).Pairwise (fun p q => p.f1 < q.f1)
  | [], i => List.Pairwise.nil
  | x :: r, i => by
    have ih := Cal.pw_yr fr tl y r (i + 1)
    unfold Cal.yr
    split
    · refine List.pairwise_cons.mpr ⟨fun q hq => ?_, ih⟩
      obtain ⟨j, z, _, h2, _⟩ := (Cal.mem_yr fr tl y q r (i + 1)).mp hq
      rw [h2]
      show (i : Int) < ((i + 1 + j : Nat) : Int)
      omega
    · exact ih
theorem Cal.mem_raw (l : List S48) (fr tl : Int) (p : S45) : ∀ (n : Nat) (y : Int), p ∈ Cal.raw l fr tl n y ↔ ∃ t : Nat, t < n ∧ p ∈ Cal.yr l 0 fr tl (y + t)
  | 0, y => by simp [Cal.raw]
  | n + 1, y => by
    have ih := Cal.mem_raw l fr tl p n (y + 1)
    rw [Cal.raw, List.mem_append, ih]
    constructor
    · rintro (h | ⟨t, ht, h⟩)
      · exact ⟨0, by omega, by simpa using h⟩
      · exact ⟨t + 1, by omega, by rw [show y + ((t + 1 : Nat) : Int) = y + 1 + t by omega]; exact h⟩
    · rintro ⟨t, ht, h⟩
      cases t with
      | zero => exact .inl (by simpa using h)
      | succ t => exact .inr ⟨t, by omega, by rw [show y + 1 + (t : Int) = y + ((t + 1 : Nat) : Int) by omega]; exact h⟩
theorem Cal.day_inj {x z : S48} {y y' : Int} (hx : calendar_Check.okI x) (hz : calendar_Check.okI z) (hy : Cal.inYr y) (hy' : Cal.inYr y') (e : Cal.day x y = Cal.day z y') : y = y' := (M.civ_inj (Cal.date hx hy) (Cal.date hz hy') e).1
theorem Cal.pw_raw {l : List S48} {fr tl : Int} (hok : ∀ x ∈ l, calendar_Check.okI x) : ∀ (n : Nat) (y : Int), 1900 ≤ y → y + n ≤ 2200 → (Cal.raw l fr tl n y).Pairwise (fun p q => p.f0 = q.f0 → p.f1 < q.f1)
  | 0, y, _, _ => List.Pairwise.nil
  | n + 1, y, h1, h2 => by
    rw [Cal.raw, List.pairwise_append]
    refine ⟨List.Pairwise.imp (S := fun p q : S45 => p.f0 = q.f0 → p.f1 < q.f1) (fun h _ => h) (Cal.pw_yr fr tl y l 0), Cal.pw_raw hok n (y + 1) (by omega) (by omega), fun p hp q hq e => ?_⟩
    exfalso
    obtain ⟨j, x, a1, a2, _⟩ := (Cal.mem_yr _ _ _ _ _ _).mp hp
    obtain ⟨t, ht, hq'⟩ := (Cal.mem_raw _ _ _ _ _ _).mp hq
    obtain ⟨j', z, b1, b2, _⟩ := (Cal.mem_yr _ _ _ _ _ _).mp hq'
    have := Cal.day_inj (hok x (List.mem_of_getElem? a1)) (hok z (List.mem_of_getElem? b1)) (y := y) (y' := y + 1 + t) ⟨by omega, by omega⟩ ⟨by omega, by omega⟩ (by rw [a2, b2] at e; exact e)
    omega
theorem Cal.outs_spec {l : List S48} {a b : Int} (h : Cal.askO l a b) : (Cal.outs l a b).Perm (Cal.raw l a b (M.yr b + 1 - M.yr a).toNat (M.yr a)) ∧ (Cal.outs l a b).Pairwise Cal.T := by
  have da := M.date_in (M.dateOf h.2.1.1 h.2.1.2).1
  have db := M.date_in (M.dateOf h.2.2.1 h.2.2.2).1
  exact Sr3.spec _ (Cal.pw_raw h.1.2 _ _ da.1 (by omega))
theorem Cal.mem_outs {l : List S48} {a b : Int} (h : Cal.askO l a b) (p : S45) : p ∈ Cal.outs l a b ↔ ∃ j x y, l[j]? = some x ∧ Cal.inYr y ∧ p = ⟨Cal.day x y, ((j : Nat) : Int), x.f2⟩ ∧ a ≤ Cal.day x y ∧ Cal.day x y < b := by
  have da := M.date_in (M.dateOf h.2.1.1 h.2.1.2).1
  have db := M.date_in (M.dateOf h.2.2.1 h.2.2.2).1
  have hs := (Cal.outs_spec h).1
  rw [hs.mem_iff, Cal.mem_raw]
  constructor
  · rintro ⟨t, ht, hp⟩
    obtain ⟨j, x, h1, h2, h3⟩ := (Cal.mem_yr _ _ _ _ _ _).mp hp
    exact ⟨j, x, _, h1, ⟨by omega, by omega⟩, by rw [h2, Nat.zero_add], h3⟩
  · rintro ⟨j, x, y, h1, hy, h2, h3⟩
    have hx := h.1.2 x (List.mem_of_getElem? h1)
    have e : M.yr (Cal.day x y) = y := (M.of_civ (Cal.date hx hy)).1
    have m1 := Cal.yr_mono (a := a) (n := Cal.day x y) h.2.1.1 (by have := h.2.2.2; omega) h3.1
    have m2 := Cal.yr_mono (a := Cal.day x y) (n := b) (by have := h.2.1.1; omega) h.2.2.2 (by omega)
    refine ⟨(y - M.yr a).toNat, by omega, ?_⟩
    rw [show M.yr a + ((y - M.yr a).toNat : Int) = y by omega]
    exact (Cal.mem_yr _ _ _ _ _ _).mpr ⟨j, x, h1, by rw [h2, Nat.zero_add], h3⟩
theorem Cal.parts {l : List S48} {a b c : Int} (h1 : Cal.askO l a b) (h2 : Cal.askO l b c) (hab : a ≤ b) (hbc : b ≤ c) : Cal.outs l a c = Cal.outs l a b ++ Cal.outs l b c := by
  have h3 : Cal.askO l a c := ⟨h1.1, h1.2.1, h2.2.2⟩
  refine Cal.uniq (fun p => ?_) (Cal.outs_spec h3).2 (List.pairwise_append.mpr ⟨(Cal.outs_spec h1).2, (Cal.outs_spec h2).2, fun p hp q hq => ?_⟩)
  · rw [List.mem_append, Cal.mem_outs h1, Cal.mem_outs h2, Cal.mem_outs h3]
    constructor
    · rintro ⟨j, x, y, i1, i2, i3, i4, i5⟩
      rcases Int.lt_or_le (Cal.day x y) b with g | g
      · exact .inl ⟨j, x, y, i1, i2, i3, i4, g⟩
      · exact .inr ⟨j, x, y, i1, i2, i3, g, i5⟩
    · rintro (⟨j, x, y, i1, i2, i3, i4, i5⟩ | ⟨j, x, y, i1, i2, i3, i4, i5⟩)
      · exact ⟨j, x, y, i1, i2, i3, i4, by omega⟩
      · exact ⟨j, x, y, i1, i2, i3, by omega, i5⟩
  · obtain ⟨j, x, y, _, _, i3, _, i5⟩ := (Cal.mem_outs h1 p).mp hp
    obtain ⟨j', z, y', _, _, k3, k4, _⟩ := (Cal.mem_outs h2 q).mp hq
    left
    rw [i3, k3]
    show Cal.day x y < Cal.day z y'
    omega
theorem Cal.outs_len {l : List S48} {a b : Int} (h : Cal.askO l a b) : (Cal.outs l a b).length ≤ 10000 := by
  have da := M.date_in (M.dateOf h.2.1.1 h.2.1.2).1
  have db := M.date_in (M.dateOf h.2.2.1 h.2.2.2).1
  rw [(Cal.outs_spec h).1.length_eq]
  have h1 := Cal.raw_len l a b (M.yr b + 1 - M.yr a).toNat (M.yr a)
  have h2 : (M.yr b + 1 - M.yr a).toNat * l.length ≤ 300 * 32 := Nat.mul_le_mul (by omega) h.1.1
  omega
end Go.Proofs.Ytmkfbaoglmmhjaa.P
