-- Written by a program of this session out of the translation of the seat: Lean functions and the proofs that the Go functions come to them.
import Derived.Sort.LotA
namespace Go.Stab
open Go.Sort
open Nat renaming le_refl → aa
variable {α : Type} [Inhabited α]
def swapFrom (a b : Nat) : Nat → Nat → Array α → Array α
  | 0, _, d => d
  | k + 1, i, d => swapFrom a b k (i + 1) (swp d (a + i) (b + i))
def swapRange (d : Array α) (a b n : Nat) : Array α := swapFrom a b n 0 d
def rotLoop (m : Nat) : Nat → Nat → Nat → Array α → Array α
  | 0, _, _, d => d
  | f + 1, i, j, d => if i = j then swapRange d (m - i) m i else if i > j then rotLoop m f (i - j) j (swapRange d (m - i) m j) else rotLoop m f i (j - i) (swapRange d (m - i) (m + j - i) i)
def rotate (d : Array α) (a m b : Nat) : Array α := rotLoop m (m - a + (b - m)) (m - a) (b - m) d
def bs (p : Nat → Bool) : Nat → Nat → Nat → Nat
  | 0, i, _ => i
  | f + 1, i, j => if i < j then (if p ((i + j) / 2) then bs p f ((i + j) / 2 + 1) j else bs p f i ((i + j) / 2)) else i
def up : Nat → Nat → Array α → Array α
  | 0, _, d => d
  | n + 1, k, d => up n (k + 1) (swp d k (k + 1))
def down : Nat → Nat → Array α → Array α
  | 0, _, d => d
  | n + 1, k, d => down n (k - 1) (swp d k (k - 1))
section
variable (lt : α → α → Bool)
def symMerge : Nat → Nat → Nat → Nat → Array α → Array α
  | 0, _, _, _, d => d
  | f + 1, a, m, b, d =>
    if m - a = 1 then up (bs (fun h => lt d[h]! d[a]!) (b - m) m b - 1 - a) a d
    else if b - m = 1 then down (m - bs (fun h => !lt d[m]! d[h]!) (m - a) a m) m d
    else
      let mid := (a + b) / 2
      let n := mid + m
      let s0 := if m > mid then n - b else a
      let r0 := if m > mid then mid else m
      let s := bs (fun c => !lt d[n - 1 - c]! d[c]!) (r0 - s0) s0 r0
      let e := n - s
      let d1 := if s < m ∧ m < e then rotate d s m e else d
      let d2 := if a < s ∧ s < mid then symMerge f a s mid d1 else d1
      if mid < e ∧ e < b then symMerge f mid e b d2 else d2
def firsts (n : Nat) : Nat → Nat → Array α → Nat × Array α
  | 0, a, d => (a, d)
  | f + 1, a, d => if a + 20 ≤ n then firsts n f (a + 20) (insertionSort lt d a (a + 20)) else (a, d)
def pass (n z : Nat) : Nat → Nat → Array α → Nat × Array α
  | 0, a, d => (a, d)
  | f + 1, a, d => if a + 2 * z ≤ n then pass n z f (a + 2 * z) (symMerge lt (2 * z) a (a + z) (a + 2 * z) d) else (a, d)
def round (n z : Nat) (d : Array α) : Array α :=
  let q := pass lt n z n 0 d
  if q.1 + z < n then symMerge lt (2 * z) q.1 (q.1 + z) n q.2 else q.2
def merges (n : Nat) : Nat → Nat → Array α → Array α
  | 0, _, d => d
  | f + 1, z, d => if z < n then merges n f (2 * z) (round lt n z d) else d
def stable (d : Array α) (n : Nat) : Array α :=
  let q := firsts lt n n 0 d
  merges lt n n 20 (insertionSort lt q.2 q.1 n)
end
theorem swapFrom_at (a b n : Nat) (hab : a + n ≤ b) : ∀ (k i : Nat) (d : Array α), i + k = n → b + n ≤ d.size → (swapFrom a b k i d).size = d.size ∧ ∀ x, (swapFrom a b k i d)[x]! = if a + i ≤ x ∧ x < a + n then d[x - a + b]! else if b + i ≤ x ∧ x < b + n then d[x - b + a]! else d[x]!
  | 0, i, d, hi, hb => ⟨rfl, fun x => by rw [if_neg (by omega), if_neg (by omega)]; rfl⟩
  | k + 1, i, d, hi, hb => by
    obtain ⟨h1, h2⟩ := swapFrom_at a b n hab k (i + 1) (swp d (a + i) (b + i)) (by omega) (by rw [size_swp]; exact hb)
    refine ⟨by rw [swapFrom, h1, size_swp], fun x => ?_⟩
    rw [swapFrom, h2]
    by_cases c1 : a + (i + 1) ≤ x ∧ x < a + n
    · rw [if_pos c1, if_pos (by omega), swp_other _ _ _ _ (by omega) (by omega)]
    · rw [if_neg c1]
      by_cases c2 : b + (i + 1) ≤ x ∧ x < b + n
      · rw [if_pos c2, if_neg (by omega), if_pos (by omega), swp_other _ _ _ _ (by omega) (by omega)]
      · rw [if_neg c2]
        by_cases e1 : x = a + i
        · subst e1
          rw [if_pos (by omega), swp_left _ _ _ (by omega) (by omega), show a + i - a + b = b + i by omega]
        · by_cases e2 : x = b + i
          · subst e2
            rw [if_neg (by omega), if_pos (by omega), swp_right _ _ _ (by omega), show b + i - b + a = a + i by omega]
          · rw [if_neg (by omega), if_neg (by omega), swp_other _ _ _ _ e1 e2]
theorem swapRange_at (d : Array α) (a b n : Nat) (hab : a + n ≤ b) (hb : b + n ≤ d.size) : (swapRange d a b n).size = d.size ∧ ∀ x, (swapRange d a b n)[x]! = if a ≤ x ∧ x < a + n then d[x - a + b]! else if b ≤ x ∧ x < b + n then d[x - b + a]! else d[x]! :=
  swapFrom_at a b n hab n 0 d (by omega) hb
theorem swapFrom_perm (lo hi a b n : Nat) (ha : lo ≤ a) (hn : a + n ≤ hi) (hb : lo ≤ b) (hn' : b + n ≤ hi) : ∀ (k i : Nat) (d : Array α), i + k = n → hi ≤ d.size → PermIn lo hi d (swapFrom a b k i d)
  | 0, i, d, _, _ => permIn_refl d lo hi
  | k + 1, i, d, h, hh => permIn_trans _ _ _ _ _ (swp_permIn d lo hi (a + i) (b + i) (by omega) (by omega) (by omega) (by omega) hh) (swapFrom_perm lo hi a b n ha hn hb hn' k (i + 1) _ (by omega) (by rw [size_swp]; exact hh))
theorem swapRange_perm (d : Array α) (lo hi a b n : Nat) (ha : lo ≤ a) (hn : a + n ≤ hi) (hb : lo ≤ b) (hn' : b + n ≤ hi) (hh : hi ≤ d.size) : PermIn lo hi d (swapRange d a b n) := swapFrom_perm lo hi a b n ha hn hb hn' n 0 d (by omega) hh
theorem rotLoop_at (m : Nat) : ∀ (f i j : Nat) (d : Array α), i + j ≤ f → 0 < i → 0 < j → i ≤ m → m + j ≤ d.size → (rotLoop m f i j d).size = d.size ∧ ∀ x, (rotLoop m f i j d)[x]! = if m - i ≤ x ∧ x < m - i + j then d[x + i]! else if m - i + j ≤ x ∧ x < m + j then d[x - j]! else d[x]!
  | 0, i, j, d, h, h1, h2, _, _ => by omega
  | f + 1, i, j, d, h, h1, h2, h3, h4 => by
    rw [rotLoop]
    by_cases c : i = j
    · subst c
      rw [if_pos rfl]
      obtain ⟨s1, s2⟩ := swapRange_at d (m - i) m i (by omega) h4
      refine ⟨s1, fun x => ?_⟩
      rw [s2]
      by_cases c1 : m - i ≤ x ∧ x < m - i + i
      · rw [if_pos c1, if_pos c1, show x - (m - i) + m = x + i by omega]
      · rw [if_neg c1, if_neg c1]
        by_cases c2 : m ≤ x ∧ x < m + i
        · rw [if_pos c2, if_pos (by omega), show x - m + (m - i) = x - i by omega]
        · rw [if_neg c2, if_neg (by omega)]
    · rw [if_neg c]
      by_cases g : i > j
      · rw [if_pos g]
        obtain ⟨s1, s2⟩ := swapRange_at d (m - i) m j (by omega) h4
        obtain ⟨r1, r2⟩ := rotLoop_at m f (i - j) j (swapRange d (m - i) m j) (by omega) (by omega) h2 (by omega) (by rw [s1]; exact h4)
        refine ⟨r1.trans s1, fun x => ?_⟩
        rw [r2]
        by_cases c1 : m - i ≤ x ∧ x < m - i + j
        · rw [if_neg (by omega), if_neg (by omega), s2, if_pos c1, if_pos c1, show x - (m - i) + m = x + i by omega]
        · rw [if_neg c1]
          by_cases c2 : m - (i - j) ≤ x ∧ x < m - (i - j) + j
          · rw [if_pos c2, s2]
            by_cases c3 : x + (i - j) < m
            · rw [if_neg (by omega), if_neg (by omega), if_pos (by omega)]
              exact absurd c3 (by omega)
            · rw [if_neg (by omega), if_pos (by omega), if_pos (by omega), show x + (i - j) - m + (m - i) = x - j by omega]
          · rw [if_neg c2]
            by_cases c3 : m - (i - j) + j ≤ x ∧ x < m + j
            · rw [if_pos c3, if_pos (by omega), s2, if_neg (by omega), if_neg (by omega)]
            · rw [if_neg c3, if_neg (by omega), s2, if_neg (by omega), if_neg (by omega)]
      · rw [if_neg g]
        obtain ⟨s1, s2⟩ := swapRange_at d (m - i) (m + j - i) i (by omega) (by omega)
        obtain ⟨r1, r2⟩ := rotLoop_at m f i (j - i) (swapRange d (m - i) (m + j - i) i) (by omega) h1 (by omega) h3 (by rw [s1]; omega)
        refine ⟨r1.trans s1, fun x => ?_⟩
        rw [r2]
        by_cases c1 : m - i ≤ x ∧ x < m - i + (j - i)
        · rw [if_pos c1, if_pos (by omega), s2]
          rw [if_neg (by omega), if_neg (by omega)]
        · rw [if_neg c1]
          by_cases c2 : m - i + (j - i) ≤ x ∧ x < m + (j - i)
          · rw [if_pos c2, s2, if_pos (by omega), if_pos (by omega), show x - (j - i) - (m - i) + (m + j - i) = x + i by omega]
          · rw [if_neg c2, s2]
            by_cases c3 : m + j - i ≤ x ∧ x < m + j - i + i
            · rw [if_neg (by omega), if_pos c3, if_neg (by omega), if_pos (by omega), show x - (m + j - i) + (m - i) = x - j by omega]
            · rw [if_neg (by omega), if_neg c3, if_neg (by omega), if_neg (by omega)]
theorem rotLoop_perm (lo hi m : Nat) : ∀ (f i j : Nat) (d : Array α), i + j ≤ f → lo + i ≤ m → m + j ≤ hi → hi ≤ d.size → PermIn lo hi d (rotLoop m f i j d)
  | 0, i, j, d, _, _, _, _ => permIn_refl d lo hi
  | f + 1, i, j, d, h, h1, h2, h3 => by
    rw [rotLoop]
    split
    · exact swapRange_perm d lo hi _ _ _ (by omega) (by omega) (by omega) (by omega) h3
    · by_cases z : i = 0 ∨ j = 0
      · have key : ∀ (f i j : Nat) (d : Array α), (i = 0 ∨ j = 0) → rotLoop m f i j d = d := by
          intro f
          induction f with
          | zero => intro i j d _; rfl
          | succ f ih =>
            intro i j d hz
            rw [rotLoop]
            by_cases e : i = j
            · rw [if_pos e]; obtain rfl : i = 0 := by omega
              rfl
            · rw [if_neg e]
              split
              · obtain rfl : j = 0 := by omega
                rw [ih _ _ _ (.inr rfl)]; rfl
              · obtain rfl : i = 0 := by omega
                rw [ih _ _ _ (.inl rfl)]; rfl
        split
        · rename_i g
          obtain rfl : j = 0 := by omega
          rw [key _ _ _ _ (.inr rfl)]
          exact permIn_refl d lo hi
        · obtain rfl : i = 0 := by omega
          rw [key _ _ _ _ (.inl rfl)]
          exact permIn_refl d lo hi
      · split
        · have p := swapRange_perm d lo hi (m - i) m j (by omega) (by omega) (by omega) (by omega) h3
          exact permIn_trans _ _ _ _ _ p (rotLoop_perm lo hi m f (i - j) j _ (by omega) (by omega) h2 (by rw [p.1]; exact h3))
        · have p := swapRange_perm d lo hi (m - i) (m + j - i) i (by omega) (by omega) (by omega) (by omega) h3
          exact permIn_trans _ _ _ _ _ p (rotLoop_perm lo hi m f i (j - i) _ (by omega) h1 (by omega) (by rw [p.1]; exact h3))
theorem rotate_at (d : Array α) (a m b : Nat) (h1 : a < m) (h2 : m < b) (h3 : b ≤ d.size) : (rotate d a m b).size = d.size ∧ ∀ x, (rotate d a m b)[x]! = if a ≤ x ∧ x < a + (b - m) then d[x + (m - a)]! else if a + (b - m) ≤ x ∧ x < b then d[x - (b - m)]! else d[x]! := by
  have r := rotLoop_at m (m - a + (b - m)) (m - a) (b - m) d (aa _) (by omega) (by omega) (by omega) (by omega)
  refine ⟨r.1, fun x => ?_⟩
  rw [rotate, r.2, show m - (m - a) = a by omega, show m + (b - m) = b by omega]
theorem rotate_perm (d : Array α) (a m b : Nat) (h1 : a ≤ m) (h2 : m ≤ b) (h3 : b ≤ d.size) : PermIn a b d (rotate d a m b) := rotLoop_perm a b m _ _ _ d (aa _) (by omega) (by omega) h3
theorem bs_spec (p : Nat → Bool) : ∀ (f i j : Nat), j - i ≤ f → i ≤ j → let r := bs p f i j; i ≤ r ∧ r ≤ j ∧ (r = i ∨ p (r - 1) = true) ∧ (r = j ∨ p r = false)
  | 0, i, j, h, hij => by
    have : i = j := by omega
    subst this
    simp [bs]
  | f + 1, i, j, h, hij => by
    simp only [bs]
    by_cases c : i < j
    · rw [if_pos c]
      cases hp : p ((i + j) / 2)
      · have ih := bs_spec p f i ((i + j) / 2) (by omega) (by omega)
        simp only [Bool.false_eq_true, if_false]
        simp only at ih
        refine ⟨ih.1, by omega, ih.2.2.1, ih.2.2.2.elim (fun e => .inr (by rw [e]; exact hp)) .inr⟩
      · have ih := bs_spec p f ((i + j) / 2 + 1) j (by omega) (by omega)
        simp only [if_true]
        simp only at ih
        refine ⟨by omega, ih.2.1, ih.2.2.1.elim (fun e => .inr (by rw [e]; exact hp)) .inr, ih.2.2.2⟩
    · rw [if_neg c]
      have : i = j := by omega
      exact ⟨aa _, hij, .inl rfl, .inl this⟩
theorem up_at : ∀ (n k : Nat) (d : Array α), k + n < d.size → ∀ x, (up n k d)[x]! = if k ≤ x ∧ x < k + n then d[x + 1]! else if x = k + n then d[k]! else d[x]!
  | 0, k, d, h, x => by
    rw [up, if_neg (by omega)]
    split
    · rename_i e; rw [e]; rfl
    · rfl
  | n + 1, k, d, h, x => by
    rw [up, up_at n (k + 1) _ (by rw [size_swp]; omega)]
    by_cases c1 : k + 1 ≤ x ∧ x < k + 1 + n
    · rw [if_pos c1, if_pos (by omega), swp_other _ _ _ _ (by omega) (by omega)]
    · rw [if_neg c1]
      by_cases c2 : x = k + 1 + n
      · rw [if_pos c2, if_neg (by omega), if_pos (by omega), swp_right _ _ _ (by omega)]
      · rw [if_neg c2]
        by_cases c3 : x = k
        · subst c3
          rw [if_pos (by omega), swp_left _ _ _ (by omega) (by omega)]
        · rw [if_neg (by omega), if_neg (by omega), swp_other _ _ _ _ (by omega) (by omega)]
theorem up_perm (lo hi : Nat) : ∀ (n k : Nat) (d : Array α), lo ≤ k → k + n < hi → hi ≤ d.size → PermIn lo hi d (up n k d)
  | 0, k, d, _, _, _ => permIn_refl d lo hi
  | n + 1, k, d, h1, h2, h3 => permIn_trans _ _ _ _ _ (swp_permIn d lo hi k (k + 1) h1 (by omega) (by omega) (by omega) h3) (up_perm lo hi n (k + 1) _ (by omega) (by omega) (by rw [size_swp]; exact h3))
theorem down_at : ∀ (n k : Nat) (d : Array α), k < d.size → n ≤ k → ∀ x, (down n k d)[x]! = if k - n < x ∧ x ≤ k then d[x - 1]! else if x = k - n then d[k]! else d[x]!
  | 0, k, d, h, h2, x => by
    rw [down, if_neg (by omega)]
    split
    · rename_i e; rw [e]; rfl
    · rfl
  | n + 1, k, d, h, h2, x => by
    rw [down, down_at n (k - 1) _ (by rw [size_swp]; omega) (by omega)]
    by_cases c1 : k - 1 - n < x ∧ x ≤ k - 1
    · rw [if_pos c1, if_pos (by omega), swp_other _ _ _ _ (by omega) (by omega)]
    · rw [if_neg c1]
      by_cases c2 : x = k - 1 - n
      · rw [if_pos c2, if_neg (by omega), if_pos (by omega), swp_right _ _ _ (by omega)]
      · rw [if_neg c2]
        by_cases c3 : x = k
        · subst c3
          rw [if_pos (by omega), swp_left _ _ _ (by omega) (by omega)]
        · rw [if_neg (by omega), if_neg (by omega), swp_other _ _ _ _ (by omega) (by omega)]
theorem down_perm (lo hi : Nat) : ∀ (n k : Nat) (d : Array α), lo + n ≤ k → k < hi → hi ≤ d.size → PermIn lo hi d (down n k d)
  | 0, k, d, _, _, _ => permIn_refl d lo hi
  | n + 1, k, d, h1, h2, h3 => permIn_trans _ _ _ _ _ (swp_permIn d lo hi k (k - 1) (by omega) (by omega) (by omega) (by omega) h3) (down_perm lo hi n (k - 1) _ (by omega) (by omega) (by rw [size_swp]; exact h3))
section
variable (lt : α → α → Bool) (T : α → α → Prop)
/-- x stands ahead of y: what less tells of them is what the order says. -/
def Cross (x y : α) : Prop := (lt y x = true → T y x) ∧ (lt y x = false → T x y)
def Srt (a b : Nat) (d : Array α) : Prop := ∀ i j, a ≤ i → i < j → j < b → T d[i]! d[j]!
def Crs (a m b : Nat) (d : Array α) : Prop := ∀ i j, a ≤ i → i < m → m ≤ j → j < b → Cross lt T d[i]! d[j]!
variable {lt T}
theorem symMerge_spec (hT : ∀ x y z, T x y → T y z → T x z) : ∀ (f a m b : Nat) (d : Array α), b - a ≤ f → a < m → m < b → b ≤ d.size → Srt T a m d → Srt T m b d → Crs lt T a m b d → PermIn a b d (symMerge lt f a m b d) ∧ Srt T a b (symMerge lt f a m b d)
  | 0, a, m, b, d, h, h1, h2, _, _, _, _ => by omega
  | f + 1, a, m, b, d, h, h1, h2, h3, sl, sr, cr => by
    rw [symMerge]
    by_cases c1 : m - a = 1
    · rw [if_pos c1]
      have q := bs_spec (fun h => lt d[h]! d[a]!) (b - m) m b (aa _) (by omega)
      simp only at q
      generalize bs (fun h => lt d[h]! d[a]!) (b - m) m b = r at *
      obtain ⟨q1, q2, q3, q4⟩ := q
      refine ⟨up_perm a b _ _ d (aa _) (by omega) h3, fun i j hi hij hj => ?_⟩
      have lo : ∀ y, m ≤ y → y < r → T d[y]! d[a]! := fun y y1 y2 => by
        have t : T d[r - 1]! d[a]! := (cr a (r - 1) (by omega) (by omega) (by omega) (by omega)).1 (q3.resolve_left (by omega))
        by_cases e : y = r - 1
        · rw [e]; exact t
        · exact hT _ _ _ (sr y (r - 1) y1 (by omega) (by omega)) t
      have hi' : ∀ y, r ≤ y → y < b → T d[a]! d[y]! := fun y y1 y2 => by
        have t : T d[a]! d[r]! := (cr a r (by omega) (by omega) (by omega) (by omega)).2 (q4.resolve_left (by omega))
        by_cases e : y = r
        · rw [e]; exact t
        · exact hT _ _ _ t (sr r y (by omega) (by omega) y2)
      rw [up_at _ _ _ (by omega), up_at _ _ _ (by omega)]
      by_cases i1 : a ≤ i ∧ i < a + (r - 1 - a)
      · rw [if_pos i1]
        by_cases j1 : a ≤ j ∧ j < a + (r - 1 - a)
        · rw [if_pos j1]; exact sr _ _ (by omega) (by omega) (by omega)
        · rw [if_neg j1]
          by_cases j2 : j = a + (r - 1 - a)
          · rw [if_pos j2]; exact lo _ (by omega) (by omega)
          · rw [if_neg j2]; exact sr _ _ (by omega) (by omega) (by omega)
      · have j1 : ¬ (a ≤ j ∧ j < a + (r - 1 - a)) := by omega
        have j2 : ¬ j = a + (r - 1 - a) := by omega
        rw [if_neg i1, if_neg j1, if_neg j2]
        by_cases i2 : i = a + (r - 1 - a)
        · rw [if_pos i2]; exact hi' _ (by omega) hj
        · rw [if_neg i2]; exact sr _ _ (by omega) (by omega) (by omega)
    rw [if_neg c1]
    by_cases c2 : b - m = 1
    · rw [if_pos c2]
      have q := bs_spec (fun h => !lt d[m]! d[h]!) (m - a) a m (aa _) (by omega)
      simp only at q
      generalize bs (fun h => !lt d[m]! d[h]!) (m - a) a m = r at *
      obtain ⟨q1, q2, q3, q4⟩ := q
      refine ⟨down_perm a b _ _ d (by omega) (by omega) h3, fun i j hi hij hj => ?_⟩
      have lo : ∀ y, a ≤ y → y < r → T d[y]! d[m]! := fun y y1 y2 => by
        have t : T d[r - 1]! d[m]! := (cr (r - 1) m (by omega) (by omega) (by omega) (by omega)).2 (by simpa using q3.resolve_left (by omega))
        by_cases e : y = r - 1
        · rw [e]; exact t
        · exact hT _ _ _ (sl y (r - 1) y1 (by omega) (by omega)) t
      have hi' : ∀ y, r ≤ y → y < m → T d[m]! d[y]! := fun y y1 y2 => by
        have t : T d[m]! d[r]! := (cr r m (by omega) (by omega) (by omega) (by omega)).1 (by simpa using q4.resolve_left (by omega))
        by_cases e : y = r
        · rw [e]; exact t
        · exact hT _ _ _ t (sl r y (by omega) (by omega) y2)
      rw [down_at _ _ _ (by omega) (by omega), down_at _ _ _ (by omega) (by omega)]
      by_cases i1 : m - (m - r) < i ∧ i ≤ m
      · rw [if_pos i1, if_pos (by omega)]; exact sl _ _ (by omega) (by omega) (by omega)
      · rw [if_neg i1]
        by_cases i2 : i = m - (m - r)
        · rw [if_pos i2, if_pos (by omega)]; exact hi' _ (by omega) (by omega)
        · rw [if_neg i2]
          by_cases j1 : m - (m - r) < j ∧ j ≤ m
          · rw [if_pos j1]; exact sl _ _ (by omega) (by omega) (by omega)
          · rw [if_neg j1]
            by_cases j2 : j = m - (m - r)
            · rw [if_pos j2]; exact lo _ (by omega) (by omega)
            · rw [if_neg j2]; exact sl _ _ (by omega) (by omega) (by omega)
    rw [if_neg c2]
    simp only []
    obtain ⟨mid, hmid⟩ : ∃ z, z = (a + b) / 2 := ⟨_, rfl⟩
    rw [← hmid]
    obtain ⟨s0, hs0⟩ : ∃ z, z = if m > mid then mid + m - b else a := ⟨_, rfl⟩
    obtain ⟨r0, hr0⟩ : ∃ z, z = if m > mid then mid else m := ⟨_, rfl⟩
    rw [← hs0, ← hr0]
    have q := bs_spec (fun c => !lt d[mid + m - 1 - c]! d[c]!) (r0 - s0) s0 r0 (aa _) (by rw [hs0, hr0]; split <;> omega)
    simp only at q
    generalize bs (fun c => !lt d[mid + m - 1 - c]! d[c]!) (r0 - s0) s0 r0 = s at *
    obtain ⟨q1, q2, q3, q4⟩ := q
    obtain ⟨e, he⟩ : ∃ z, z = mid + m - s := ⟨_, rfl⟩
    rw [← he]
    -- where the cut lies
    have w : a ≤ s ∧ s ≤ m ∧ s ≤ mid ∧ m ≤ e ∧ e ≤ b ∧ s + e = mid + m := by
      by_cases g : m > mid
      · rw [if_pos g] at hs0 hr0; omega
      · rw [if_neg g] at hs0 hr0; omega
    obtain ⟨w1, w2, w3, w4, w5, w6⟩ := w
    have g1 : ∀ x y, a ≤ x → x < s → e ≤ y → y < b → T d[x]! d[y]! := fun x y x1 x2 y1 y2 => by
      have ne : s ≠ s0 := fun z => by
        by_cases g : m > mid
        · rw [if_pos g] at hs0; omega
        · rw [if_neg g] at hs0; omega
      have ee : mid + m - 1 - (s - 1) = e := by omega
      have t : T d[s - 1]! d[e]! := by
        have := q3.resolve_left ne
        try simp only at this
        rw [ee] at this
        exact (cr (s - 1) e (by omega) (by omega) (by omega) (by omega)).2 (by simpa using this)
      have t2 : T d[x]! d[e]! := by
        by_cases z : x = s - 1
        · rw [z]; exact t
        · exact hT _ _ _ (sl x (s - 1) x1 (by omega) (by omega)) t
      by_cases z : y = e
      · rw [z]; exact t2
      · exact hT _ _ _ t2 (sr e y w4 (by omega) y2)
    have g2 : ∀ x y, m ≤ x → x < e → s ≤ y → y < m → T d[x]! d[y]! := fun x y x1 x2 y1 y2 => by
      have ne : s ≠ r0 := fun z => by
        by_cases g : m > mid
        · rw [if_pos g] at hr0; omega
        · rw [if_neg g] at hr0; omega
      have ee : mid + m - 1 - s = e - 1 := by omega
      have t : T d[e - 1]! d[s]! := by
        have := q4.resolve_left ne
        try simp only at this
        rw [ee] at this
        exact (cr s (e - 1) (by omega) (by omega) (by omega) (by omega)).1 (by simpa using this)
      have t2 : T d[x]! d[s]! := by
        by_cases z : x = e - 1
        · rw [z]; exact t
        · exact hT _ _ _ (sr x (e - 1) x1 (by omega) (by omega)) t
      by_cases z : y = s
      · rw [z]; exact t2
      · exact hT _ _ _ t2 (sl s y w1 (by omega) y2)
    -- what the rotation leaves
    obtain ⟨d1, hd1⟩ : ∃ z, z = if s < m ∧ m < e then rotate d s m e else d := ⟨_, rfl⟩
    rw [← hd1]
    have at1 : d1.size = d.size ∧ PermIn a b d d1 ∧ ∀ x, d1[x]! = if s ≤ x ∧ x < mid then d[x + (m - s)]! else if mid ≤ x ∧ x < e then d[x - (e - m)]! else d[x]! := by
      by_cases g : s < m ∧ m < e
      · rw [if_pos g] at hd1
        have r := rotate_at d s m e g.1 g.2 (by omega)
        subst hd1
        refine ⟨r.1, permIn_mono _ _ s e a b w1 w5 h3 (rotate_perm d s m e w2 w4 (by omega)), fun x => ?_⟩
        rw [r.2, show s + (e - m) = mid by omega]
      · rw [if_neg g] at hd1
        subst hd1
        refine ⟨rfl, permIn_refl d1 a b, fun x => ?_⟩
        by_cases z : s = m
        · rw [show m - s = 0 by omega, Nat.add_zero]
          by_cases z2 : s ≤ x ∧ x < mid
          · rw [if_pos z2]
          · rw [if_neg z2, if_neg (by omega)]
        · have : m = e := by omega
          rw [if_neg (by omega), show e - m = 0 by omega, Nat.sub_zero]
          split <;> rfl
    obtain ⟨z1, p1, v1⟩ := at1
    clear hd1
    have sA : Srt T a s d1 := fun i j i1 ij j1 => by
      rw [v1, v1, if_neg (by omega), if_neg (by omega), if_neg (by omega), if_neg (by omega)]
      exact sl i j i1 ij (by omega)
    have sB : Srt T s mid d1 := fun i j i1 ij j1 => by
      rw [v1, v1, if_pos (by omega), if_pos (by omega)]
      exact sr _ _ (by omega) (by omega) (by omega)
    have sC : Srt T mid e d1 := fun i j i1 ij j1 => by
      rw [v1, v1, if_neg (by omega), if_pos (by omega), if_neg (by omega), if_pos (by omega)]
      exact sl _ _ (by omega) (by omega) (by omega)
    have sD : Srt T e b d1 := fun i j i1 ij j1 => by
      rw [v1, v1, if_neg (by omega), if_neg (by omega), if_neg (by omega), if_neg (by omega)]
      exact sr i j (by omega) ij j1
    have cAB : Crs lt T a s mid d1 := fun i j i1 i2 j1 j2 => by
      rw [v1 i, v1 j, if_neg (by omega), if_neg (by omega), if_pos (by omega)]
      exact cr _ _ (by omega) (by omega) (by omega) (by omega)
    have cCD : Crs lt T mid e b d1 := fun i j i1 i2 j1 j2 => by
      rw [v1 i, v1 j, if_neg (by omega), if_pos (by omega), if_neg (by omega), if_neg (by omega)]
      exact cr _ _ (by omega) (by omega) (by omega) (by omega)
    have half : ∀ i, a ≤ i → i < mid → ∀ j, mid ≤ j → j < b → T d1[i]! d1[j]! := fun i i1 i2 j j1 j2 => by
      rw [v1 i, v1 j]
      by_cases x1 : s ≤ i ∧ i < mid
      · rw [if_pos x1, if_neg (by omega)]
        by_cases y1 : mid ≤ j ∧ j < e
        · rw [if_pos y1]; exact g2 _ _ (by omega) (by omega) (by omega) (by omega)
        · rw [if_neg y1]; exact sr _ _ (by omega) (by omega) (by omega)
      · rw [if_neg x1, if_neg (by omega), if_neg (by omega)]
        by_cases y1 : mid ≤ j ∧ j < e
        · rw [if_pos y1]; exact sl _ _ (by omega) (by omega) (by omega)
        · rw [if_neg y1]; exact g1 _ _ (by omega) (by omega) (by omega) (by omega)
    -- the first half
    obtain ⟨d2, hd2⟩ : ∃ z, z = if a < s ∧ s < mid then symMerge lt f a s mid d1 else d1 := ⟨_, rfl⟩
    rw [← hd2]
    have at2 : PermIn a mid d1 d2 ∧ Srt T a mid d2 := by
      by_cases g : a < s ∧ s < mid
      · rw [if_pos g] at hd2
        rw [hd2]
        exact symMerge_spec hT f a s mid d1 (by omega) g.1 g.2 (by omega) sA sB cAB
      · rw [if_neg g] at hd2
        subst hd2
        refine ⟨permIn_refl _ _ _, fun i j i1 ij j1 => ?_⟩
        by_cases z : a = s
        · exact sB i j (by omega) ij j1
        · exact sA i j i1 ij (by omega)
    obtain ⟨p2, s2⟩ := at2
    clear hd2
    have z2 := p2.1
    obtain ⟨d3, hd3⟩ : ∃ z, z = if mid < e ∧ e < b then symMerge lt f mid e b d2 else d2 := ⟨_, rfl⟩
    rw [← hd3]
    have o2 : ∀ x, mid ≤ x → d2[x]! = d1[x]! := fun x hx => p2.2.1 x (.inr hx)
    have at3 : PermIn mid b d2 d3 ∧ Srt T mid b d3 := by
      by_cases g : mid < e ∧ e < b
      · rw [if_pos g] at hd3
        rw [hd3]
        refine symMerge_spec hT f mid e b d2 (by omega) g.1 g.2 (by omega) (fun i j i1 ij j1 => ?_) (fun i j i1 ij j1 => ?_) (fun i j i1 i2 j1 j2 => ?_)
        · rw [o2 i (by omega), o2 j (by omega)]; exact sC i j i1 ij j1
        · rw [o2 i (by omega), o2 j (by omega)]; exact sD i j i1 ij j1
        · rw [o2 i (by omega), o2 j (by omega)]; exact cCD i j i1 i2 j1 j2
      · rw [if_neg g] at hd3
        subst hd3
        refine ⟨permIn_refl _ _ _, fun i j i1 ij j1 => ?_⟩
        rw [o2 i (by omega), o2 j (by omega)]
        by_cases z : mid = e
        · exact sD i j (by omega) ij j1
        · exact sC i j i1 ij (by omega)
    obtain ⟨p3, s3⟩ := at3
    clear hd3
    refine ⟨permIn_trans _ _ _ _ _ p1 (permIn_trans _ _ _ _ _ (permIn_mono _ _ a mid a b (aa _) (by omega) (by omega) p2) (permIn_mono _ _ mid b a b (by omega) (aa _) (by omega) p3)), ?_⟩
    have o3 : ∀ x, x < mid → d3[x]! = d2[x]! := fun x hx => p3.2.1 x (.inl hx)
    intro i j i1 ij j1
    by_cases y1 : j < mid
    · rw [o3 i (by omega), o3 j y1]; exact s2 i j i1 ij y1
    · by_cases x1 : mid ≤ i
      · exact s3 i j x1 ij j1
      · rw [o3 i (by omega)]
        refine permIn_all d2 d3 mid b (fun y => T d2[i]! y) (by omega) p3 (fun y y2 y3 => ?_) j (by omega) j1
        rw [o2 y y2]
        exact permIn_all d1 d2 a mid (fun x => T x d1[y]!) (by omega) p2 (fun x x2 x3 => half x x2 x3 y y2 y3) i i1 (by omega)
end
section
variable {lt : α → α → Bool} {T : α → α → Prop}
theorem insInner_spec (hT : ∀ x y z, T x y → T y z → T x z) (a b i : Nat) (hib : i < b) : ∀ (j : Nat) (d : Array α), a ≤ j → j ≤ i → b ≤ d.size → Srt T a j d → Srt T (j + 1) (i + 1) d → (∀ x, a ≤ x → x < j → ∀ y, j < y → y ≤ i → T d[x]! d[y]!) → (∀ y, j < y → y ≤ i → T d[j]! d[y]!) → (∀ x, a ≤ x → x < j → Cross lt T d[x]! d[j]!) → PermIn a b d (insInner lt a j d) ∧ Srt T a (i + 1) (insInner lt a j d)
  | 0, d, haj, hji, hb, s1, s2, s3, s4, s5 => by
    unfold insInner
    refine ⟨permIn_refl d a b, fun p q hp hpq hq => ?_⟩
    by_cases e : p = 0
    · subst e; exact s4 q (by omega) (by omega)
    · exact s2 p q (by omega) hpq hq
  | j + 1, d, haj, hji, hb, s1, s2, s3, s4, s5 => by
    have done : (a = j + 1 ∨ T d[j]! d[j + 1]!) → Srt T a (i + 1) d := fun hh p q hp hpq hq => by
      by_cases e1 : p < j + 1
      · have t : T d[p]! d[j + 1]! := by
          have t0 := hh.resolve_left (by omega)
          by_cases e : p = j
          · rw [e]; exact t0
          · exact hT _ _ _ (s1 p j hp (by omega) (by omega)) t0
        by_cases e2 : q < j + 1
        · exact s1 p q hp hpq e2
        · by_cases e3 : q = j + 1
          · rw [e3]; exact t
          · exact s3 p hp e1 q (by omega) (by omega)
      · by_cases e3 : p = j + 1
        · rw [e3]; exact s4 q (by omega) (by omega)
        · exact s2 p q (by omega) hpq hq
    unfold insInner
    by_cases c : j + 1 > a
    · have cr := s5 j (by omega) (by omega)
      cases hl : lt d[j + 1]! d[j]!
      · rw [if_neg (by simp)]
        exact ⟨permIn_refl d a b, done (.inr (cr.2 hl))⟩
      · rw [if_pos (by simp [c])]
        have t := cr.1 hl
        have L : (swp d (j + 1) j)[j + 1]! = d[j]! := swp_left _ _ _ (by omega) (by omega)
        have R : (swp d (j + 1) j)[j]! = d[j + 1]! := swp_right _ _ _ (by omega)
        have O : ∀ x, x ≠ j → x ≠ j + 1 → (swp d (j + 1) j)[x]! = d[x]! := fun x h1 h2 => swp_other _ _ _ _ h2 h1
        have ih := insInner_spec hT a b i hib j (swp d (j + 1) j) (by omega) (by omega) (by rw [size_swp]; exact hb)
          (fun p q hp hpq hq => by rw [O p (by omega) (by omega), O q (by omega) (by omega)]; exact s1 p q hp hpq (by omega))
          (fun p q hp hpq hq => by
            rw [O q (by omega) (by omega)]
            by_cases e : p = j + 1
            · rw [e, L]; exact s3 j (by omega) (by omega) q (by omega) (by omega)
            · rw [O p (by omega) e]; exact s2 p q (by omega) hpq hq)
          (fun x hx1 hx2 y hy1 hy2 => by
            rw [O x (by omega) (by omega)]
            by_cases e : y = j + 1
            · rw [e, L]; exact s1 x j hx1 hx2 (by omega)
            · rw [O y (by omega) e]; exact s3 x hx1 (by omega) y (by omega) hy2)
          (fun y hy1 hy2 => by
            rw [R]
            by_cases e : y = j + 1
            · rw [e, L]; exact t
            · rw [O y (by omega) e]; exact s4 y (by omega) hy2)
          (fun x hx1 hx2 => by rw [R, O x (by omega) (by omega)]; exact s5 x hx1 (by omega))
        exact ⟨permIn_trans _ _ _ _ _ (swp_permIn d a b (j + 1) j haj (by omega) (by omega) (by omega) hb) ih.1, ih.2⟩
    · rw [if_neg (by simp [c])]
      exact ⟨permIn_refl d a b, done (.inl (by omega))⟩
theorem insOuter_spec (hT : ∀ x y z, T x y → T y z → T x z) (a b : Nat) : ∀ (n i : Nat) (d : Array α), b - i = n → a < i → i ≤ b → b ≤ d.size → Srt T a i d → (∀ x y, a ≤ x → x < y → i ≤ y → y < b → Cross lt T d[x]! d[y]!) → PermIn a b d (insOuter lt a b i d) ∧ Srt T a b (insOuter lt a b i d)
  | 0, i, d, hn, ha, hb, hd, s, c => by
    have : i = b := by omega
    subst this
    unfold insOuter
    rw [if_neg (by omega)]
    exact ⟨permIn_refl d a i, s⟩
  | n + 1, i, d, hn, ha, hb, hd, s, c => by
    unfold insOuter
    rw [if_pos (by omega)]
    have q := insInner_spec (lt := lt) hT a (i + 1) i (by omega) i d (by omega) (aa _) (by omega) s (fun p q h1 h2 h3 => by omega) (fun x h1 h2 y h3 h4 => by omega) (fun y h1 h2 => by omega) (fun x h1 h2 => c x i h1 h2 (aa _) (by omega))
    have o : ∀ x, i + 1 ≤ x → (insInner lt a i d)[x]! = d[x]! := fun x hx => q.1.2.1 x (.inr hx)
    have ih := insOuter_spec hT a b n (i + 1) (insInner lt a i d) (by omega) (by omega) (by omega) (by rw [q.1.1]; exact hd) q.2 (fun x y h1 h2 h3 h4 => by
      rw [o y h3]
      by_cases e : x < i + 1
      · exact permIn_all d _ a (i + 1) (fun z => Cross lt T z d[y]!) (by omega) q.1 (fun z z1 z2 => c z y z1 (by omega) (by omega) h4) x h1 e
      · rw [o x (by omega)]; exact c x y h1 h2 (by omega) h4)
    exact ⟨permIn_trans _ _ _ _ _ (permIn_mono _ _ a (i + 1) a b (aa _) (by omega) hd q.1) ih.1, ih.2⟩
theorem insertion_spec (hT : ∀ x y z, T x y → T y z → T x z) (a b : Nat) (d : Array α) (hab : a ≤ b) (hb : b ≤ d.size) (c : ∀ x y, a ≤ x → x < y → y < b → Cross lt T d[x]! d[y]!) : PermIn a b d (insertionSort lt d a b) ∧ Srt T a b (insertionSort lt d a b) := by
  unfold insertionSort
  by_cases h : a = b
  · subst h
    unfold insOuter
    rw [if_neg (by omega)]
    exact ⟨permIn_refl d a a, fun p q h1 h2 h3 => by omega⟩
  · exact insOuter_spec hT a b _ (a + 1) d rfl (by omega) (by omega) hb (fun p q h1 h2 h3 => by omega) (fun x y h1 h2 h3 h4 => c x y h1 h2 h4)
/-- each ahead of the place c stands ahead of each behind it -/
def Bnd (lt : α → α → Bool) (T : α → α → Prop) (n c : Nat) (d : Array α) : Prop := ∀ i j, i < c → c ≤ j → j < n → Cross lt T d[i]! d[j]!
theorem Bnd.perm {n c lo hi : Nat} {d d' : Array α} (h : Bnd lt T n c d) (p : PermIn lo hi d d') (hh : hi ≤ d.size) (hn : hi ≤ n) (hc : hi ≤ c ∨ c ≤ lo) : Bnd lt T n c d' := by
  intro i j h1 h2 h3
  rcases hc with hc | hc
  · rw [p.2.1 j (.inr (by omega))]
    by_cases e : lo ≤ i ∧ i < hi
    · exact permIn_all d d' lo hi (fun z => Cross lt T z d[j]!) hh p (fun z z1 z2 => h z j (by omega) h2 h3) i e.1 e.2
    · rw [p.2.1 i (by omega)]; exact h i j h1 h2 h3
  · rw [p.2.1 i (.inl (by omega))]
    by_cases e : lo ≤ j ∧ j < hi
    · exact permIn_all d d' lo hi (fun z => Cross lt T d[i]! z) hh p (fun z z1 z2 => h i z h1 (by omega) (by omega)) j e.1 e.2
    · rw [p.2.1 j (by omega)]; exact h i j h1 h2 h3
theorem Srt.out {a b lo hi : Nat} {d d' : Array α} (h : Srt T a b d) (p : PermIn lo hi d d') (hc : b ≤ lo ∨ hi ≤ a) : Srt T a b d' := fun i j h1 h2 h3 => by
  rw [p.2.1 i (by omega), p.2.1 j (by omega)]
  exact h i j h1 h2 h3
/-- blocks of z from a on: each in order, and each ahead of the next -/
def Blk (lt : α → α → Bool) (T : α → α → Prop) (n z : Nat) (d : Array α) : Prop := ∀ q, Srt T (q * z) (min ((q + 1) * z) n) d ∧ Bnd lt T n (q * z) d
theorem firsts_spec (hT : ∀ x y z, T x y → T y z → T x z) (n : Nat) : ∀ (f k : Nat) (d : Array α), n ≤ d.size → n ≤ f + k * 20 → (∀ q, q < k → Srt T (q * 20) ((q + 1) * 20) d) → (∀ q, q ≤ k → Bnd lt T n (q * 20) d) → (∀ x y, k * 20 ≤ x → x < y → y < n → Cross lt T d[x]! d[y]!) → k * 20 ≤ n →
    ∃ k', (firsts lt n f (k * 20) d).1 = k' * 20 ∧ k' * 20 ≤ n ∧ n < k' * 20 + 20 ∧ PermIn 0 n d (firsts lt n f (k * 20) d).2 ∧ (∀ q, q < k' → Srt T (q * 20) ((q + 1) * 20) (firsts lt n f (k * 20) d).2) ∧ (∀ q, q ≤ k' → Bnd lt T n (q * 20) (firsts lt n f (k * 20) d).2) ∧ (∀ x y, k' * 20 ≤ x → x < y → y < n → Cross lt T (firsts lt n f (k * 20) d).2[x]! (firsts lt n f (k * 20) d).2[y]!)
  | 0, k, d, hn, hf, h1, h2, h3, h4 => ⟨k, rfl, h4, by omega, permIn_refl d 0 n, h1, h2, h3⟩
  | f + 1, k, d, hn, hf, h1, h2, h3, h4 => by
    rw [firsts]
    by_cases c : k * 20 + 20 ≤ n
    · rw [if_pos c]
      have s := insertion_spec hT (k * 20) (k * 20 + 20) d (by omega) (by omega) (fun x y x1 x2 x3 => h3 x y x1 x2 (by omega))
      have bk : Bnd lt T n (k * 20 + 20) (insertionSort lt d (k * 20) (k * 20 + 20)) := fun i j i1 j1 j2 => by
        rw [s.1.2.1 j (.inr j1)]
        by_cases e : k * 20 ≤ i
        · exact permIn_all d _ _ _ (fun z => Cross lt T z d[j]!) (by omega) s.1 (fun z z1 z2 => h3 z j z1 (by omega) j2) i e i1
        · rw [s.1.2.1 i (by omega)]; exact h2 k (aa _) i j (by omega) (by omega) j2
      have ih := firsts_spec hT n f (k + 1) (insertionSort lt d (k * 20) (k * 20 + 20)) (by rw [s.1.1]; exact hn) (by omega)
        (fun q hq => by
          by_cases e : q = k
          · subst e; rw [show (q + 1) * 20 = q * 20 + 20 by omega]; exact s.2
          · exact (h1 q (by omega)).out s.1 (.inl (by omega)))
        (fun q hq => by
          by_cases e : q = k + 1
          · subst e; rw [show (k + 1) * 20 = k * 20 + 20 by omega]; exact bk
          · exact (h2 q (by omega)).perm s.1 (by omega) c (.inr (by omega)))
        (fun x y x1 x2 x3 => by rw [s.1.2.1 x (.inr (by omega)), s.1.2.1 y (.inr (by omega))]; exact h3 x y (by omega) x2 x3) (by omega)
      rw [show (k + 1) * 20 = k * 20 + 20 by omega] at ih
      obtain ⟨k', i1, i2, i3, i4, i5⟩ := ih
      exact ⟨k', i1, i2, i3, permIn_trans _ _ _ _ _ (permIn_mono _ _ _ _ 0 n (by omega) c hn s.1) i4, i5⟩
    · rw [if_neg c]
      exact ⟨k, rfl, h4, by omega, permIn_refl d 0 n, h1, h2, h3⟩
theorem mul2 (q z : Nat) : q * (2 * z) = 2 * q * z := by rw [← Nat.mul_assoc, Nat.mul_comm q 2]
theorem pass_spec (hT : ∀ x y z, T x y → T y z → T x z) (n z : Nat) (hz : 0 < z) : ∀ (f k : Nat) (d : Array α), n ≤ d.size → n ≤ f + k * (2 * z) → (∀ q, q < k → Srt T (q * (2 * z)) ((q + 1) * (2 * z)) d) → (∀ q, 2 * k ≤ q → Srt T (q * z) (min ((q + 1) * z) n) d) → (∀ q, Bnd lt T n (q * (2 * z)) d) → (∀ q, 2 * k ≤ q → Bnd lt T n (q * z) d) → k * (2 * z) ≤ n →
    ∃ k', (pass lt n z f (k * (2 * z)) d).1 = k' * (2 * z) ∧ k' * (2 * z) ≤ n ∧ n < k' * (2 * z) + 2 * z ∧ PermIn 0 n d (pass lt n z f (k * (2 * z)) d).2 ∧ (∀ q, q < k' → Srt T (q * (2 * z)) ((q + 1) * (2 * z)) (pass lt n z f (k * (2 * z)) d).2) ∧ (∀ q, 2 * k' ≤ q → Srt T (q * z) (min ((q + 1) * z) n) (pass lt n z f (k * (2 * z)) d).2) ∧ (∀ q, Bnd lt T n (q * (2 * z)) (pass lt n z f (k * (2 * z)) d).2) ∧ (∀ q, 2 * k' ≤ q → Bnd lt T n (q * z) (pass lt n z f (k * (2 * z)) d).2)
  | 0, k, d, hn, hf, h1, h2, h3, h4, h5 => ⟨k, rfl, h5, by omega, permIn_refl d 0 n, h1, h2, h3, h4⟩
  | f + 1, k, d, hn, hf, h1, h2, h3, h4, h5 => by
    rw [pass]
    by_cases c : k * (2 * z) + 2 * z ≤ n
    · rw [if_pos c]
      obtain ⟨A, hA⟩ : ∃ A, A = k * (2 * z) := ⟨_, rfl⟩
      have e0 : 2 * k * z = A := by rw [hA, mul2]
      have e1 : (2 * k + 1) * z = A + z := by rw [Nat.add_mul, e0, Nat.one_mul]
      have e2 : (2 * k + 1 + 1) * z = A + 2 * z := by rw [Nat.add_mul, e1, Nat.one_mul]; omega
      have e3 : (k + 1) * (2 * z) = A + 2 * z := by rw [Nat.add_mul, Nat.one_mul, hA]
      have s0 := h2 (2 * k) (aa _)
      have s1 := h2 (2 * k + 1) (by omega)
      rw [e0, e1, Nat.min_eq_left (by omega)] at s0
      rw [e1, e2, Nat.min_eq_left (by omega)] at s1
      have b1 := h4 (2 * k + 1) (by omega)
      rw [e1] at b1
      rw [← hA] at c hf h5 ⊢
      have s := symMerge_spec hT (2 * z) A (A + z) (A + 2 * z) d (by omega) (by omega) (by omega) (by omega) s0 s1 (fun i j i1 i2 j1 j2 => b1 i j i2 j1 (by omega))
      have far : ∀ q, 2 * (k + 1) ≤ q → A + 2 * z ≤ q * z := fun q hq => by
        rw [← e2]; exact Nat.mul_le_mul_right z (by omega)
      have ih := pass_spec hT n z hz f (k + 1) (symMerge lt (2 * z) A (A + z) (A + 2 * z) d) (by rw [s.1.1]; exact hn) (by rw [e3]; omega)
        (fun q hq => by
          by_cases e : q = k
          · subst e; rw [e3, ← hA]; exact s.2
          · have : (q + 1) * (2 * z) ≤ A := by rw [hA]; exact Nat.mul_le_mul_right _ (by omega)
            exact (h1 q (by omega)).out s.1 (.inl this))
        (fun q hq => (h2 q (by omega)).out s.1 (.inr (far q hq)))
        (fun q => (h3 q).perm s.1 (by omega) c (by
          by_cases e : q ≤ k
          · exact .inr (by rw [hA]; exact Nat.mul_le_mul_right _ e)
          · exact .inl (by rw [← e3]; exact Nat.mul_le_mul_right _ (by omega))))
        (fun q hq => (h4 q (by omega)).perm s.1 (by omega) c (.inl (far q hq))) (by rw [e3]; exact c)
      rw [e3] at ih
      obtain ⟨k', i1, i2, i3, i4, i5⟩ := ih
      exact ⟨k', i1, i2, i3, permIn_trans _ _ _ _ _ (permIn_mono _ _ _ _ 0 n (by omega) c hn s.1) i4, i5⟩
    · rw [if_neg c]
      exact ⟨k, rfl, h5, by omega, permIn_refl d 0 n, h1, h2, h3, h4⟩
theorem Srt.sub {a b a' b' : Nat} {d : Array α} (h : Srt T a b d) (h1 : a ≤ a') (h2 : b' ≤ b) : Srt T a' b' d := fun i j i1 i2 i3 => h i j (by omega) i2 (by omega)
theorem round_spec (hT : ∀ x y z, T x y → T y z → T x z) (n z : Nat) (hz : 0 < z) (d : Array α) (hn : n ≤ d.size) (h : Blk lt T n z d) : PermIn 0 n d (round lt n z d) ∧ Blk lt T n (2 * z) (round lt n z d) := by
  have p := pass_spec hT n z hz n 0 d hn (by omega) (fun q hq => by omega) (fun q _ => (h q).1) (fun q => by rw [mul2]; exact (h (2 * q)).2) (fun q _ => (h q).2) (by omega)
  rw [Nat.zero_mul] at p
  unfold round
  simp only []
  generalize pass lt n z n 0 d = q at *
  obtain ⟨k, e, h1, h2, h3, h4, h5, h6, h7⟩ := p
  obtain ⟨A, hA⟩ : ∃ A, A = k * (2 * z) := ⟨_, rfl⟩
  have e0 : 2 * k * z = A := by rw [hA, mul2]
  have e1 : (2 * k + 1) * z = A + z := by rw [Nat.add_mul, e0, Nat.one_mul]
  have e2 : (2 * k + 1 + 1) * z = A + 2 * z := by rw [Nat.add_mul, e1, Nat.one_mul]; omega
  have e3 : (k + 1) * (2 * z) = A + 2 * z := by rw [Nat.add_mul, Nat.one_mul, hA]
  rw [e]
  rw [← hA] at h1 h2 ⊢
  have s0 := h5 (2 * k) (aa _)
  have s1 := h5 (2 * k + 1) (by omega)
  rw [e0, e1] at s0
  rw [e1, e2, Nat.min_eq_right (by omega)] at s1
  have fin : ∀ d' : Array α, PermIn A n q.2 d' → Srt T A n d' → PermIn 0 n d d' ∧ Blk lt T n (2 * z) d' := fun d' p s => by
    refine ⟨permIn_trans _ _ _ _ _ h3 (permIn_mono _ _ A n 0 n (by omega) (aa _) (by rw [h3.1]; exact hn) p), fun t => ⟨?_, ?_⟩⟩
    · by_cases c : t < k
      · have : (t + 1) * (2 * z) ≤ A := by rw [hA]; exact Nat.mul_le_mul_right _ (by omega)
        rw [Nat.min_eq_left (by omega)]
        exact (h4 t c).out p (.inl this)
      · by_cases c2 : t = k
        · subst c2
          rw [← hA]
          exact s.sub (aa _) (Nat.min_le_right _ _)
        · have : (k + 1) * (2 * z) ≤ t * (2 * z) := Nat.mul_le_mul_right _ (by omega)
          intro i j i1 i2 i3
          have := Nat.min_le_right ((t + 1) * (2 * z)) n
          omega
    · by_cases c : t ≤ k
      · exact (h6 t).perm p (by rw [h3.1]; exact hn) (aa _) (.inr (by rw [hA]; exact Nat.mul_le_mul_right _ c))
      · have : (k + 1) * (2 * z) ≤ t * (2 * z) := Nat.mul_le_mul_right _ (by omega)
        intro i j i1 j1 j2
        omega
  by_cases c : A + z < n
  · rw [if_pos c]
    rw [Nat.min_eq_left (by omega)] at s0
    have b1 := h7 (2 * k + 1) (by omega)
    rw [e1] at b1
    have s := symMerge_spec hT (2 * z) A (A + z) n q.2 (by omega) (by omega) c (by rw [h3.1]; exact hn) s0 s1 (fun i j i1 i2 j1 j2 => b1 i j i2 j1 j2)
    exact fin _ s.1 s.2
  · rw [if_neg c]
    rw [Nat.min_eq_right (by omega)] at s0
    exact fin _ (permIn_refl _ _ _) s0
theorem merges_spec (hT : ∀ x y z, T x y → T y z → T x z) (n : Nat) : ∀ (f z : Nat) (d : Array α), 0 < z → n ≤ f + z → n ≤ d.size → Blk lt T n z d → PermIn 0 n d (merges lt n f z d) ∧ Srt T 0 n (merges lt n f z d)
  | 0, z, d, hz, hf, hn, h => by
    have := (h 0).1
    rw [Nat.zero_mul, Nat.zero_add, Nat.one_mul, Nat.min_eq_right (by omega)] at this
    exact ⟨permIn_refl d 0 n, this⟩
  | f + 1, z, d, hz, hf, hn, h => by
    rw [merges]
    by_cases c : z < n
    · rw [if_pos c]
      have r := round_spec hT n z hz d hn h
      have ih := merges_spec hT n f (2 * z) (round lt n z d) (by omega) (by omega) (by rw [r.1.1]; exact hn) r.2
      exact ⟨permIn_trans _ _ _ _ _ r.1 ih.1, ih.2⟩
    · rw [if_neg c]
      have := (h 0).1
      rw [Nat.zero_mul, Nat.zero_add, Nat.one_mul, Nat.min_eq_right (by omega)] at this
      exact ⟨permIn_refl d 0 n, this⟩
/-- what is sorted so is in order, and what it was -/
theorem stable_spec (hT : ∀ x y z, T x y → T y z → T x z) (n : Nat) (d : Array α) (hn : n ≤ d.size) (h : ∀ x y, x < y → y < n → Cross lt T d[x]! d[y]!) : PermIn 0 n d (stable lt d n) ∧ Srt T 0 n (stable lt d n) := by
  have p := firsts_spec hT n n 0 d hn (by omega) (fun q hq => by omega) (fun q hq i j i1 j1 j2 => by omega) (fun x y _ x2 x3 => h x y x2 x3) (by omega)
  rw [Nat.zero_mul] at p
  unfold stable
  simp only []
  generalize firsts lt n n 0 d = q at *
  obtain ⟨k, e, h1, h2, h3, h4, h5, h6⟩ := p
  rw [e]
  have s := insertion_spec hT (k * 20) n q.2 h1 (by rw [h3.1]; exact hn) (fun x y x1 x2 x3 => h6 x y x1 x2 x3)
  have sz : n ≤ (insertionSort lt q.2 (k * 20) n).size := by rw [s.1.1, h3.1]; exact hn
  have m := merges_spec (lt := lt) hT n n 20 (insertionSort lt q.2 (k * 20) n) (by omega) (by omega) sz (fun t => ⟨by
    by_cases c : t < k
    · rw [Nat.min_eq_left (by omega)]
      exact (h4 t c).out s.1 (.inl (by omega))
    · by_cases c2 : t = k
      · subst c2; exact s.2.sub (aa _) (Nat.min_le_right _ _)
      · intro i j i1 i2 i3
        have := Nat.min_le_right ((t + 1) * 20) n
        omega, by
    by_cases c : t ≤ k
    · exact (h5 t c).perm s.1 (by rw [h3.1]; exact hn) (aa _) (.inr (by omega))
    · intro i j i1 j1 j2
      omega⟩)
  exact ⟨permIn_trans _ _ _ _ _ h3 (permIn_trans _ _ _ _ _ (permIn_mono _ _ _ _ 0 n (by omega) (aa _) (by rw [h3.1]; exact hn) s.1) m.1), m.2⟩
end
end Go.Stab
