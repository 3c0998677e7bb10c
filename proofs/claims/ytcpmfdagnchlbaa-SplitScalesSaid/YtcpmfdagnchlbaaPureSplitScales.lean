/- The Go law SplitScales answers true at all totals, weights and factors: weights that are all so many times as great split alike. Conditions: none beyond the given statement's own. -/
import Derived.Test.YtcpmfdagnchlbaaPx11
namespace Go.Proofs.Ytcpmfdagnchlbaa.Pure
open Go.RowKit Go.Proofs.Ytcpmfdagnchlbaa.P Go.Proofs.YtcpmfdagnchlbaaW.PrintWords Go.Proofs.YtcpmfdagnchlbaaW.PrintLast
set_option linter.unusedVariables false
set_option linter.unusedSimpArgs false
theorem scales_sum (b : Int) : ∀ l : List Int, (l.map (fun x => x * b)).sum = l.sum * b
  | [] => by simp
  | x :: r => by simp only [List.map_cons, List.sum_cons, scales_sum b r, Int.add_mul]
theorem scales_res {a b : Int} {l : List Int} (hb : 1 ≤ b ∧ b ≤ 1000) (hl : ∀ w ∈ l, 0 ≤ w ∧ w ≤ 10000000000) : Shr.res a (l.map (fun x => x * b)) = Shr.res a l := by
  have hs := scales_sum b l
  have nn : 0 ≤ l.sum := (Shr.sum_nn (fun w hw => ⟨(hl w hw).1, by have := (hl w hw).2; omega⟩)).1
  have hpos : 0 < (l.map (fun x => x * b)).sum ↔ 0 < l.sum := by
    rw [hs]
    constructor
    · intro h
      refine Classical.byContradiction fun hn => ?_
      have : l.sum = 0 := by omega
      rw [this] at h
      simp at h
    · intro h
      exact Int.mul_pos h (by omega)
  have hmay : Shr.may a (l.map (fun x => x * b)) ↔ Shr.may a l := by
    unfold Shr.may
    rw [List.length_map, hpos]
    constructor
    · rintro ⟨h1, h2, h3, h4, h5⟩
      exact ⟨h1, h2, h3, fun w hw => ⟨(hl w hw).1, by have := (hl w hw).2; omega⟩, h5⟩
    · rintro ⟨h1, h2, h3, h4, h5⟩
      refine ⟨h1, h2, h3, ?_, h5⟩
      intro w hw
      obtain ⟨x, hx, rfl⟩ := List.mem_map.mp hw
      have hx := hl x hx
      have p0 : 0 ≤ x * b := Int.mul_nonneg hx.1 (by omega)
      have p1 : x * b ≤ 10000000000 * 1000 := Int.mul_le_mul hx.2 hb.2 (by omega) (by decide)
      omega
  unfold Shr.res
  by_cases h : Shr.may a l
  · rw [if_pos h, if_pos (hmay.mpr h)]
    have hq : Shr.qs a (l.map (fun x => x * b)).sum (l.map (fun x => x * b)) = Shr.qs a l.sum l := by
      unfold Shr.qs
      rw [hs, List.map_map]
      apply List.map_congr_left
      intro x hx
      simp only [Function.comp]
      rw [← Int.mul_assoc, Int.mul_ediv_mul_of_pos_left _ _ (by omega)]
    have hr : Shr.rs a (l.map (fun x => x * b)).sum (l.map (fun x => x * b)) = (Shr.rs a l.sum l).map (fun x => x * b) := by
      unfold Shr.rs
      rw [hs, List.map_map, List.map_map]
      apply List.map_congr_left
      intro x hx
      simp only [Function.comp]
      rw [← Int.mul_assoc, Int.mul_comm (a * x) b, Int.mul_comm l.sum b, Int.mul_emod_mul_of_pos _ _ (by omega), Int.mul_comm]
    have ho := Shr.order h
    have ho2 := Shr.order (hmay.mpr h)
    have hT : ∀ x y : Int, Srt.T (Shr.rs a (l.map (fun x => x * b)).sum (l.map (fun x => x * b))) x y → Srt.T (Shr.rs a l.sum l) x y := by
      intro x y ht
      rw [hr] at ht
      unfold Srt.T at *
      have e : ∀ z : Int, rd ((Shr.rs a l.sum l).map (fun x => x * b)) z = rd (Shr.rs a l.sum l) z * b := by
        intro z
        unfold rd
        simp only [List.getD_eq_getElem?_getD, List.getElem?_map]
        cases (Shr.rs a l.sum l)[z.toNat]? <;> simp
      rw [e, e] at ht
      rcases ht with h1 | ⟨h1, h2⟩
      · left
        exact Int.lt_of_mul_lt_mul_right h1 (by omega)
      · right
        exact ⟨Int.eq_of_mul_eq_mul_right (by omega) h1, h2⟩
    have hord : Shr.ord a (l.map (fun x => x * b)) = Shr.ord a l := by
      refine Srt.uniq (r := Shr.rs a l.sum l) ?_ (ho2.2.1.imp (fun {x y} => hT x y)) ho.2.1
      have := ho2.1
      rw [List.length_map] at this
      exact this.trans ho.1.symm
    have e1 : ∀ l : List Int, Shr.sh a l = Shr.inc (Shr.qs a l.sum l) ((Shr.ord a l).take (Shr.left a l).toNat) := fun _ => rfl
    have hleft : Shr.left a (l.map (fun x => x * b)) = Shr.left a l := by unfold Shr.left; rw [hq]
    rw [e1, e1, hq, hord, hleft]
  · rw [if_neg h, if_neg (fun hh => h (hmay.mp hh))]
theorem scales_loop (n : Nat) : ∀ (k i : Nat) (a b : Int) (l : List Int), M.In a → (∀ w ∈ l, M.In w) → 1 ≤ b ∧ b ≤ 1000 → l.length = i + n → l.length ≤ 500 → (∀ w ∈ l.take i, 0 ≤ w ∧ w ≤ 10000000000) → n + 3000 ≤ k →
    trivetlaw03_SplitScales.l0 k a l b true ((l.take i).map (fun x => x * b)) i = some true := by
  induction n with
  | zero =>
    intro k i a b l ha hl hb hn hm hok hk
    obtain ⟨j, rfl⟩ : ∃ j, k = j + 1 := ⟨k - 1, by omega⟩
    rw [List.take_of_length_le (by omega)] at hok ⊢
    have hr := scales_res (a := a) hb hok
    have hin : ∀ w ∈ l.map (fun x => x * b), M.In w := by
      intro w hw
      obtain ⟨x, hx, rfl⟩ := List.mem_map.mp hw
      have hx := hok x hx
      have p0 : 0 ≤ x * b := Int.mul_nonneg hx.1 (by omega)
      have p1 : x * b ≤ 10000000000 * 1000 := Int.mul_le_mul hx.2 hb.2 (by omega) (by decide)
      unfold M.In
      omega
    have hlen : (Shr.res a l).1.length ≤ 500 := by rw [Shr.res_len]; split <;> omega
    simp only [trivetlaw03_SplitScales.l0]
    rw [if_neg (by omega), split_Shares.num j a l ha hl (by omega) (by omega), Option.bind_some, split_Shares.num j a _ ha hin (by simp; omega) (by omega), Option.bind_some, if_pos trivial, hr, trivetlaw03_same.num j _ (by omega) (by omega)]
    by_cases h : (Shr.res a l).2.isNone = true
    · rw [if_pos h, if_pos h]; rfl
    · rw [if_neg h, if_neg h]; rfl
  | succ n ih =>
    intro k i a b l ha hl hb hn hm hok hk
    obtain ⟨j, rfl⟩ : ∃ j, k = j + 1 := ⟨k - 1, by omega⟩
    have hget : l.getD i 0 = l[i]'(by omega) := by rw [List.getD_eq_getElem?_getD, List.getElem?_eq_getElem (by omega)]; rfl
    have htake : l.take (i + 1) = l.take i ++ [l.getD i 0] := by rw [List.take_add_one, List.getElem?_eq_getElem (by omega), hget]; rfl
    have hr : rd l (i : Int) = l.getD i 0 := rfl
    have ih' := ih j (i + 1) a b l ha hl hb (by omega) hm
    rw [htake, List.map_append] at ih'
    simp only [trivetlaw03_SplitScales.l0]
    rw [if_pos (by omega), if_pos (by omega), hr]
    generalize l.getD i 0 = x at *
    by_cases h1 : x < 0
    · rw [if_pos h1]
    · rw [if_neg h1]
      by_cases h2 : x > 10000000000
      · rw [if_pos h2]
      · have p0 : 0 ≤ x * b := Int.mul_nonneg (by omega) (by omega)
        have p1 : x * b ≤ 10000000000 * 1000 := Int.mul_le_mul (by omega) hb.2 (by omega) (by decide)
        rw [if_neg h2, if_pos (by simp; omega), M.w64_id (n := x * b) (by omega) (by omega), M.w64_id (n := (i : Int) + 1) (by omega) (by omega)]
        refine ih' ?_ (by omega)
        intro w hw
        rcases List.mem_append.mp hw with h | h
        · exact hok w h
        · simp at h; omega
theorem SplitScales : trivetlaw03_SplitScales.Pure := by
  intro a l b h1 h2 h3 h4 h5
  have ha := M.in_of_wf h1
  have hl : ∀ x ∈ l, M.In x := fun x hx => M.in_of_wf (h4 x hx)
  refine ⟨6001, ?_⟩
  unfold trivetlaw03_SplitScales.f
  rw [trivetlaw03_up.num _ (by omega), Option.bind_some]
  have hj : ∀ c : Bool, c = true → trivetlaw03_SplitScales.j0 6001 a l b true c = some true := by
    intro c hc
    subst hc
    simp [trivetlaw03_SplitScales.j0]
  by_cases c1 : (l.length : Int) > 500
  · rw [if_pos c1]; exact hj true rfl
  · rw [if_neg c1]
    by_cases c2 : b < 1
    · rw [if_pos c2]; exact hj true rfl
    · rw [if_neg c2]
      by_cases c3 : b > 1000
      · exact hj _ (decide_eq_true c3)
      · rw [decide_eq_false c3]
        simp only [trivetlaw03_SplitScales.j0]
        rw [if_neg (by decide)]
        have := scales_loop l.length 6000 0 a b l ha hl (by omega) (by omega) (by omega) (by simp) (by omega)
        simpa using this

end Go.Proofs.Ytcpmfdagnchlbaa.Pure
