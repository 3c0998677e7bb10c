-- Written by a program of this session out of the translation of the seat: Lean functions and the proofs that the Go functions come to them.
import Derived.Test.YtmkfbaoglmmhjaaPx0
import Derived.Test.YtmkfbaoglmmhjaaPx3
import Derived.Test.YtmkfbaoglmmhjaaPx4
namespace Go.Proofs.Ytmkfbaoglmmhjaa.P
open Go.RowKit Go.Proofs.YtmkfbaoglmmhjaaW.PrintWords Go.Proofs.YtmkfbaoglmmhjaaW.PrintLast Go.Proofs.YtmkfbaoglmmhjaaW.PrintMore
attribute [local go_sem] max2_int min2_int max_two min_two max_three min_three max_four min_four   -- for this text's walks alone
set_option linter.unusedVariables false
set_option linter.unusedSimpArgs false

/-! ### calendar_Months: function 10, its laws -/
/-- what is paid in a month of the year -/
def Cal.amt (l : List S48) (m : Int) : Int := (l.map (fun x => if x.f0 = m then x.f2 else 0)).sum
/-- the month that lies j behind -/
def Cal.far (mo : Int) (j : Nat) : Int := if mo + j > 12 then mo + j - 12 else mo + j
def Cal.mon (l : List S48) (mo : Int) : List Int := (List.range 12).map (fun j => Cal.amt l (Cal.far mo j))
theorem Cal.drop_rd (l : List S48) (i : Nat) (h : i < l.length) : l.drop i = rd_T48 l (i : Int) :: l.drop (i + 1) := by
 unfold rd_T48
 rw [List.drop_eq_getElem_cons h, Int.toNat_natCast, List.getD_eq_getElem?_getD, List.getElem?_eq_getElem h]; rfl
theorem Cal.rd_mem (l : List S48) (i : Nat) (h : i < l.length) : rd_T48 l (i : Int) ∈ l := by
 unfold rd_T48
 rw [Int.toNat_natCast, List.getD_eq_getElem?_getD, List.getElem?_eq_getElem h]
 exact List.getElem_mem h
theorem Cal.amt_cons (x : S48) (l : List S48) (m : Int) : Cal.amt (x :: l) m = (if x.f0 = m then x.f2 else 0) + Cal.amt l m := by
 unfold Cal.amt
 rw [List.map_cons, List.sum_cons]
theorem Cal.amt_bd (m : Int) : ∀ l : List S48, (∀ x ∈ l, calendar_Check.okI x) → 0 ≤ Cal.amt l m ∧ Cal.amt l m ≤ 10000000000000 * (l.length : Int)
 | [], _ => by simp [Cal.amt]
 | x :: r, h => by
  have h1 := h x (by simp)
  have h2 := Cal.amt_bd m r (fun y hy => h y (by simp [hy]))
  rw [Cal.amt_cons, List.length_cons]
  unfold calendar_Check.okI at h1
  split <;> omega
theorem Cal.slot {f mo : Int} (hf : 1 ≤ f ∧ f ≤ 12) (hm : 1 ≤ mo ∧ mo ≤ 12) (j : Nat) (hj : j < 12) : f = Cal.far mo j ↔ ((f - mo + 12) % 12).toNat = j := by
 unfold Cal.far
 split <;> omega
theorem calendar_Months.loop (n : Nat) : ∀ (k i : Nat) (l : List S48) (g : Nat → Int) (y mo d : Int), l.length = i + n → l.length ≤ 32 → (∀ x ∈ l, calendar_Check.okI x) → (1 ≤ mo ∧ mo ≤ 12) → (∀ j, 0 ≤ g j ∧ g j ≤ 10000000000000 * (i : Int)) → n < k →
  calendar_Months.l0 k ((List.range 12).map g) l (l.length : Int) (i : Int) y mo d = some ((List.range 12).map (fun j => g j + Cal.amt (l.drop i) (Cal.far mo j)), none) := by
 induction n with
 | zero =>
  intro k i l g y mo d hl hm hok hmo hg hk
  obtain ⟨j, rfl⟩ : ∃ j, k = j + 1 := ⟨k - 1, by omega⟩
  simp only [calendar_Months.l0]
  rw [if_neg (by omega), List.drop_eq_nil_of_le (by omega)]
  simp [Cal.amt]
 | succ n ih =>
  intro k i l g y mo d hl hm hok hmo hg hk
  obtain ⟨j, rfl⟩ : ∃ j, k = j + 1 := ⟨k - 1, by omega⟩
  have hx := hok _ (Cal.rd_mem l i (by omega))
  have hd := Cal.drop_rd l i (by omega)
  have ih' := fun g => ih j (i + 1) l g y mo d (by omega) hm hok hmo
  generalize rd_T48 l (i : Int) = x at hx hd
  have hx' := hx
  unfold calendar_Check.okI at hx'
  have hidx : Int.tmod (wrap64 ((wrap64 (x.f0 - mo)) + 12)) 12 = (x.f0 - mo + 12) % 12 := by
   rw [M.w64_id (n := x.f0 - mo) (by omega) (by omega), M.w64_id (by omega) (by omega), M.tmodu (by omega)]
  obtain ⟨q, hq⟩ : ∃ q : Nat, q = ((x.f0 - mo + 12) % 12).toNat := ⟨_, rfl⟩
  have hq12 : q < 12 := by omega
  have hrd : rd ((List.range 12).map g) ((x.f0 - mo + 12) % 12) = g q := by
   unfold rd
   rw [← hq, List.getD_eq_getElem?_getD, List.getElem?_map, List.getElem?_range hq12]; rfl
  have hgq := hg q
  have hset : ((List.range 12).map g).set q (g q + x.f2) = (List.range 12).map (fun j => g j + (if x.f0 = Cal.far mo j then x.f2 else 0)) := by
   apply List.ext_getElem (by simp)
   intro a h1 h2
   have ha : a < 12 := by simpa using h1
   have hs := Cal.slot (f := x.f0) ⟨hx'.1, hx'.2.1⟩ hmo a ha
   rw [← hq] at hs
   rw [List.getElem_set, List.getElem_map, List.getElem_map, List.getElem_range]
   by_cases c : q = a
   ·rw [if_pos c, if_pos (hs.mpr c), c]
   ·rw [if_neg c, if_neg (fun h => c (hs.mp h)), Int.add_zero]
  have e : calendar_Months.l0 (j + 1) ((List.range 12).map g) l (l.length : Int) (i : Int) y mo d = calendar_Months.l0 j ((List.range 12).map (fun j => g j + (if x.f0 = Cal.far mo j then x.f2 else 0))) l (l.length : Int) ((i + 1 : Nat) : Int) y mo d := by
   have hx0 : rd_T48 l (i : Int) = x := by
    have := (Cal.drop_rd l i (by omega)).symm.trans hd
    exact (List.cons.inj this).1
   conv => lhs; simp only [calendar_Months.l0]
   rw [if_pos (by omega), if_pos (by omega), if_pos (by omega), hx0, hidx, if_pos (by omega), if_pos (by simp; omega), hrd, M.w64_id (n := g q + x.f2) (by omega) (by omega), M.w64_id (n := (i : Int) + 1) (by omega) (by omega), ← hq, hset]
   rfl
  rw [e, ih' (fun j => g j + (if x.f0 = Cal.far mo j then x.f2 else 0)) (fun a => by have := hg a; split <;> omega) (by omega)]
  congr 2
  apply List.map_congr_left
  intro a _
  rw [hd, Cal.amt_cons]
  omega
/-- may the twelve months from a day on be asked for? -/
def Cal.ask (l : List S48) (a : Int) : Prop := (-25567 ≤ a ∧ a ≤ 84005) ∧ M.dy a = 1 ∧ calendar_Check.may l ∧ M.inYears (M.mt (M.yr a) (M.mo a) + 12)
instance (t : Int) : Decidable (M.inYears t) := inferInstanceAs (Decidable (_ ∧ _))
instance (l : List S48) (a : Int) : Decidable (Cal.ask l a) := inferInstanceAs (Decidable (_ ∧ _))
theorem calendar_Months.num (k : Nat) (l : List S48) (a : Int) (ha : M.In a) (hk : 40 ≤ k) : calendar_Months.f k l a = some (if Cal.ask l a then (Cal.mon l (M.mo a), none) else ([], some 1)) := by
 obtain ⟨j, rfl⟩ : ∃ j, k = j + 1 := ⟨k - 1, by omega⟩
 unfold calendar_Months.f date_Of_s.f
 rw [if_pos ha, Option.bind_some]
 by_cases h1 : -25567 ≤ a ∧ a ≤ 84005
 ·rw [if_pos h1, if_pos (by rfl)]
  by_cases h2 : M.dy a = 1
  ·rw [if_pos h2]
   unfold calendar_Check.f
   rw [Option.bind_some]
   by_cases h3 : calendar_Check.may l
   ·rw [if_pos h3, if_pos (by rfl)]
    have hdate := (M.dateOf h1.1 h1.2).1
    have hin := M.date_in hdate
    simp only [calendar_Months.j0]
    rw [if_neg (by decide)]
    by_cases h4 : M.inYears (M.mt (M.yr a) (M.mo a) + 12)
    ·rw [if_pos (show Cal.ask l a from ⟨h1, h2, h3, h4⟩), date_Months_s.yes hdate ⟨by decide, by decide, h4⟩, Option.bind_some, if_pos (by rfl), if_pos (by decide)]
     have key := calendar_Months.loop l.length j 0 l (fun _ => 0) (M.yr a) (M.mo a) (M.dy a) (by omega) h3.1 h3.2 ⟨hin.2.2.1, hin.2.2.2.1⟩ (fun _ => by simp) (by have := h3.1; omega)
     have e0 : List.replicate 12 (0 : Int) = (List.range 12).map (fun _ => (0 : Int)) := by decide
     have e1 : ((0 : Nat) : Int) = 0 := rfl
     rw [← e0, e1] at key
     rw [key]
     simp only [List.drop_zero, Int.zero_add]
     rfl
    ·rw [if_neg (show ¬ Cal.ask l a from fun h => h4 h.2.2.2), date_Months_s.out hdate (fun h => h4 h.2.2), Option.bind_some, if_neg (by decide)]
   ·rw [if_neg h3, if_neg (by decide), if_neg (show ¬ Cal.ask l a from fun h => h3 h.2.2.1)]
    simp only [calendar_Months.j0]
    rw [if_pos trivial]
  ·rw [if_neg h2, if_neg (show ¬ Cal.ask l a from fun h => h2 h.2.1)]
   simp only [calendar_Months.j0]
   rw [if_pos trivial]
 ·rw [if_neg h1, if_neg (by decide), if_neg (show ¬ Cal.ask l a from fun h => h1 h.1)]
  simp only [calendar_Months.j0]
  rw [if_pos trivial]

/-! ### trivetlaw14_up: function 9 -/
def trivetlaw14_up.f (k : Nat)  : Option (Bool) := (calendar_Months.f k (([(⟨3, 31, 500⟩ : S48)] : List (S48))) 20454).bind fun bt434 => ((calendar_Check.f (([(⟨0, 0, 0⟩ : S48)] : List (S48)))).bind fun t441 => (if bt434.2.isNone = true then (if (bt434.1.length : Int) = 12 then (if 2 < (bt434.1.length : Int) then (if (rd bt434.1 2) = 500 then (if 0 < (bt434.1.length : Int) then (if (rd bt434.1 0) = 0 then (if t441.isNone = true then (some false) else (some ((t441.getD 0) == 1))) else (some false)) else (none)) else (some false)) else (none)) else (some false)) else (some false)))
theorem trivetlaw14_up.mono : ∀ k, LeO (trivetlaw14_up.f k ) (trivetlaw14_up.f (k + 1) ) := by
 intro  k
 unfold trivetlaw14_up.f
 repeat' first
   | (with_reducible exact calendar_Months.mono _ _ _)
   | (with_reducible exact LeO.refl _)
   | (with_reducible exact LeO.none _)
   | (with_reducible refine LeO.ite ?_ ?_)
   | (with_reducible refine LeO.bind ?_ (fun _ => ?_))
   | exact calendar_Months.mono _ _ _
   | exact LeO.none _
   | refine LeO.ite ?_ ?_
   | refine LeO.bind ?_ (fun _ => ?_)
set_option maxHeartbeats 8000000 in
set_option maxRecDepth 100000 in
theorem trivetlaw14_up.calls (k : Nat)  (r : Bool) (w : World) (h : trivetlaw14_up.f k  = some r) :
  Calls Try.prog 9 #[] w fun e w' => e = .returned (.bool r) ∧ Below w.heap.size w w' := by
 have hu48 := Try.underlying48
 have hu26 := Try.underlying26
 have hu35 := Try.underlying35
 have HB := ka (Below.refl w.heap.size w)
 have H : ((calendar_Months.f k (([(⟨3, 31, 500⟩ : S48)] : List (S48))) 20454).bind fun bt434 => ((calendar_Check.f (([(⟨0, 0, 0⟩ : S48)] : List (S48)))).bind fun t441 => (if bt434.2.isNone = true then (if (bt434.1.length : Int) = 12 then (if 2 < (bt434.1.length : Int) then (if (rd bt434.1 2) = 500 then (if 0 < (bt434.1.length : Int) then (if (rd bt434.1 0) = 0 then (if t441.isNone = true then (some false) else (some ((t441.getD 0) == 1))) else (some false)) else (none)) else (some false)) else (none)) else (some false)) else (some false)))) = some r := h
 clear h
 obtain ⟨y431, hy431⟩ : ∃ y_ : List (S48), y_ = (([(⟨3, 31, 500⟩ : S48)] : List (S48))) := ⟨_, rfl⟩
 replace H : ((calendar_Months.f k y431 20454).bind fun bt434 => ((calendar_Check.f (([(⟨0, 0, 0⟩ : S48)] : List (S48)))).bind fun t441 => (if bt434.2.isNone = true then (if (bt434.1.length : Int) = 12 then (if 2 < (bt434.1.length : Int) then (if (rd bt434.1 2) = 500 then (if 0 < (bt434.1.length : Int) then (if (rd bt434.1 0) = 0 then (if t441.isNone = true then (some false) else (some ((t441.getD 0) == 1))) else (some false)) else (none)) else (some false)) else (none)) else (some false)) else (some false)))) = some r := by first | (rw [hy431]; with_reducible exact H) | (have H2_ := (Option.bind_some _ _).symm.trans H; rw [hy431]; with_reducible exact H2_) | (have H2_ := (Option.bind_some _ _).symm.trans H; with_reducible exact H2_) | with_reducible exact H | (rw [hy431]; exact H) | exact H
 have Ny431 := ka hy431
 clear hy431
 replace H := Option.bind_eq_some_iff.mp H
 obtain ⟨⟨t434, t435⟩, A10, H⟩ := H
 replace H : ((calendar_Check.f (([(⟨0, 0, 0⟩ : S48)] : List (S48)))).bind fun t441 => (if t435.isNone = true then (if (t434.length : Int) = 12 then (if 2 < (t434.length : Int) then (if (rd t434 2) = 500 then (if 0 < (t434.length : Int) then (if (rd t434 0) = 0 then (if t441.isNone = true then (some false) else (some ((t441.getD 0) == 1))) else (some false)) else (none)) else (some false)) else (none)) else (some false)) else (some false))) = some r := H
 have A1 := ka A10
 clear A10
 obtain ⟨y438, hy438⟩ : ∃ y_ : List (S48), y_ = (([(⟨0, 0, 0⟩ : S48)] : List (S48))) := ⟨_, rfl⟩
 replace H : ((calendar_Check.f y438).bind fun t441 => (if t435.isNone = true then (if (t434.length : Int) = 12 then (if 2 < (t434.length : Int) then (if (rd t434 2) = 500 then (if 0 < (t434.length : Int) then (if (rd t434 0) = 0 then (if t441.isNone = true then (some false) else (some ((t441.getD 0) == 1))) else (some false)) else (none)) else (some false)) else (none)) else (some false)) else (some false))) = some r := by first | (rw [hy438]; with_reducible exact H) | (have H2_ := (Option.bind_some _ _).symm.trans H; rw [hy438]; with_reducible exact H2_) | (have H2_ := (Option.bind_some _ _).symm.trans H; with_reducible exact H2_) | with_reducible exact H | (rw [hy438]; exact H) | exact H
 have Ny438 := ka hy438
 clear hy438
 replace H := Option.bind_eq_some_iff.mp H
 obtain ⟨t441, A20, H⟩ := H
 replace H : (if t435.isNone = true then (if (t434.length : Int) = 12 then (if 2 < (t434.length : Int) then (if (rd t434 2) = 500 then (if 0 < (t434.length : Int) then (if (rd t434 0) = 0 then (if t441.isNone = true then (some false) else (some ((t441.getD 0) == 1))) else (some false)) else (none)) else (some false)) else (none)) else (some false)) else (some false)) = some r := H
 have A2 := ka A20
 clear A20
 rcases t435 with _ | q442
 ·have H1 : (if (t434.length : Int) = 12 then (if 2 < (t434.length : Int) then (if (rd t434 2) = 500 then (if 0 < (t434.length : Int) then (if (rd t434 0) = 0 then (if t441.isNone = true then (some false) else (some ((t441.getD 0) == 1))) else (some false)) else (none)) else (some false)) else (none)) else (some false)) = some r := by rw [if_pos (show (none : Option Int).isNone = true by rfl)] at H; exact H
  clear H
  have H := H1
  clear H1
  try simp only [errW_none, errW_some]
  by_cases c3 : (t434.length : Int) = 12
  ·rw [if_pos c3] at H
   have c3b0 : ((t434.length : Int) == 12) = true := beq_iff_eq.mpr c3
   have c3b1 : ((t434.length : Int) != 12) = false := bne_eq_false_iff_eq.mpr c3
   clear c3
   by_cases c4 : 2 < (t434.length : Int)
   ·rw [if_pos c4] at H
    have c4b0 : decide (2 < (t434.length : Int)) = true := decide_eq_true c4
    have c4b1 : decide (2 < t434.length) = true := decide_eq_true (by omega)
    clear c4
    by_cases c5 : (rd t434 2) = 500
    ·rw [if_pos c5] at H
     have c5b0 : ((rd t434 2) == 500) = true := beq_iff_eq.mpr c5
     have c5b1 : ((rd t434 2) != 500) = false := bne_eq_false_iff_eq.mpr c5
     clear c5
     by_cases c6 : 0 < (t434.length : Int)
     ·rw [if_pos c6] at H
      have c6b0 : decide (0 < (t434.length : Int)) = true := decide_eq_true c6
      have c6b1 : decide (0 < t434.length) = true := decide_eq_true (by omega)
      clear c6
      by_cases c7 : (rd t434 0) = 0
      ·rw [if_pos c7] at H
       have c7b0 : ((rd t434 0) == 0) = true := beq_iff_eq.mpr c7
       have c7b1 : ((rd t434 0) != 0) = false := bne_eq_false_iff_eq.mpr c7
       clear c7
       rcases t441 with _ | q445
       ·have H1 : (some false) = some r := by rw [if_pos (show (none : Option Int).isNone = true by rfl)] at H; exact H
        clear H
        have H := H1
        clear H1
        try simp only [errW_none, errW_some]
        obtain rfl := Option.some.inj H
        go_enter Try.func9, Try.ntmps9
        go_wp2_with (first | ((with_reducible refine gate_dst (N := 6) rfl ?_); (try (refine gate_guard (by rfl) ?_; dsimp only)); refine Kd.R_lit k48 _ 48 ?hg (N := 6) ?hd (xs := ([(⟨3, 31, 500⟩ : S48)] : List (S48))) (inner := [.int .i64 3, .int .i64 31, .int .i64 500]) (ok := fun _ => True) (okp := fun _ => True) ?hr ?hp (fun _ hk => hk) trivial (Below.refl _ _) (Nat.le_refl _) (by simp) ?_; (case hd => rfl); (case hg => rfl); (case hr => first | (go_simp; done) | (go_simp; rfl)); (case hp => exact (Reps.c3 (show Kd.M k48 _ _ _ (⟨3, 31, 500⟩ : S48) [.int .i64 3, .int .i64 31, .int .i64 500] from (k48_mkM _ _ _ (⟨3, 31, 500⟩ : S48) )) (Reps.none _ _))); intro v432 w8 ho9 hb hg_ hnew_; clear hg_ hnew_; (first | rw [← Ny431.out] at ho9 | (simp only [Int.reduceToNat] at ho9; rw [← Ny431.out] at ho9)); have HO433 := ka (Kd.R_lower ho9 (below_size (kw HB.out))); replace HB := ka (below_step (kw HB.out) hb); clear hb ho9; obtain ⟨Ao10, co10, eo10⟩ := Kd.R_slice HO433.out; subst eo10) | ((with_reducible refine gate_callee (f := 10) rfl ?_); refine kg (some 7) rfl rfl Try.func10 (by kernel_rfl) rfl #[.slice Ao10 y431.length co10, .int .i64 20454] rfl ?_; (with_reducible refine (calendar_Months.calls k _ _ y431 20454 t434 none _ ?side1 ?side2 A1.out).mono ?_); (case side1 => repeat (first | exact (Kd.R_reads' HO433.out).2.2 | (with_reducible refine Kd.C_alloc ?_ _) | (with_reducible refine Kd.C_drewN ?_ _) | (with_reducible refine Kd.C_drew ?_))); (case side2 => exact (Kd.R_reads' HO433.out).2.1); rintro e w11 ⟨v436, rfl, ho0, hb⟩; refine ⟨_, rfl, ?_⟩; replace HO433 := ka (Kd.R_below (kr HO433.out) hb); have HO437 := ka (Kd.R_lower ho0 (below_size (kw HB.out))); replace HB := ka (below_step (kw HB.out) hb); (try clear hb); (try clear hb2); (try clear hk); (try clear hi); (try clear ho0); (try simp only [errW_none, errW_some])) | ((with_reducible refine gate_dst (N := 11) rfl ?_); (try (refine gate_guard (by rfl) ?_; dsimp only)); refine Kd.R_lit k48 _ 48 ?hg (N := 11) ?hd (xs := ([(⟨0, 0, 0⟩ : S48)] : List (S48))) (inner := [.int .i64 0, .int .i64 0, .int .i64 0]) (ok := fun _ => True) (okp := fun _ => True) ?hr ?hp (fun _ hk => hk) trivial (Below.refl _ _) (Nat.le_refl _) (by simp) ?_; (case hd => rfl); (case hg => rfl); (case hr => first | (go_simp; done) | (go_simp; rfl)); (case hp => exact (Reps.c3 (show Kd.M k48 _ _ _ (⟨0, 0, 0⟩ : S48) [.int .i64 0, .int .i64 0, .int .i64 0] from (k48_mkM _ _ _ (⟨0, 0, 0⟩ : S48) )) (Reps.none _ _))); intro v439 w12 ho13 hb hg_ hnew_; clear hg_ hnew_; (first | rw [← Ny438.out] at ho13 | (simp only [Int.reduceToNat] at ho13; rw [← Ny438.out] at ho13)); replace HO437 := ka (Kd.R_below (kr HO437.out) hb); have HO440 := ka (Kd.R_lower (Kd.R_new' ho13 (Kd.R_lt (kr HO433.out))) (below_size (kw HB.out))); replace HO433 := ka (Kd.R_elder' (kr HO433.out) (Kd.R_base ho13) hb); replace HB := ka (below_step (kw HB.out) hb); clear hb ho13; obtain ⟨Ao14, co14, eo14⟩ := Kd.R_slice HO440.out; subst eo14) | ((with_reducible refine gate_callee (f := 16) rfl ?_); refine kg (some 12) rfl rfl Try.func16 (by kernel_rfl) rfl #[.slice Ao14 y438.length co14] rfl ?_; (with_reducible refine (calendar_Check.calls _ _ y438 none _ ?side1 ?side2 A2.out).mono ?_); (case side1 => repeat (first | exact (Kd.R_reads' HO440.out).2.2 | (with_reducible refine Kd.C_alloc ?_ _) | (with_reducible refine Kd.C_drewN ?_ _) | (with_reducible refine Kd.C_drew ?_))); (case side2 => exact (Kd.R_reads' HO440.out).2.1); rintro e w15 ⟨rfl, hb⟩; refine ⟨_, rfl, ?_⟩; replace HO433 := ka (Kd.R_below (kr HO433.out) hb); replace HO437 := ka (Kd.R_below (kr HO437.out) hb); replace HO440 := ka (Kd.R_below (kr HO440.out) hb); replace HB := ka (below_step (kw HB.out) hb); (try clear hb); (try clear hb2); (try clear hk); (try clear hi); (try simp only [errW_none, errW_some]); obtain ⟨Ao16, co16, eo16⟩ := Kd.R_slice HO437.out; subst eo16; have p443 : 0 ≤ (2 : Int) := (by omega); have q443 : 2 < (t434.length : Int) := of_decide_eq_true (by first | (with_reducible assumption) | assumption); obtain ⟨ad443, e443, hx443_0⟩ := Kd.at_int (Kd.R_reads' HO437.out).2.2 2 p443 q443; cases e443; (try simp only [show (2 : Int).toNat = 2 from rfl, Nat.reduceMul, Nat.reduceEqDiff, Go.Addr.add, ↓reduceIte] at hx443_0); have qi443 : (2 < t434.length) = True := eq_true (by omega); (try rw [show ((2 : Int)).toNat = 2 from rfl] at hx443_0); replace p443 := eq_true p443; replace q443 := eq_true q443; have p444 : 0 ≤ (0 : Int) := (by omega); have q444 : 0 < (t434.length : Int) := of_decide_eq_true (by first | (with_reducible assumption) | assumption); obtain ⟨ad444, e444, hx444_0⟩ := Kd.at_int (Kd.R_reads' HO437.out).2.2 0 p444 q444; obtain rfl : ad443 = ad444 := (by injection e444); have qi444 : (0 < t434.length) = True := eq_true (by omega); (try rw [show ((0 : Int)).toNat = 0 from rfl] at hx444_0); (try rw [Addr.add_zero'] at hx444_0); replace p444 := eq_true p444; replace q444 := eq_true q444))
        go_ret
        exact ⟨by first | rfl | (simp [errW_none, errW_some] <;> rfl) | (simp [*, errW_none, errW_some] <;> rfl), by repeat (first | (with_reducible first | exact HB.out | apply kc1 | apply kc2 | apply kc3) | exact HB.out)⟩
       ·have H1 : (some (q445 == 1)) = some r := by rw [if_neg (show ¬ (some q445).isNone = true by simp)] at H; exact H
        clear H
        have H := H1
        clear H1
        try simp only [errW_none, errW_some]
        obtain rfl := Option.some.inj H
        go_enter Try.func9, Try.ntmps9
        go_wp2_with (first | ((with_reducible refine gate_dst (N := 6) rfl ?_); (try (refine gate_guard (by rfl) ?_; dsimp only)); refine Kd.R_lit k48 _ 48 ?hg (N := 6) ?hd (xs := ([(⟨3, 31, 500⟩ : S48)] : List (S48))) (inner := [.int .i64 3, .int .i64 31, .int .i64 500]) (ok := fun _ => True) (okp := fun _ => True) ?hr ?hp (fun _ hk => hk) trivial (Below.refl _ _) (Nat.le_refl _) (by simp) ?_; (case hd => rfl); (case hg => rfl); (case hr => first | (go_simp; done) | (go_simp; rfl)); (case hp => exact (Reps.c3 (show Kd.M k48 _ _ _ (⟨3, 31, 500⟩ : S48) [.int .i64 3, .int .i64 31, .int .i64 500] from (k48_mkM _ _ _ (⟨3, 31, 500⟩ : S48) )) (Reps.none _ _))); intro v432 w17 ho18 hb hg_ hnew_; clear hg_ hnew_; (first | rw [← Ny431.out] at ho18 | (simp only [Int.reduceToNat] at ho18; rw [← Ny431.out] at ho18)); have HO433 := ka (Kd.R_lower ho18 (below_size (kw HB.out))); replace HB := ka (below_step (kw HB.out) hb); clear hb ho18; obtain ⟨Ao19, co19, eo19⟩ := Kd.R_slice HO433.out; subst eo19) | ((with_reducible refine gate_callee (f := 10) rfl ?_); refine kg (some 7) rfl rfl Try.func10 (by kernel_rfl) rfl #[.slice Ao19 y431.length co19, .int .i64 20454] rfl ?_; (with_reducible refine (calendar_Months.calls k _ _ y431 20454 t434 none _ ?side1 ?side2 A1.out).mono ?_); (case side1 => repeat (first | exact (Kd.R_reads' HO433.out).2.2 | (with_reducible refine Kd.C_alloc ?_ _) | (with_reducible refine Kd.C_drewN ?_ _) | (with_reducible refine Kd.C_drew ?_))); (case side2 => exact (Kd.R_reads' HO433.out).2.1); rintro e w20 ⟨v436, rfl, ho0, hb⟩; refine ⟨_, rfl, ?_⟩; replace HO433 := ka (Kd.R_below (kr HO433.out) hb); have HO437 := ka (Kd.R_lower ho0 (below_size (kw HB.out))); replace HB := ka (below_step (kw HB.out) hb); (try clear hb); (try clear hb2); (try clear hk); (try clear hi); (try clear ho0); (try simp only [errW_none, errW_some])) | ((with_reducible refine gate_dst (N := 11) rfl ?_); (try (refine gate_guard (by rfl) ?_; dsimp only)); refine Kd.R_lit k48 _ 48 ?hg (N := 11) ?hd (xs := ([(⟨0, 0, 0⟩ : S48)] : List (S48))) (inner := [.int .i64 0, .int .i64 0, .int .i64 0]) (ok := fun _ => True) (okp := fun _ => True) ?hr ?hp (fun _ hk => hk) trivial (Below.refl _ _) (Nat.le_refl _) (by simp) ?_; (case hd => rfl); (case hg => rfl); (case hr => first | (go_simp; done) | (go_simp; rfl)); (case hp => exact (Reps.c3 (show Kd.M k48 _ _ _ (⟨0, 0, 0⟩ : S48) [.int .i64 0, .int .i64 0, .int .i64 0] from (k48_mkM _ _ _ (⟨0, 0, 0⟩ : S48) )) (Reps.none _ _))); intro v439 w21 ho22 hb hg_ hnew_; clear hg_ hnew_; (first | rw [← Ny438.out] at ho22 | (simp only [Int.reduceToNat] at ho22; rw [← Ny438.out] at ho22)); replace HO437 := ka (Kd.R_below (kr HO437.out) hb); have HO440 := ka (Kd.R_lower (Kd.R_new' ho22 (Kd.R_lt (kr HO433.out))) (below_size (kw HB.out))); replace HO433 := ka (Kd.R_elder' (kr HO433.out) (Kd.R_base ho22) hb); replace HB := ka (below_step (kw HB.out) hb); clear hb ho22; obtain ⟨Ao23, co23, eo23⟩ := Kd.R_slice HO440.out; subst eo23) | ((with_reducible refine gate_callee (f := 16) rfl ?_); refine kg (some 12) rfl rfl Try.func16 (by kernel_rfl) rfl #[.slice Ao23 y438.length co23] rfl ?_; (with_reducible refine (calendar_Check.calls _ _ y438 (some q445) _ ?side1 ?side2 A2.out).mono ?_); (case side1 => repeat (first | exact (Kd.R_reads' HO440.out).2.2 | (with_reducible refine Kd.C_alloc ?_ _) | (with_reducible refine Kd.C_drewN ?_ _) | (with_reducible refine Kd.C_drew ?_))); (case side2 => exact (Kd.R_reads' HO440.out).2.1); rintro e w24 ⟨rfl, hb⟩; refine ⟨_, rfl, ?_⟩; replace HO433 := ka (Kd.R_below (kr HO433.out) hb); replace HO437 := ka (Kd.R_below (kr HO437.out) hb); replace HO440 := ka (Kd.R_below (kr HO440.out) hb); replace HB := ka (below_step (kw HB.out) hb); (try clear hb); (try clear hb2); (try clear hk); (try clear hi); (try simp only [errW_none, errW_some]); obtain ⟨Ao25, co25, eo25⟩ := Kd.R_slice HO437.out; subst eo25; have p443 : 0 ≤ (2 : Int) := (by omega); have q443 : 2 < (t434.length : Int) := of_decide_eq_true (by first | (with_reducible assumption) | assumption); obtain ⟨ad443, e443, hx443_0⟩ := Kd.at_int (Kd.R_reads' HO437.out).2.2 2 p443 q443; cases e443; (try simp only [show (2 : Int).toNat = 2 from rfl, Nat.reduceMul, Nat.reduceEqDiff, Go.Addr.add, ↓reduceIte] at hx443_0); have qi443 : (2 < t434.length) = True := eq_true (by omega); (try rw [show ((2 : Int)).toNat = 2 from rfl] at hx443_0); replace p443 := eq_true p443; replace q443 := eq_true q443; have p444 : 0 ≤ (0 : Int) := (by omega); have q444 : 0 < (t434.length : Int) := of_decide_eq_true (by first | (with_reducible assumption) | assumption); obtain ⟨ad444, e444, hx444_0⟩ := Kd.at_int (Kd.R_reads' HO437.out).2.2 0 p444 q444; obtain rfl : ad443 = ad444 := (by injection e444); have qi444 : (0 < t434.length) = True := eq_true (by omega); (try rw [show ((0 : Int)).toNat = 0 from rfl] at hx444_0); (try rw [Addr.add_zero'] at hx444_0); replace p444 := eq_true p444; replace q444 := eq_true q444))
        go_ret
        exact ⟨by first | rfl | (simp [errW_none, errW_some] <;> rfl) | (simp [*, errW_none, errW_some] <;> rfl), by repeat (first | (with_reducible first | exact HB.out | apply kc1 | apply kc2 | apply kc3) | exact HB.out)⟩
      ·rw [if_neg c7] at H
       have c7b0 : ((rd t434 0) == 0) = false := beq_eq_false_iff_ne.mpr c7
       have c7b1 : ((rd t434 0) != 0) = true := bne_iff_ne.mpr c7
       obtain rfl := Option.some.inj H
       go_enter Try.func9, Try.ntmps9
       go_wp2_with (first | ((with_reducible refine gate_dst (N := 6) rfl ?_); (try (refine gate_guard (by rfl) ?_; dsimp only)); refine Kd.R_lit k48 _ 48 ?hg (N := 6) ?hd (xs := ([(⟨3, 31, 500⟩ : S48)] : List (S48))) (inner := [.int .i64 3, .int .i64 31, .int .i64 500]) (ok := fun _ => True) (okp := fun _ => True) ?hr ?hp (fun _ hk => hk) trivial (Below.refl _ _) (Nat.le_refl _) (by simp) ?_; (case hd => rfl); (case hg => rfl); (case hr => first | (go_simp; done) | (go_simp; rfl)); (case hp => exact (Reps.c3 (show Kd.M k48 _ _ _ (⟨3, 31, 500⟩ : S48) [.int .i64 3, .int .i64 31, .int .i64 500] from (k48_mkM _ _ _ (⟨3, 31, 500⟩ : S48) )) (Reps.none _ _))); intro v432 w26 ho27 hb hg_ hnew_; clear hg_ hnew_; (first | rw [← Ny431.out] at ho27 | (simp only [Int.reduceToNat] at ho27; rw [← Ny431.out] at ho27)); have HO433 := ka (Kd.R_lower ho27 (below_size (kw HB.out))); replace HB := ka (below_step (kw HB.out) hb); clear hb ho27; obtain ⟨Ao28, co28, eo28⟩ := Kd.R_slice HO433.out; subst eo28) | ((with_reducible refine gate_callee (f := 10) rfl ?_); refine kg (some 7) rfl rfl Try.func10 (by kernel_rfl) rfl #[.slice Ao28 y431.length co28, .int .i64 20454] rfl ?_; (with_reducible refine (calendar_Months.calls k _ _ y431 20454 t434 none _ ?side1 ?side2 A1.out).mono ?_); (case side1 => repeat (first | exact (Kd.R_reads' HO433.out).2.2 | (with_reducible refine Kd.C_alloc ?_ _) | (with_reducible refine Kd.C_drewN ?_ _) | (with_reducible refine Kd.C_drew ?_))); (case side2 => exact (Kd.R_reads' HO433.out).2.1); rintro e w29 ⟨v436, rfl, ho0, hb⟩; refine ⟨_, rfl, ?_⟩; replace HO433 := ka (Kd.R_below (kr HO433.out) hb); have HO437 := ka (Kd.R_lower ho0 (below_size (kw HB.out))); replace HB := ka (below_step (kw HB.out) hb); (try clear hb); (try clear hb2); (try clear hk); (try clear hi); (try clear ho0); (try simp only [errW_none, errW_some])) | ((with_reducible refine gate_dst (N := 11) rfl ?_); (try (refine gate_guard (by rfl) ?_; dsimp only)); refine Kd.R_lit k48 _ 48 ?hg (N := 11) ?hd (xs := ([(⟨0, 0, 0⟩ : S48)] : List (S48))) (inner := [.int .i64 0, .int .i64 0, .int .i64 0]) (ok := fun _ => True) (okp := fun _ => True) ?hr ?hp (fun _ hk => hk) trivial (Below.refl _ _) (Nat.le_refl _) (by simp) ?_; (case hd => rfl); (case hg => rfl); (case hr => first | (go_simp; done) | (go_simp; rfl)); (case hp => exact (Reps.c3 (show Kd.M k48 _ _ _ (⟨0, 0, 0⟩ : S48) [.int .i64 0, .int .i64 0, .int .i64 0] from (k48_mkM _ _ _ (⟨0, 0, 0⟩ : S48) )) (Reps.none _ _))); intro v439 w30 ho31 hb hg_ hnew_; clear hg_ hnew_; (first | rw [← Ny438.out] at ho31 | (simp only [Int.reduceToNat] at ho31; rw [← Ny438.out] at ho31)); replace HO437 := ka (Kd.R_below (kr HO437.out) hb); have HO440 := ka (Kd.R_lower (Kd.R_new' ho31 (Kd.R_lt (kr HO433.out))) (below_size (kw HB.out))); replace HO433 := ka (Kd.R_elder' (kr HO433.out) (Kd.R_base ho31) hb); replace HB := ka (below_step (kw HB.out) hb); clear hb ho31; obtain ⟨Ao32, co32, eo32⟩ := Kd.R_slice HO440.out; subst eo32) | ((with_reducible refine gate_callee (f := 16) rfl ?_); refine kg (some 12) rfl rfl Try.func16 (by kernel_rfl) rfl #[.slice Ao32 y438.length co32] rfl ?_; (with_reducible refine (calendar_Check.calls _ _ y438 t441 _ ?side1 ?side2 A2.out).mono ?_); (case side1 => repeat (first | exact (Kd.R_reads' HO440.out).2.2 | (with_reducible refine Kd.C_alloc ?_ _) | (with_reducible refine Kd.C_drewN ?_ _) | (with_reducible refine Kd.C_drew ?_))); (case side2 => exact (Kd.R_reads' HO440.out).2.1); rintro e w33 ⟨rfl, hb⟩; refine ⟨_, rfl, ?_⟩; replace HO433 := ka (Kd.R_below (kr HO433.out) hb); replace HO437 := ka (Kd.R_below (kr HO437.out) hb); replace HO440 := ka (Kd.R_below (kr HO440.out) hb); replace HB := ka (below_step (kw HB.out) hb); (try clear hb); (try clear hb2); (try clear hk); (try clear hi); (try simp only [errW_none, errW_some]); obtain ⟨Ao34, co34, eo34⟩ := Kd.R_slice HO437.out; subst eo34; have p443 : 0 ≤ (2 : Int) := (by omega); have q443 : 2 < (t434.length : Int) := of_decide_eq_true (by first | (with_reducible assumption) | assumption); obtain ⟨ad443, e443, hx443_0⟩ := Kd.at_int (Kd.R_reads' HO437.out).2.2 2 p443 q443; cases e443; (try simp only [show (2 : Int).toNat = 2 from rfl, Nat.reduceMul, Nat.reduceEqDiff, Go.Addr.add, ↓reduceIte] at hx443_0); have qi443 : (2 < t434.length) = True := eq_true (by omega); (try rw [show ((2 : Int)).toNat = 2 from rfl] at hx443_0); replace p443 := eq_true p443; replace q443 := eq_true q443; have p444 : 0 ≤ (0 : Int) := (by omega); have q444 : 0 < (t434.length : Int) := of_decide_eq_true (by first | (with_reducible assumption) | assumption); obtain ⟨ad444, e444, hx444_0⟩ := Kd.at_int (Kd.R_reads' HO437.out).2.2 0 p444 q444; obtain rfl : ad443 = ad444 := (by injection e444); have qi444 : (0 < t434.length) = True := eq_true (by omega); (try rw [show ((0 : Int)).toNat = 0 from rfl] at hx444_0); (try rw [Addr.add_zero'] at hx444_0); replace p444 := eq_true p444; replace q444 := eq_true q444))
       go_ret
       exact ⟨by first | rfl | (simp [errW_none, errW_some] <;> rfl) | (simp [*, errW_none, errW_some] <;> rfl), by repeat (first | (with_reducible first | exact HB.out | apply kc1 | apply kc2 | apply kc3) | exact HB.out)⟩
     ·rw [if_neg c6] at H
      exact absurd H (by simp)
    ·rw [if_neg c5] at H
     have c5b0 : ((rd t434 2) == 500) = false := beq_eq_false_iff_ne.mpr c5
     have c5b1 : ((rd t434 2) != 500) = true := bne_iff_ne.mpr c5
     obtain rfl := Option.some.inj H
     go_enter Try.func9, Try.ntmps9
     go_wp2_with (first | ((with_reducible refine gate_dst (N := 6) rfl ?_); (try (refine gate_guard (by rfl) ?_; dsimp only)); refine Kd.R_lit k48 _ 48 ?hg (N := 6) ?hd (xs := ([(⟨3, 31, 500⟩ : S48)] : List (S48))) (inner := [.int .i64 3, .int .i64 31, .int .i64 500]) (ok := fun _ => True) (okp := fun _ => True) ?hr ?hp (fun _ hk => hk) trivial (Below.refl _ _) (Nat.le_refl _) (by simp) ?_; (case hd => rfl); (case hg => rfl); (case hr => first | (go_simp; done) | (go_simp; rfl)); (case hp => exact (Reps.c3 (show Kd.M k48 _ _ _ (⟨3, 31, 500⟩ : S48) [.int .i64 3, .int .i64 31, .int .i64 500] from (k48_mkM _ _ _ (⟨3, 31, 500⟩ : S48) )) (Reps.none _ _))); intro v432 w35 ho36 hb hg_ hnew_; clear hg_ hnew_; (first | rw [← Ny431.out] at ho36 | (simp only [Int.reduceToNat] at ho36; rw [← Ny431.out] at ho36)); have HO433 := ka (Kd.R_lower ho36 (below_size (kw HB.out))); replace HB := ka (below_step (kw HB.out) hb); clear hb ho36; obtain ⟨Ao37, co37, eo37⟩ := Kd.R_slice HO433.out; subst eo37) | ((with_reducible refine gate_callee (f := 10) rfl ?_); refine kg (some 7) rfl rfl Try.func10 (by kernel_rfl) rfl #[.slice Ao37 y431.length co37, .int .i64 20454] rfl ?_; (with_reducible refine (calendar_Months.calls k _ _ y431 20454 t434 none _ ?side1 ?side2 A1.out).mono ?_); (case side1 => repeat (first | exact (Kd.R_reads' HO433.out).2.2 | (with_reducible refine Kd.C_alloc ?_ _) | (with_reducible refine Kd.C_drewN ?_ _) | (with_reducible refine Kd.C_drew ?_))); (case side2 => exact (Kd.R_reads' HO433.out).2.1); rintro e w38 ⟨v436, rfl, ho0, hb⟩; refine ⟨_, rfl, ?_⟩; replace HO433 := ka (Kd.R_below (kr HO433.out) hb); have HO437 := ka (Kd.R_lower ho0 (below_size (kw HB.out))); replace HB := ka (below_step (kw HB.out) hb); (try clear hb); (try clear hb2); (try clear hk); (try clear hi); (try clear ho0); (try simp only [errW_none, errW_some])) | ((with_reducible refine gate_dst (N := 11) rfl ?_); (try (refine gate_guard (by rfl) ?_; dsimp only)); refine Kd.R_lit k48 _ 48 ?hg (N := 11) ?hd (xs := ([(⟨0, 0, 0⟩ : S48)] : List (S48))) (inner := [.int .i64 0, .int .i64 0, .int .i64 0]) (ok := fun _ => True) (okp := fun _ => True) ?hr ?hp (fun _ hk => hk) trivial (Below.refl _ _) (Nat.le_refl _) (by simp) ?_; (case hd => rfl); (case hg => rfl); (case hr => first | (go_simp; done) | (go_simp; rfl)); (case hp => exact (Reps.c3 (show Kd.M k48 _ _ _ (⟨0, 0, 0⟩ : S48) [.int .i64 0, .int .i64 0, .int .i64 0] from (k48_mkM _ _ _ (⟨0, 0, 0⟩ : S48) )) (Reps.none _ _))); intro v439 w39 ho40 hb hg_ hnew_; clear hg_ hnew_; (first | rw [← Ny438.out] at ho40 | (simp only [Int.reduceToNat] at ho40; rw [← Ny438.out] at ho40)); replace HO437 := ka (Kd.R_below (kr HO437.out) hb); have HO440 := ka (Kd.R_lower (Kd.R_new' ho40 (Kd.R_lt (kr HO433.out))) (below_size (kw HB.out))); replace HO433 := ka (Kd.R_elder' (kr HO433.out) (Kd.R_base ho40) hb); replace HB := ka (below_step (kw HB.out) hb); clear hb ho40; obtain ⟨Ao41, co41, eo41⟩ := Kd.R_slice HO440.out; subst eo41) | ((with_reducible refine gate_callee (f := 16) rfl ?_); refine kg (some 12) rfl rfl Try.func16 (by kernel_rfl) rfl #[.slice Ao41 y438.length co41] rfl ?_; (with_reducible refine (calendar_Check.calls _ _ y438 t441 _ ?side1 ?side2 A2.out).mono ?_); (case side1 => repeat (first | exact (Kd.R_reads' HO440.out).2.2 | (with_reducible refine Kd.C_alloc ?_ _) | (with_reducible refine Kd.C_drewN ?_ _) | (with_reducible refine Kd.C_drew ?_))); (case side2 => exact (Kd.R_reads' HO440.out).2.1); rintro e w42 ⟨rfl, hb⟩; refine ⟨_, rfl, ?_⟩; replace HO433 := ka (Kd.R_below (kr HO433.out) hb); replace HO437 := ka (Kd.R_below (kr HO437.out) hb); replace HO440 := ka (Kd.R_below (kr HO440.out) hb); replace HB := ka (below_step (kw HB.out) hb); (try clear hb); (try clear hb2); (try clear hk); (try clear hi); (try simp only [errW_none, errW_some]); obtain ⟨Ao43, co43, eo43⟩ := Kd.R_slice HO437.out; subst eo43; have p443 : 0 ≤ (2 : Int) := (by omega); have q443 : 2 < (t434.length : Int) := of_decide_eq_true (by first | (with_reducible assumption) | assumption); obtain ⟨ad443, e443, hx443_0⟩ := Kd.at_int (Kd.R_reads' HO437.out).2.2 2 p443 q443; cases e443; (try simp only [show (2 : Int).toNat = 2 from rfl, Nat.reduceMul, Nat.reduceEqDiff, Go.Addr.add, ↓reduceIte] at hx443_0); have qi443 : (2 < t434.length) = True := eq_true (by omega); (try rw [show ((2 : Int)).toNat = 2 from rfl] at hx443_0); replace p443 := eq_true p443; replace q443 := eq_true q443))
     go_ret
     exact ⟨by first | rfl | (simp [errW_none, errW_some] <;> rfl) | (simp [*, errW_none, errW_some] <;> rfl), by repeat (first | (with_reducible first | exact HB.out | apply kc1 | apply kc2 | apply kc3) | exact HB.out)⟩
   ·rw [if_neg c4] at H
    exact absurd H (by simp)
  ·rw [if_neg c3] at H
   have c3b0 : ((t434.length : Int) == 12) = false := beq_eq_false_iff_ne.mpr c3
   have c3b1 : ((t434.length : Int) != 12) = true := bne_iff_ne.mpr c3
   obtain rfl := Option.some.inj H
   go_enter Try.func9, Try.ntmps9
   go_wp2_with (first | ((with_reducible refine gate_dst (N := 6) rfl ?_); (try (refine gate_guard (by rfl) ?_; dsimp only)); refine Kd.R_lit k48 _ 48 ?hg (N := 6) ?hd (xs := ([(⟨3, 31, 500⟩ : S48)] : List (S48))) (inner := [.int .i64 3, .int .i64 31, .int .i64 500]) (ok := fun _ => True) (okp := fun _ => True) ?hr ?hp (fun _ hk => hk) trivial (Below.refl _ _) (Nat.le_refl _) (by simp) ?_; (case hd => rfl); (case hg => rfl); (case hr => first | (go_simp; done) | (go_simp; rfl)); (case hp => exact (Reps.c3 (show Kd.M k48 _ _ _ (⟨3, 31, 500⟩ : S48) [.int .i64 3, .int .i64 31, .int .i64 500] from (k48_mkM _ _ _ (⟨3, 31, 500⟩ : S48) )) (Reps.none _ _))); intro v432 w44 ho45 hb hg_ hnew_; clear hg_ hnew_; (first | rw [← Ny431.out] at ho45 | (simp only [Int.reduceToNat] at ho45; rw [← Ny431.out] at ho45)); have HO433 := ka (Kd.R_lower ho45 (below_size (kw HB.out))); replace HB := ka (below_step (kw HB.out) hb); clear hb ho45; obtain ⟨Ao46, co46, eo46⟩ := Kd.R_slice HO433.out; subst eo46) | ((with_reducible refine gate_callee (f := 10) rfl ?_); refine kg (some 7) rfl rfl Try.func10 (by kernel_rfl) rfl #[.slice Ao46 y431.length co46, .int .i64 20454] rfl ?_; (with_reducible refine (calendar_Months.calls k _ _ y431 20454 t434 none _ ?side1 ?side2 A1.out).mono ?_); (case side1 => repeat (first | exact (Kd.R_reads' HO433.out).2.2 | (with_reducible refine Kd.C_alloc ?_ _) | (with_reducible refine Kd.C_drewN ?_ _) | (with_reducible refine Kd.C_drew ?_))); (case side2 => exact (Kd.R_reads' HO433.out).2.1); rintro e w47 ⟨v436, rfl, ho0, hb⟩; refine ⟨_, rfl, ?_⟩; replace HO433 := ka (Kd.R_below (kr HO433.out) hb); have HO437 := ka (Kd.R_lower ho0 (below_size (kw HB.out))); replace HB := ka (below_step (kw HB.out) hb); (try clear hb); (try clear hb2); (try clear hk); (try clear hi); (try clear ho0); (try simp only [errW_none, errW_some])) | ((with_reducible refine gate_dst (N := 11) rfl ?_); (try (refine gate_guard (by rfl) ?_; dsimp only)); refine Kd.R_lit k48 _ 48 ?hg (N := 11) ?hd (xs := ([(⟨0, 0, 0⟩ : S48)] : List (S48))) (inner := [.int .i64 0, .int .i64 0, .int .i64 0]) (ok := fun _ => True) (okp := fun _ => True) ?hr ?hp (fun _ hk => hk) trivial (Below.refl _ _) (Nat.le_refl _) (by simp) ?_; (case hd => rfl); (case hg => rfl); (case hr => first | (go_simp; done) | (go_simp; rfl)); (case hp => exact (Reps.c3 (show Kd.M k48 _ _ _ (⟨0, 0, 0⟩ : S48) [.int .i64 0, .int .i64 0, .int .i64 0] from (k48_mkM _ _ _ (⟨0, 0, 0⟩ : S48) )) (Reps.none _ _))); intro v439 w48 ho49 hb hg_ hnew_; clear hg_ hnew_; (first | rw [← Ny438.out] at ho49 | (simp only [Int.reduceToNat] at ho49; rw [← Ny438.out] at ho49)); replace HO437 := ka (Kd.R_below (kr HO437.out) hb); have HO440 := ka (Kd.R_lower (Kd.R_new' ho49 (Kd.R_lt (kr HO433.out))) (below_size (kw HB.out))); replace HO433 := ka (Kd.R_elder' (kr HO433.out) (Kd.R_base ho49) hb); replace HB := ka (below_step (kw HB.out) hb); clear hb ho49; obtain ⟨Ao50, co50, eo50⟩ := Kd.R_slice HO440.out; subst eo50) | ((with_reducible refine gate_callee (f := 16) rfl ?_); refine kg (some 12) rfl rfl Try.func16 (by kernel_rfl) rfl #[.slice Ao50 y438.length co50] rfl ?_; (with_reducible refine (calendar_Check.calls _ _ y438 t441 _ ?side1 ?side2 A2.out).mono ?_); (case side1 => repeat (first | exact (Kd.R_reads' HO440.out).2.2 | (with_reducible refine Kd.C_alloc ?_ _) | (with_reducible refine Kd.C_drewN ?_ _) | (with_reducible refine Kd.C_drew ?_))); (case side2 => exact (Kd.R_reads' HO440.out).2.1); rintro e w51 ⟨rfl, hb⟩; refine ⟨_, rfl, ?_⟩; replace HO433 := ka (Kd.R_below (kr HO433.out) hb); replace HO437 := ka (Kd.R_below (kr HO437.out) hb); replace HO440 := ka (Kd.R_below (kr HO440.out) hb); replace HB := ka (below_step (kw HB.out) hb); (try clear hb); (try clear hb2); (try clear hk); (try clear hi); (try simp only [errW_none, errW_some]); obtain ⟨Ao52, co52, eo52⟩ := Kd.R_slice HO437.out; subst eo52))
   go_ret
   exact ⟨by first | rfl | (simp [errW_none, errW_some] <;> rfl) | (simp [*, errW_none, errW_some] <;> rfl), by repeat (first | (with_reducible first | exact HB.out | apply kc1 | apply kc2 | apply kc3) | exact HB.out)⟩
 ·have H1 : (some false) = some r := by rw [if_neg (show ¬ (some q442).isNone = true by simp)] at H; exact H
  clear H
  have H := H1
  clear H1
  try simp only [errW_none, errW_some]
  obtain rfl := Option.some.inj H
  go_enter Try.func9, Try.ntmps9
  go_wp2_with (first | ((with_reducible refine gate_dst (N := 6) rfl ?_); (try (refine gate_guard (by rfl) ?_; dsimp only)); refine Kd.R_lit k48 _ 48 ?hg (N := 6) ?hd (xs := ([(⟨3, 31, 500⟩ : S48)] : List (S48))) (inner := [.int .i64 3, .int .i64 31, .int .i64 500]) (ok := fun _ => True) (okp := fun _ => True) ?hr ?hp (fun _ hk => hk) trivial (Below.refl _ _) (Nat.le_refl _) (by simp) ?_; (case hd => rfl); (case hg => rfl); (case hr => first | (go_simp; done) | (go_simp; rfl)); (case hp => exact (Reps.c3 (show Kd.M k48 _ _ _ (⟨3, 31, 500⟩ : S48) [.int .i64 3, .int .i64 31, .int .i64 500] from (k48_mkM _ _ _ (⟨3, 31, 500⟩ : S48) )) (Reps.none _ _))); intro v432 w53 ho54 hb hg_ hnew_; clear hg_ hnew_; (first | rw [← Ny431.out] at ho54 | (simp only [Int.reduceToNat] at ho54; rw [← Ny431.out] at ho54)); have HO433 := ka (Kd.R_lower ho54 (below_size (kw HB.out))); replace HB := ka (below_step (kw HB.out) hb); clear hb ho54; obtain ⟨Ao55, co55, eo55⟩ := Kd.R_slice HO433.out; subst eo55) | ((with_reducible refine gate_callee (f := 10) rfl ?_); refine kg (some 7) rfl rfl Try.func10 (by kernel_rfl) rfl #[.slice Ao55 y431.length co55, .int .i64 20454] rfl ?_; (with_reducible refine (calendar_Months.calls k _ _ y431 20454 t434 (some q442) _ ?side1 ?side2 A1.out).mono ?_); (case side1 => repeat (first | exact (Kd.R_reads' HO433.out).2.2 | (with_reducible refine Kd.C_alloc ?_ _) | (with_reducible refine Kd.C_drewN ?_ _) | (with_reducible refine Kd.C_drew ?_))); (case side2 => exact (Kd.R_reads' HO433.out).2.1); rintro e w56 ⟨v436, rfl, ho0, hb⟩; refine ⟨_, rfl, ?_⟩; replace HO433 := ka (Kd.R_below (kr HO433.out) hb); have HO437 := ka (Kd.R_lower ho0 (below_size (kw HB.out))); replace HB := ka (below_step (kw HB.out) hb); (try clear hb); (try clear hb2); (try clear hk); (try clear hi); (try clear ho0); (try simp only [errW_none, errW_some])) | ((with_reducible refine gate_dst (N := 11) rfl ?_); (try (refine gate_guard (by rfl) ?_; dsimp only)); refine Kd.R_lit k48 _ 48 ?hg (N := 11) ?hd (xs := ([(⟨0, 0, 0⟩ : S48)] : List (S48))) (inner := [.int .i64 0, .int .i64 0, .int .i64 0]) (ok := fun _ => True) (okp := fun _ => True) ?hr ?hp (fun _ hk => hk) trivial (Below.refl _ _) (Nat.le_refl _) (by simp) ?_; (case hd => rfl); (case hg => rfl); (case hr => first | (go_simp; done) | (go_simp; rfl)); (case hp => exact (Reps.c3 (show Kd.M k48 _ _ _ (⟨0, 0, 0⟩ : S48) [.int .i64 0, .int .i64 0, .int .i64 0] from (k48_mkM _ _ _ (⟨0, 0, 0⟩ : S48) )) (Reps.none _ _))); intro v439 w57 ho58 hb hg_ hnew_; clear hg_ hnew_; (first | rw [← Ny438.out] at ho58 | (simp only [Int.reduceToNat] at ho58; rw [← Ny438.out] at ho58)); replace HO437 := ka (Kd.R_below (kr HO437.out) hb); have HO440 := ka (Kd.R_lower (Kd.R_new' ho58 (Kd.R_lt (kr HO433.out))) (below_size (kw HB.out))); replace HO433 := ka (Kd.R_elder' (kr HO433.out) (Kd.R_base ho58) hb); replace HB := ka (below_step (kw HB.out) hb); clear hb ho58; obtain ⟨Ao59, co59, eo59⟩ := Kd.R_slice HO440.out; subst eo59) | ((with_reducible refine gate_callee (f := 16) rfl ?_); refine kg (some 12) rfl rfl Try.func16 (by kernel_rfl) rfl #[.slice Ao59 y438.length co59] rfl ?_; (with_reducible refine (calendar_Check.calls _ _ y438 t441 _ ?side1 ?side2 A2.out).mono ?_); (case side1 => repeat (first | exact (Kd.R_reads' HO440.out).2.2 | (with_reducible refine Kd.C_alloc ?_ _) | (with_reducible refine Kd.C_drewN ?_ _) | (with_reducible refine Kd.C_drew ?_))); (case side2 => exact (Kd.R_reads' HO440.out).2.1); rintro e w60 ⟨rfl, hb⟩; refine ⟨_, rfl, ?_⟩; replace HO433 := ka (Kd.R_below (kr HO433.out) hb); replace HO437 := ka (Kd.R_below (kr HO437.out) hb); replace HO440 := ka (Kd.R_below (kr HO440.out) hb); replace HB := ka (below_step (kw HB.out) hb); (try clear hb); (try clear hb2); (try clear hk); (try clear hi); (try simp only [errW_none, errW_some])))
  go_ret
  exact ⟨by first | rfl | (simp [errW_none, errW_some] <;> rfl) | (simp [*, errW_none, errW_some] <;> rfl), by repeat (first | (with_reducible first | exact HB.out | apply kc1 | apply kc2 | apply kc3) | exact HB.out)⟩

/-! ### trivetlaw14_up: function 9, its laws -/
theorem trivetlaw14_up.num (k : Nat) (hk : 40 ≤ k) : trivetlaw14_up.f k = some true := by
 have h1 : Cal.ask [⟨3, 31, 500⟩] 20454 := by decide +kernel
 have h2 : ¬ calendar_Check.may [⟨0, 0, 0⟩] := by decide +kernel
 have h3 : Cal.mon [⟨3, 31, 500⟩] (M.mo 20454) = [0, 0, 500, 0, 0, 0, 0, 0, 0, 0, 0, 0] := by decide +kernel
 unfold trivetlaw14_up.f
 rw [calendar_Months.num k _ 20454 (by decide) hk, if_pos h1, Option.bind_some, h3]
 unfold calendar_Check.f
 rw [if_neg h2, Option.bind_some]
 rfl

/-! ### trivetref04_Days: function 24 -/
mutual
def trivetref04_Days.j0 : Nat → Int → Int → Bool → Option (Int)
 | 0, _, _, _ => none
 | k + 1, x0, x1, x18 => if x18 = true then (some 0) else (if x1 = 2 then (if (Int.tmod x0 400) = 0 then (trivetref04_Days.j1 k true) else (if (Int.tmod x0 4) = 0 then (trivetref04_Days.j1 k ((Int.tmod x0 100) != 0)) else (trivetref04_Days.j1 k false))) else (if x1 = 4 then (some 30) else (if x1 = 6 then (some 30) else (if x1 = 9 then (some 30) else (if x1 = 11 then (some 30) else (some 31))))))
def trivetref04_Days.j1 : Nat → Bool → Option (Int)
 | 0, _ => none
 | k + 1, x33 => if x33 = true then (some 29) else (some 28)
end
def trivetref04_Days.f (k : Nat) (a0 : Int) (a1 : Int) : Option (Int) := if a0 < 1900 then (trivetref04_Days.j0 k a0 a1 true) else (if a0 > 2199 then (trivetref04_Days.j0 k a0 a1 true) else (if a1 < 1 then (trivetref04_Days.j0 k a0 a1 true) else (trivetref04_Days.j0 k a0 a1 (decide (a1 > 12)))))
theorem trivetref04_Days.mono_l : ∀ k, (∀ y0 y1 y2, LeO (trivetref04_Days.j0 k y0 y1 y2) (trivetref04_Days.j0 (k + 1) y0 y1 y2)) ∧ (∀ y0, LeO (trivetref04_Days.j1 k y0) (trivetref04_Days.j1 (k + 1) y0))
 | 0 => ⟨fun _ _ _ r h => by simp [trivetref04_Days.j0] at h, fun _ r h => by simp [trivetref04_Days.j1] at h⟩
 | k + 1 => by
  obtain ⟨ih0, ih1⟩ := trivetref04_Days.mono_l k
  refine ⟨?_, ?_⟩
  ·intro y0 y1 y2
   unfold trivetref04_Days.j0
   repeat' first
   | (with_reducible exact ih0 _ _ _)
   | (with_reducible exact ih1 _)
   | (with_reducible exact LeO.refl _)
   | (with_reducible exact LeO.none _)
   | (with_reducible refine LeO.ite ?_ ?_)
   | (with_reducible refine LeO.bind ?_ (fun _ => ?_))
   | exact ih0 _ _ _
   | exact ih1 _
   | exact LeO.none _
   | refine LeO.ite ?_ ?_
   | refine LeO.bind ?_ (fun _ => ?_)
  ·intro y0
   unfold trivetref04_Days.j1
   repeat' first
   | (with_reducible exact ih0 _ _ _)
   | (with_reducible exact ih1 _)
   | (with_reducible exact LeO.refl _)
   | (with_reducible exact LeO.none _)
   | (with_reducible refine LeO.ite ?_ ?_)
   | (with_reducible refine LeO.bind ?_ (fun _ => ?_))
   | exact ih0 _ _ _
   | exact ih1 _
   | exact LeO.none _
   | refine LeO.ite ?_ ?_
   | refine LeO.bind ?_ (fun _ => ?_)
theorem trivetref04_Days.mono : ∀ a0 a1 k, LeO (trivetref04_Days.f k a0 a1) (trivetref04_Days.f (k + 1) a0 a1) := by
 intro a0 a1 k
 obtain ⟨ih0, ih1⟩ := trivetref04_Days.mono_l k
 unfold trivetref04_Days.f
 repeat' first
   | (with_reducible exact ih0 _ _ _)
   | (with_reducible exact ih1 _)
   | (with_reducible exact LeO.refl _)
   | (with_reducible exact LeO.none _)
   | (with_reducible refine LeO.ite ?_ ?_)
   | (with_reducible refine LeO.bind ?_ (fun _ => ?_))
   | exact ih0 _ _ _
   | exact ih1 _
   | exact LeO.none _
   | refine LeO.ite ?_ ?_
   | refine LeO.bind ?_ (fun _ => ?_)
set_option maxHeartbeats 8000000 in
set_option maxRecDepth 100000 in
theorem trivetref04_Days.calls (k : Nat) (a0 : Int) (a1 : Int) (r : Int) (w : World) (h : trivetref04_Days.f k a0 a1 = some r) :
  Calls Try.prog 24 #[.int .i64 a0, .int .i64 a1] w fun e w' => e = .returned (.int .i64 r) ∧ Drawn0 w w' := by
 have H : (if a0 < 1900 then (trivetref04_Days.j0 k a0 a1 true) else (if a0 > 2199 then (trivetref04_Days.j0 k a0 a1 true) else (if a1 < 1 then (trivetref04_Days.j0 k a0 a1 true) else (trivetref04_Days.j0 k a0 a1 (decide (a1 > 12)))))) = some r := h
 clear h
 have HC3 := ka H
 clear H
 go_enter Try.func24, Try.ntmps24
 go_upto_region 1 with (fail)
 go_cut [18] (fun v18 wc => ∃ (kq : Nat) (x18_2 : Bool), v18 = .bool x18_2 ∧ Aside0 (trivetref04_Days.j0 kq a0 a1 x18_2 = some r) ∧ Aside0 (kq ≤ k) ∧ Drawn0 w wc)
 case first =>
  have H := HC3.out
  clear HC3
  by_cases c4 : a0 < 1900
  ·rw [if_pos c4] at H
   have c4b0 : decide (a0 < 1900) = true := decide_eq_true c4
   clear c4
   (first | rw [c4b0] | (simp only [i64_w, i32_w]; rw [c4b0]) | skip)
   have H' := ka H
   clear H
   go_wp2
   go_meet
   case rel => exact ⟨_, (true), (by first | rfl | (simp; done) | (simp [*]; done)), H', ⟨by first | omega | exact Nat.le_refl _⟩, by repeat (first | exact Drawn0.refl _ | apply Drawn0.step)⟩
  ·rw [if_neg c4] at H
   have c4b0 : decide (a0 < 1900) = false := decide_eq_false c4
   clear c4
   (first | rw [c4b0] | (simp only [i64_w, i32_w]; rw [c4b0]) | skip)
   by_cases c5 : a0 > 2199
   ·rw [if_pos c5] at H
    have c5b0 : decide (2199 < a0) = true := decide_eq_true c5
    clear c5
    have H' := ka H
    clear H
    go_wp2
    go_meet
    case rel => exact ⟨_, (true), (by first | rfl | (simp; done) | (simp [*]; done)), H', ⟨by first | omega | exact Nat.le_refl _⟩, by repeat (first | exact Drawn0.refl _ | apply Drawn0.step)⟩
   ·rw [if_neg c5] at H
    have c5b0 : decide (2199 < a0) = false := decide_eq_false c5
    clear c5
    by_cases c6 : a1 < 1
    ·rw [if_pos c6] at H
     have c6b0 : decide (a1 < 1) = true := decide_eq_true c6
     clear c6
     have H' := ka H
     clear H
     go_wp2
     go_meet
     case rel => exact ⟨_, (true), (by first | rfl | (simp; done) | (simp [*]; done)), H', ⟨by first | omega | exact Nat.le_refl _⟩, by repeat (first | exact Drawn0.refl _ | apply Drawn0.step)⟩
    ·rw [if_neg c6] at H
     have c6b0 : decide (a1 < 1) = false := decide_eq_false c6
     clear c6
     have H' := ka H
     clear H
     go_wp2
     go_meet
     case rel => exact ⟨_, (decide (a1 > 12)), (by first | rfl | (simp; done) | (simp [*]; done)), H', ⟨by first | omega | exact Nat.le_refl _⟩, by repeat (first | exact Drawn0.refl _ | apply Drawn0.step)⟩
 case rest =>
  clear HC3
  try clear c2
  try clear p2
  try clear c4
  try clear c4b0
  try clear c5
  try clear c5b0
  try clear c6
  try clear c6b0
  obtain ⟨kq, x18_2, rfl, HA, HJ2, ⟨mc2, rfl⟩⟩ := hcut
  cases kq with
  | zero => exact absurd HA.out (by simp [trivetref04_Days.j0])
  | succ kj2 =>
   have H := HA.out
   clear HA
   simp only [trivetref04_Days.j0] at H
   by_cases c7 : x18_2 = true
   ·subst c7
    have H1 : (some 0) = some r := by rw [if_pos rfl] at H; exact H
    clear H
    have H := H1
    clear H1
    obtain rfl := Option.some.inj H
    go_wp2
    go_ret
    exact ⟨by first | rfl | (simp; done) | (simp [*]; done), by repeat (first | exact Drawn0.refl _ | apply Drawn0.step)⟩
   ·replace c7 := Bool.eq_false_iff.mpr c7
    subst c7
    have H1 : (if a1 = 2 then (if (Int.tmod a0 400) = 0 then (trivetref04_Days.j1 kj2 true) else (if (Int.tmod a0 4) = 0 then (trivetref04_Days.j1 kj2 ((Int.tmod a0 100) != 0)) else (trivetref04_Days.j1 kj2 false))) else (if a1 = 4 then (some 30) else (if a1 = 6 then (some 30) else (if a1 = 9 then (some 30) else (if a1 = 11 then (some 30) else (some 31)))))) = some r := by rw [if_neg (show ¬ (false = true) by decide)] at H; exact H
    clear H
    have H := H1
    clear H1
    by_cases c8 : a1 = 2
    ·rw [if_pos c8] at H
     have c8b0 : (a1 == 2) = true := beq_iff_eq.mpr c8
     have c8b1 : (a1 != 2) = false := bne_eq_false_iff_eq.mpr c8
     clear c8
     have HC9 := ka H
     clear H
     go_upto_region 4 with (fail)
     go_cut [33] (fun v33 wc => ∃ (kq : Nat) (x33_8 : Bool), v33 = .bool x33_8 ∧ Aside0 (trivetref04_Days.j1 kq x33_8 = some r) ∧ Aside0 (kq ≤ kj2) ∧ Drawn0 w wc)
     case first =>
      have H := HC9.out
      clear HC9
      by_cases c10 : (Int.tmod a0 400) = 0
      ·rw [if_pos c10] at H
       have c10b0 : ((Int.tmod a0 400) == 0) = true := beq_iff_eq.mpr c10
       have c10b1 : ((Int.tmod a0 400) != 0) = false := bne_eq_false_iff_eq.mpr c10
       clear c10
       (first | rw [c10b0] | (simp only [i64_w, i32_w]; rw [c10b0]) | skip)
       have H' := ka H
       clear H
       go_wp2
       go_meet
       case rel => exact ⟨_, (true), (by first | rfl | (simp; done) | (simp [*]; done)), H', ⟨by have := HJ2.out; first | omega | exact Nat.le_refl _⟩, by repeat (first | exact Drawn0.refl _ | apply Drawn0.step)⟩
      ·rw [if_neg c10] at H
       have c10b0 : ((Int.tmod a0 400) == 0) = false := beq_eq_false_iff_ne.mpr c10
       have c10b1 : ((Int.tmod a0 400) != 0) = true := bne_iff_ne.mpr c10
       (first | rw [c10b0] | (simp only [i64_w, i32_w]; rw [c10b0]) | skip)
       by_cases c11 : (Int.tmod a0 4) = 0
       ·rw [if_pos c11] at H
        have c11b0 : ((Int.tmod a0 4) == 0) = true := beq_iff_eq.mpr c11
        have c11b1 : ((Int.tmod a0 4) != 0) = false := bne_eq_false_iff_eq.mpr c11
        clear c11
        have H' := ka H
        clear H
        go_wp2
        go_meet
        case rel => exact ⟨_, (((Int.tmod a0 100) != 0)), (by first | rfl | (simp; done) | (simp [*]; done)), H', ⟨by have := HJ2.out; first | omega | exact Nat.le_refl _⟩, by repeat (first | exact Drawn0.refl _ | apply Drawn0.step)⟩
       ·rw [if_neg c11] at H
        have c11b0 : ((Int.tmod a0 4) == 0) = false := beq_eq_false_iff_ne.mpr c11
        have c11b1 : ((Int.tmod a0 4) != 0) = true := bne_iff_ne.mpr c11
        have H' := ka H
        clear H
        go_wp2
        go_meet
        case rel => exact ⟨_, (false), (by first | rfl | (simp; done) | (simp [*]; done)), H', ⟨by have := HJ2.out; first | omega | exact Nat.le_refl _⟩, by repeat (first | exact Drawn0.refl _ | apply Drawn0.step)⟩
     case rest =>
      clear HC9
      try clear c1
      try clear c2
      try clear p2
      try clear c4
      try clear c4b0
      try clear c5
      try clear c5b0
      try clear c6
      try clear c6b0
      try clear c7
      try clear c8
      try clear c8b0
      try clear c8b1
      try clear c10
      try clear c10b0
      try clear c10b1
      try clear c11
      try clear c11b0
      try clear c11b1
      try clear p2
      obtain ⟨kq, x33_8, rfl, HA, HJ8, ⟨mc8, rfl⟩⟩ := hcut
      cases kq with
      | zero => exact absurd HA.out (by simp [trivetref04_Days.j1])
      | succ kj8 =>
       have H := HA.out
       clear HA
       simp only [trivetref04_Days.j1] at H
       by_cases c12 : x33_8 = true
       ·subst c12
        have H1 : (some 29) = some r := by rw [if_pos rfl] at H; exact H
        clear H
        have H := H1
        clear H1
        obtain rfl := Option.some.inj H
        go_wp2
        go_ret
        exact ⟨by first | rfl | (simp; done) | (simp [*]; done), by repeat (first | exact Drawn0.refl _ | apply Drawn0.step)⟩
       ·replace c12 := Bool.eq_false_iff.mpr c12
        subst c12
        have H1 : (some 28) = some r := by rw [if_neg (show ¬ (false = true) by decide)] at H; exact H
        clear H
        have H := H1
        clear H1
        obtain rfl := Option.some.inj H
        go_wp2
        go_ret
        exact ⟨by first | rfl | (simp; done) | (simp [*]; done), by repeat (first | exact Drawn0.refl _ | apply Drawn0.step)⟩
    ·rw [if_neg c8] at H
     have c8b0 : (a1 == 2) = false := beq_eq_false_iff_ne.mpr c8
     have c8b1 : (a1 != 2) = true := bne_iff_ne.mpr c8
     by_cases c13 : a1 = 4
     ·rw [if_pos c13] at H
      have c13b0 : (a1 == 4) = true := beq_iff_eq.mpr c13
      have c13b1 : (a1 != 4) = false := bne_eq_false_iff_eq.mpr c13
      clear c13
      obtain rfl := Option.some.inj H
      go_wp2
      go_ret
      exact ⟨by first | rfl | (simp; done) | (simp [*]; done), by repeat (first | exact Drawn0.refl _ | apply Drawn0.step)⟩
     ·rw [if_neg c13] at H
      have c13b0 : (a1 == 4) = false := beq_eq_false_iff_ne.mpr c13
      have c13b1 : (a1 != 4) = true := bne_iff_ne.mpr c13
      by_cases c14 : a1 = 6
      ·rw [if_pos c14] at H
       have c14b0 : (a1 == 6) = true := beq_iff_eq.mpr c14
       have c14b1 : (a1 != 6) = false := bne_eq_false_iff_eq.mpr c14
       clear c14
       obtain rfl := Option.some.inj H
       go_wp2
       go_ret
       exact ⟨by first | rfl | (simp; done) | (simp [*]; done), by repeat (first | exact Drawn0.refl _ | apply Drawn0.step)⟩
      ·rw [if_neg c14] at H
       have c14b0 : (a1 == 6) = false := beq_eq_false_iff_ne.mpr c14
       have c14b1 : (a1 != 6) = true := bne_iff_ne.mpr c14
       by_cases c15 : a1 = 9
       ·rw [if_pos c15] at H
        have c15b0 : (a1 == 9) = true := beq_iff_eq.mpr c15
        have c15b1 : (a1 != 9) = false := bne_eq_false_iff_eq.mpr c15
        clear c15
        obtain rfl := Option.some.inj H
        go_wp2
        go_ret
        exact ⟨by first | rfl | (simp; done) | (simp [*]; done), by repeat (first | exact Drawn0.refl _ | apply Drawn0.step)⟩
       ·rw [if_neg c15] at H
        have c15b0 : (a1 == 9) = false := beq_eq_false_iff_ne.mpr c15
        have c15b1 : (a1 != 9) = true := bne_iff_ne.mpr c15
        by_cases c16 : a1 = 11
        ·rw [if_pos c16] at H
         have c16b0 : (a1 == 11) = true := beq_iff_eq.mpr c16
         have c16b1 : (a1 != 11) = false := bne_eq_false_iff_eq.mpr c16
         clear c16
         obtain rfl := Option.some.inj H
         go_wp2
         go_ret
         exact ⟨by first | rfl | (simp; done) | (simp [*]; done), by repeat (first | exact Drawn0.refl _ | apply Drawn0.step)⟩
        ·rw [if_neg c16] at H
         have c16b0 : (a1 == 11) = false := beq_eq_false_iff_ne.mpr c16
         have c16b1 : (a1 != 11) = true := bne_iff_ne.mpr c16
         obtain rfl := Option.some.inj H
         go_wp2
         go_ret
         exact ⟨by first | rfl | (simp; done) | (simp [*]; done), by repeat (first | exact Drawn0.refl _ | apply Drawn0.step)⟩

/-! ### trivetref04_Days_s: function 24, told plainly -/
theorem trivetref04_Days.tells (y m : Int) (k : Nat) (hk : 2 ≤ k) : trivetref04_Days.f k y m = some (M.days y m) := by
 obtain ⟨k, rfl⟩ : ∃ m, k = m + 2 := ⟨k - 2, by omega⟩
 have out : ¬ (1900 ≤ y ∧ y ≤ 2199 ∧ 1 ≤ m ∧ m ≤ 12) → trivetref04_Days.j0 (k + 2) y m true = some (M.days y m) := by
  intro h
  unfold M.days
  rw [if_neg h]
  simp [trivetref04_Days.j0]
 unfold trivetref04_Days.f
 by_cases h1 : y < 1900
 ·rw [if_pos h1]; exact out (by omega)
 rw [if_neg h1]
 by_cases h2 : y > 2199
 ·rw [if_pos h2]; exact out (by omega)
 rw [if_neg h2]
 by_cases h3 : m < 1
 ·rw [if_pos h3]; exact out (by omega)
 rw [if_neg h3]
 by_cases h4 : m > 12
 ·rw [decide_eq_true h4]; exact out (by omega)
 rw [decide_eq_false h4]
 simp only [trivetref04_Days.j0]
 rw [if_neg (by decide), M.tmodu (by omega), M.tmodu (by omega), M.tmodu (by omega)]
 unfold M.days
 rw [if_pos (show 1900 ≤ y ∧ y ≤ 2199 ∧ 1 ≤ m ∧ m ≤ 12 by omega)]
 by_cases h5 : m = 2
 ·rw [if_pos h5, if_pos h5]
  unfold M.leap
  simp only [trivetref04_Days.j1]
  by_cases g1 : y % 400 = 0
  ·have : y % 4 = 0 := by omega
   simp [g1]
  ·by_cases g2 : y % 4 = 0
   ·by_cases g3 : y % 100 = 0 <;> simp [g1, g2, g3]
   ·simp [g1, g2]
 ·rw [if_neg h5, if_neg h5]
  by_cases g4 : m = 4
  ·rw [if_pos g4, if_pos (.inl g4)]
  rw [if_neg g4]
  by_cases g6 : m = 6
  ·rw [if_pos g6, if_pos (.inr (.inl g6))]
  rw [if_neg g6]
  by_cases g9 : m = 9
  ·rw [if_pos g9, if_pos (.inr (.inr (.inl g9)))]
  rw [if_neg g9]
  by_cases g11 : m = 11
  ·rw [if_pos g11, if_pos (.inr (.inr (.inr g11)))]
  rw [if_neg g11, if_neg (by omega)]
def trivetref04_Days_s.f (y m : Int) : Option Int := some (M.days y m)
theorem trivetref04_Days_s.calls (a0 : Int) (a1 : Int) (r : Int) (w : World) (h : trivetref04_Days_s.f a0 a1 = some r) :
  Calls Try.prog 24 #[.int .i64 a0, .int .i64 a1] w fun e w' => e = .returned (.int .i64 r) ∧ Drawn0 w w' := by
 exact trivetref04_Days.calls (2) a0 a1 r w ((trivetref04_Days.tells a0 a1 (2) (Nat.le_refl _)).trans h)

/-! ### trivetref04_year: function 23 -/
def trivetref04_year.f (a0 : Int) : Option (Int) := (trivetref04_Days_s.f a0 2).bind fun t446 => (some (wrap64 (337 + t446)))
set_option maxHeartbeats 8000000 in
set_option maxRecDepth 100000 in
theorem trivetref04_year.calls (a0 : Int) (r : Int) (w : World) (h : trivetref04_year.f a0 = some r) :
  Calls Try.prog 23 #[.int .i64 a0] w fun e w' => e = .returned (.int .i64 r) ∧ Drawn0 w w' := by
 have H : ((trivetref04_Days_s.f a0 2).bind fun t446 => (some (wrap64 (337 + t446)))) = some r := h
 clear h
 replace H := Option.bind_eq_some_iff.mp H
 obtain ⟨t446, A20, H⟩ := H
 replace H : (some (wrap64 (337 + t446))) = some r := H
 have A2 := ka A20
 clear A20
 obtain rfl := Option.some.inj H
 go_enter Try.func23, Try.ntmps23
 go_wp2_with (first | ((with_reducible refine gate_callee (f := 24) rfl ?_); refine kg (some 4) rfl rfl Try.func24 (by kernel_rfl) rfl #[.int .i64 a0, .int .i64 2] rfl ?_; (with_reducible refine (trivetref04_Days_s.calls a0 2 t446 _ A2.out).mono ?_); rintro e w' ⟨rfl, ⟨nd, rfl⟩⟩; refine ⟨_, rfl, ?_⟩))
 go_ret
 exact ⟨by first | rfl | (simp; done) | (simp [*]; done), by repeat (first | exact Drawn0.refl _ | apply Drawn0.step)⟩

/-! ### trivetref04_year_s: function 23, told plainly -/
theorem trivetref04_year.tells (y : Int) : trivetref04_year.f y = some (337 + M.days y 2) := by
 have := M.days_bd y 2
 unfold trivetref04_year.f trivetref04_Days_s.f
 rw [Option.bind_some, M.w64_id (by omega) (by omega)]
def trivetref04_year_s.f (y : Int) : Option Int := some (337 + M.days y 2)
theorem trivetref04_year_s.calls (a0 : Int) (r : Int) (w : World) (h : trivetref04_year_s.f a0 = some r) :
  Calls Try.prog 23 #[.int .i64 a0] w fun e w' => e = .returned (.int .i64 r) ∧ Drawn0 w w' := by
 exact trivetref04_year.calls a0 r w ((trivetref04_year.tells a0).trans h)

end Go.Proofs.Ytmkfbaoglmmhjaa.P
