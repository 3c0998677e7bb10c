-- Written by a program of this session out of the translation of the seat: Lean functions and the proofs that the Go functions come to them.
import Derived.Test.YtimobafoidplaaaPx0
import Derived.Test.YtimobafoidplaaaPx7
import Derived.Test.YtimobafoidplaaaPx8
import Derived.Test.YtimobafoidplaaaPx9
namespace Go.Proofs.Ytimobafoidplaaa.P
open Go.RowKit Go.Proofs.YtimobafoidplaaaW.PrintWords Go.Proofs.YtimobafoidplaaaW.PrintLast Go.Proofs.YtimobafoidplaaaW.PrintMore
attribute [local go_sem] max2_int min2_int max_two min_two max_three min_three max_four min_four   -- for this text's walks alone
set_option linter.unusedVariables false
set_option linter.unusedSimpArgs false

/-! ### water_one_s: function 23, told plainly -/
theorem water_one.tells (b r m f e i w fe g bal lvl du cnt sus late day n1 i1 p1 x1 t1 f1 : Int) (h : (M.ok r ⟨bal, du, cnt, sus, n1, i1, p1, x1⟩ ∧ 0 ≤ lvl ∧ lvl ≤ 20000000000000 ∧ M.cent e) ∧ (0 ≤ n1 ∧ n1 ≤ 1000000) ∧ (0 ≤ i1 ∧ i1 ≤ 1000000000000000) ∧ (0 ≤ p1 ∧ p1 ≤ 1000000000000000) ∧ 0 ≤ x1 ∧ x1 ≤ 1000000000000000) (k : Nat) (hk : 2 ≤ k) : water_one.f k b r m f e i w fe g bal lvl du cnt sus late day n1 i1 p1 x1 t1 f1 = some (if M.takes r lvl e day bal du cnt sus then (b, r, m, f, e, i, w, fe, g, bal - M.prin bal r lvl, lvl, M.due du 1, cnt + 1, sus - M.all bal r lvl e, late, n1 + 1, i1 + M.month bal r, p1 + M.prin bal r lvl, x1 + e, t1, f1, true) else (b, r, m, f, e, i, w, fe, g, bal, lvl, du, cnt, sus, late, n1, i1, p1, x1, t1, f1, false)) := by
 obtain ⟨k, rfl⟩ : ∃ z, k = z + 1 + 1 := ⟨k - 2, by omega⟩
 obtain ⟨⟨⟨hb, hd, hc0, hc1, hs0, hs1⟩, hl0, hl1, he⟩, hn, hi, hp, hx⟩ := h
 replace hb : M.may bal r := hb
 replace hd : M.firstOk du := hd
 have b0 := hb.1
 have b1 := hb.2.1
 have m0 := M.month_nonneg hb
 have m1 := M.month_le hb
 have pb := M.prin_bd (lvl := lvl) hb
 have e0 := he.1
 have e1 := he.2
 replace hc0 : 0 ≤ cnt := hc0
 replace hc1 : cnt ≤ 480 := hc1
 replace hs0 : 0 ≤ sus := hs0
 replace hs1 : sus ≤ 10000000000000 := hs1
 have out : ¬ M.takes r lvl e day bal du cnt sus → water_one.j0 (k + 1 + 1) true b r m f e i w fe g bal lvl du cnt sus late n1 i1 p1 x1 t1 f1 = some (if M.takes r lvl e day bal du cnt sus then (b, r, m, f, e, i, w, fe, g, bal - M.prin bal r lvl, lvl, M.due du 1, cnt + 1, sus - M.all bal r lvl e, late, n1 + 1, i1 + M.month bal r, p1 + M.prin bal r lvl, x1 + e, t1, f1, true) else (b, r, m, f, e, i, w, fe, g, bal, lvl, du, cnt, sus, late, n1, i1, p1, x1, t1, f1, false)) := by
  intro hn
  rw [if_neg hn]
  simp only [water_one.j0]
  rw [if_pos trivial]
 unfold water_one.f
 by_cases c1 : bal = 0
 ·rw [if_pos c1]; exact out (fun h => h.1 c1)
 rw [if_neg c1]
 by_cases c2 : du > day
 ·rw [if_pos c2]; exact out (fun h => by have := h.2.1; omega)
 rw [if_neg c2]
 by_cases c3 : cnt ≥ 480
 ·rw [decide_eq_true c3]; exact out (fun h => by have := h.2.2.1; omega)
 rw [decide_eq_false c3]
 have al : M.all bal r lvl e = M.month bal r + M.prin bal r lvl + e := rfl
 simp only [water_one.j0]
 rw [if_neg (by decide), water_next_s.yes ⟨hb, hl0, hl1⟩, Option.bind_some, water_month_s.at_ hd, Option.bind_some, if_pos (show ((none : Option Int).isNone = true) from rfl)]
 simp only []
 rw [M.w64_id (n := M.month bal r + M.prin bal r lvl) (by omega) (by omega), M.w64_id (n := M.month bal r + M.prin bal r lvl + e) (by omega) (by omega), ← al]
 by_cases c4 : M.more du
 ·rw [if_pos c4]
  simp only [if_true]
  by_cases c5 : sus < M.all bal r lvl e
  ·rw [decide_eq_true c5]
   simp only [water_one.j1]
   rw [if_pos trivial, if_neg (fun h => by have := h.2.2.2.2; omega)]
  ·rw [decide_eq_false c5]
   simp only [water_one.j1]
   rw [if_neg (by decide), if_pos ⟨c1, by omega, by omega, c4, by omega⟩, M.w64_id (n := cnt + 1) (by omega) (by omega), M.w64_id (n := sus - M.all bal r lvl e) (by omega) (by omega), M.w64_id (n := n1 + 1) (by omega) (by omega), M.w64_id (n := i1 + M.month bal r) (by omega) (by omega), M.w64_id (n := p1 + M.prin bal r lvl) (by omega) (by omega), M.w64_id (n := x1 + e) (by omega) (by omega)]
 ·rw [if_neg c4]
  simp only [Bool.false_eq_true, if_false]
  simp only [water_one.j1]
  rw [if_pos trivial, if_neg (fun h => c4 h.2.2.2.1)]
def water_one_s.f (b r m f e i w fe g bal lvl du cnt sus late day n1 i1 p1 x1 t1 f1 : Int) : Option (Int × Int × Int × Int × Int × Int × Int × Int × Int × Int × Int × Int × Int × Int × Int × Int × Int × Int × Int × Int × Int × Bool) := if (M.ok r ⟨bal, du, cnt, sus, n1, i1, p1, x1⟩ ∧ 0 ≤ lvl ∧ lvl ≤ 20000000000000 ∧ M.cent e) ∧ (0 ≤ n1 ∧ n1 ≤ 1000000) ∧ (0 ≤ i1 ∧ i1 ≤ 1000000000000000) ∧ (0 ≤ p1 ∧ p1 ≤ 1000000000000000) ∧ 0 ≤ x1 ∧ x1 ≤ 1000000000000000 then some (if M.takes r lvl e day bal du cnt sus then (b, r, m, f, e, i, w, fe, g, bal - M.prin bal r lvl, lvl, M.due du 1, cnt + 1, sus - M.all bal r lvl e, late, n1 + 1, i1 + M.month bal r, p1 + M.prin bal r lvl, x1 + e, t1, f1, true) else (b, r, m, f, e, i, w, fe, g, bal, lvl, du, cnt, sus, late, n1, i1, p1, x1, t1, f1, false)) else none
theorem water_one_s.calls (a0_0 : Int) (a0_1 : Int) (a0_2 : Int) (a0_3 : Int) (a0_4 : Int) (a0_5 : Int) (a0_6 : Int) (a0_7 : Int) (a0_8 : Int) (a0_9 : Int) (a0_10 : Int) (a0_11 : Int) (a0_12 : Int) (a0_13 : Int) (a0_14 : Int) (a1 : Int) (a2_0 : Int) (a2_1 : Int) (a2_2 : Int) (a2_3 : Int) (a2_4 : Int) (a2_5 : Int) (r1 : Int) (r2 : Int) (r3 : Int) (r4 : Int) (r5 : Int) (r6 : Int) (r7 : Int) (r8 : Int) (r9 : Int) (r10 : Int) (r11 : Int) (r12 : Int) (r13 : Int) (r14 : Int) (r15 : Int) (r16 : Int) (r17 : Int) (r18 : Int) (r19 : Int) (r20 : Int) (r21 : Int) (r22 : Bool) (w : World) (h : water_one_s.f a0_0 a0_1 a0_2 a0_3 a0_4 a0_5 a0_6 a0_7 a0_8 a0_9 a0_10 a0_11 a0_12 a0_13 a0_14 a1 a2_0 a2_1 a2_2 a2_3 a2_4 a2_5 = some (r1, r2, r3, r4, r5, r6, r7, r8, r9, r10, r11, r12, r13, r14, r15, r16, r17, r18, r19, r20, r21, r22)) :
  Calls Try.prog 23 #[.agg #[.int .i64 a0_0, .int .i64 a0_1, .int .i64 a0_2, .int .i64 a0_3, .int .i64 a0_4, .int .i64 a0_5, .int .i64 a0_6, .int .i64 a0_7, .int .i64 a0_8, .int .i64 a0_9, .int .i64 a0_10, .int .i64 a0_11, .int .i64 a0_12, .int .i64 a0_13, .int .i64 a0_14], .int .i64 a1, .agg #[.int .i64 a2_0, .int .i64 a2_1, .int .i64 a2_2, .int .i64 a2_3, .int .i64 a2_4, .int .i64 a2_5]] w fun e w' => e = .returned (.tuple #[.agg #[.int .i64 r1, .int .i64 r2, .int .i64 r3, .int .i64 r4, .int .i64 r5, .int .i64 r6, .int .i64 r7, .int .i64 r8, .int .i64 r9, .int .i64 r10, .int .i64 r11, .int .i64 r12, .int .i64 r13, .int .i64 r14, .int .i64 r15], .agg #[.int .i64 r16, .int .i64 r17, .int .i64 r18, .int .i64 r19, .int .i64 r20, .int .i64 r21], .bool r22]) ∧ Below w.heap.size w w' := by
 unfold water_one_s.f at h
 split at h
 ·rename_i hr
  exact water_one.calls (2) a0_0 a0_1 a0_2 a0_3 a0_4 a0_5 a0_6 a0_7 a0_8 a0_9 a0_10 a0_11 a0_12 a0_13 a0_14 a1 a2_0 a2_1 a2_2 a2_3 a2_4 a2_5 r1 r2 r3 r4 r5 r6 r7 r8 r9 r10 r11 r12 r13 r14 r15 r16 r17 r18 r19 r20 r21 r22 w ((water_one.tells a0_0 a0_1 a0_2 a0_3 a0_4 a0_5 a0_6 a0_7 a0_8 a0_9 a0_10 a0_11 a0_12 a0_13 a0_14 a1 a2_0 a2_1 a2_2 a2_3 a2_4 a2_5 hr (2) (Nat.le_refl _)).trans h)
 ·cases h
theorem water_one_s.at_ {b r m f e i w fe g bal lvl du cnt sus late day n1 i1 p1 x1 t1 f1 : Int} (h : (M.ok r ⟨bal, du, cnt, sus, n1, i1, p1, x1⟩ ∧ 0 ≤ lvl ∧ lvl ≤ 20000000000000 ∧ M.cent e) ∧ (0 ≤ n1 ∧ n1 ≤ 1000000) ∧ (0 ≤ i1 ∧ i1 ≤ 1000000000000000) ∧ (0 ≤ p1 ∧ p1 ≤ 1000000000000000) ∧ 0 ≤ x1 ∧ x1 ≤ 1000000000000000) : water_one_s.f b r m f e i w fe g bal lvl du cnt sus late day n1 i1 p1 x1 t1 f1 = some (if M.takes r lvl e day bal du cnt sus then (b, r, m, f, e, i, w, fe, g, bal - M.prin bal r lvl, lvl, M.due du 1, cnt + 1, sus - M.all bal r lvl e, late, n1 + 1, i1 + M.month bal r, p1 + M.prin bal r lvl, x1 + e, t1, f1, true) else (b, r, m, f, e, i, w, fe, g, bal, lvl, du, cnt, sus, late, n1, i1, p1, x1, t1, f1, false)) := by unfold water_one_s.f; rw [if_pos h]

end Go.Proofs.Ytimobafoidplaaa.P
