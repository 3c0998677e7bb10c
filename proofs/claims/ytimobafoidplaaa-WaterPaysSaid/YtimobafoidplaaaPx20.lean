-- Written by a program of this session out of the translation of the seat: Lean functions and the proofs that the Go functions come to them.
import Derived.Test.YtimobafoidplaaaPx0
import Derived.Test.YtimobafoidplaaaPx1
import Derived.Test.YtimobafoidplaaaPx2
import Derived.Test.YtimobafoidplaaaPx13
import Derived.Test.YtimobafoidplaaaPx14
import Derived.Test.YtimobafoidplaaaPx18
import Derived.Test.YtimobafoidplaaaPx19
namespace Go.Proofs.Ytimobafoidplaaa.P
open Go.RowKit Go.Proofs.YtimobafoidplaaaW.PrintWords Go.Proofs.YtimobafoidplaaaW.PrintLast Go.Proofs.YtimobafoidplaaaW.PrintMore
attribute [local go_sem] max2_int min2_int max_two min_two max_three min_three max_four min_four   -- for this text's walks alone
set_option linter.unusedVariables false
set_option linter.unusedSimpArgs false

attribute [local go_sem high] eqA25 eqA28
/-! ### trivetref13_Pay_s: function 13, told plainly -/
def trivetref13_Pay_s.out (b r m f e i w fe g lvl late day : Int) (z : M.St) : Int × Int × Int × Int × Int × Int × Int × Int × Int × Int × Int × Int × Int × Int × Int × Int × Int × Int × Int × Int × Int := (b, r, m, f, e, i, w, fe, g, z.bal, lvl, z.du, z.cnt, z.sus - M.lateOf z late day, late - M.lateOf z late day, z.n, z.i, z.p, z.x, M.lateOf z late day, z.sus - M.lateOf z late day)
def trivetref13_Pay_s.inv (r : Int) (s : M.St) : Prop := M.ok r s ∧ 0 ≤ s.n ∧ s.n + (480 - s.cnt) ≤ 1000 ∧ 0 ≤ s.i ∧ 0 ≤ s.p ∧ 0 ≤ s.x ∧ s.i + s.p + s.x + s.sus ≤ 10000000000000
theorem trivetref13_Pay_s.cu (b r m f e i w fe g bal lvl du cnt sus late day : Int) : trivetref13_current.f b r m f e i w fe g bal lvl du cnt sus late day = some (decide (M.cur bal du day)) := by
 unfold trivetref13_current.f M.cur
 by_cases c : bal = 0 <;> simp [c]
theorem trivetref13_Pay.fin (b r m f e i w fe g lvl late day : Int) (s : M.St) (h : M.ok r s) (hl : M.cent late) (K : Nat) : trivetref13_Pay.j2 (K + 3) day b r m f e i w fe g s.bal lvl s.du s.cnt s.sus late s.n s.i s.p s.x 0 0 = some (trivetref13_Pay_s.out b r m f e i w fe g lvl late day s) := by
 obtain ⟨h1, h2, h3, h4, h5, h6⟩ := h
 have l0 := hl.1
 have l1 := hl.2
 rw [show K + 3 = (K + 1 + 1) + 1 by omega]
 simp only [trivetref13_Pay.j2]
 rw [trivetref13_Pay_s.cu, Option.bind_some]
 unfold trivetref13_Pay_s.out M.lateOf
 by_cases c : M.cur s.bal s.du day
 ·rw [if_pos (decide_eq_true c), if_pos c]
  by_cases c2 : late > s.sus
  ·rw [if_pos c2, show M.least late s.sus = s.sus by unfold M.least; rw [if_neg (by omega)]]
   simp only [trivetref13_Pay.j3, trivetref13_Pay.j4]
   rw [M.w64_id (n := s.sus - s.sus) (by omega) (by omega), M.w64_id (n := late - s.sus) (by omega) (by omega)]
  ·rw [if_neg c2, show M.least late s.sus = late by unfold M.least; rw [if_pos (by omega)]]
   simp only [trivetref13_Pay.j3, trivetref13_Pay.j4]
   rw [M.w64_id (n := s.sus - late) (by omega) (by omega), M.w64_id (n := late - late) (by omega) (by omega)]
 ·rw [if_neg (by simpa using c), if_neg c, Int.sub_zero, Int.sub_zero]
  simp only [trivetref13_Pay.j4]
theorem trivetref13_Pay.loop (b r m f e i w fe g lvl late day : Int) (hl : M.cent late) (hv : 0 ≤ lvl ∧ lvl ≤ 20000000000000 ∧ M.cent e) : ∀ (j : Nat) (s : M.St) (k : Nat), trivetref13_Pay_s.inv r s → (480 - s.cnt).toNat ≤ j → trivetref13_Pay.l0 (k + 2 * j + 5) day b r m f e i w fe g s.bal lvl s.du s.cnt s.sus late s.n s.i s.p s.x 0 0 = some (trivetref13_Pay_s.out b r m f e i w fe g lvl late day (M.pay r lvl e day j s))
 | j, s, k, hs, hj => by
  have he := hv.2.2.1
  have he' := hv.2.2.2
  obtain ⟨h1, h2, h3, h4, h5, h6, h7⟩ := hs
  have h1' := h1
  obtain ⟨o1, o2, o3, o4, o5, o6⟩ := h1'
  have mo := M.month_nonneg o1
  have ml := M.month_le o1
  have ob := o1.2.1
  have pb := M.prin_bd (lvl := lvl) o1
  have al : M.all s.bal r lvl e = M.month s.bal r + M.prin s.bal r lvl + e := rfl
  have nx := trivetref13_Next_s.yes (b := b) (r := r) (m := m) (f := f) (e := e) (i := i) (w := w) (fe := fe) (g := g) (bal := s.bal) (lvl := lvl) (du := s.du) (cnt := s.cnt) (sus := s.sus) (late := late) ⟨o1, hv.1, hv.2.1⟩
  by_cases ht : M.takes r lvl e day s.bal s.du s.cnt s.sus
  ·obtain ⟨t1, t2, t3, t4, t5⟩ := ht
   have ht : M.takes r lvl e day s.bal s.du s.cnt s.sus := ⟨t1, t2, t3, t4, t5⟩
   obtain ⟨j, rfl⟩ : ∃ z, j = z + 1 := ⟨j - 1, by omega⟩
   have ih := trivetref13_Pay.loop b r m f e i w fe g lvl late day hl hv j (M.step r lvl e s) k ⟨M.step_ok he h1 ht, by simp only [M.step]; omega, by simp only [M.step]; omega, by simp only [M.step]; omega, by simp only [M.step]; omega, by simp only [M.step]; omega, by simp only [M.step, M.all]; omega⟩ (by simp only [M.step]; omega)
   rw [M.pay_succ j ht, ← ih]
   obtain ⟨K, hK⟩ : ∃ K, K = k + 2 * j + 5 := ⟨_, rfl⟩
   rw [← hK, show k + 2 * (j + 1) + 5 = K + 1 + 1 by omega]
   simp only [trivetref13_Pay.l0]
   rw [if_pos t3, trivetref13_Pay_s.cu, Option.bind_some, decide_eq_false (show ¬ M.cur s.bal s.du day from fun hh => hh.elim t1 (fun q => by omega))]
   simp only [trivetref13_Pay.j1, Bool.not_false]
   rw [if_pos trivial, nx, Option.bind_some, trivetref13_later_s.at_ o2, Option.bind_some, if_pos t4]
   simp only [if_true]
   rw [M.w64_id (n := M.month s.bal r + M.prin s.bal r lvl) (by omega) (by omega), M.w64_id (n := M.month s.bal r + M.prin s.bal r lvl + e) (by omega) (by omega), ← al, if_neg (show ¬ s.sus < M.all s.bal r lvl e by omega), M.w64_id (n := s.cnt + 1) (by omega) (by omega), M.w64_id (n := s.sus - M.all s.bal r lvl e) (by omega) (by omega), M.w64_id (n := s.n + 1) (by omega) (by omega), M.w64_id (n := s.i + M.month s.bal r) (by omega) (by omega), M.w64_id (n := s.p + M.prin s.bal r lvl) (by omega) (by omega), M.w64_id (n := s.x + e) (by omega) (by omega)]
   rfl
  ·rw [M.pay_stop ht, ← trivetref13_Pay.fin b r m f e i w fe g lvl late day s h1 hl (k + 2 * j)]
   obtain ⟨K, hK⟩ : ∃ K, K = k + 2 * j + 3 := ⟨_, rfl⟩
   rw [← hK, show k + 2 * j + 5 = K + 1 + 1 by omega]
   simp only [trivetref13_Pay.l0]
   by_cases c1 : s.cnt < 480
   ·rw [if_pos c1, trivetref13_Pay_s.cu, Option.bind_some]
    by_cases c2 : M.cur s.bal s.du day
    ·rw [decide_eq_true c2]
     simp only [trivetref13_Pay.j1, Bool.not_true, Bool.false_eq_true, if_false]
    ·rw [decide_eq_false c2]
     simp only [trivetref13_Pay.j1, Bool.not_false]
     rw [if_pos trivial, nx, Option.bind_some, trivetref13_later_s.at_ o2, Option.bind_some]
     by_cases c3 : M.more s.du
     ·rw [if_pos c3]
      simp only [if_true]
      have c4 : s.sus < M.all s.bal r lvl e := by
       rcases Int.lt_or_le s.sus (M.all s.bal r lvl e) with q | q
       ·exact q
       ·exact absurd ⟨fun z => c2 (.inl z), by rcases Int.lt_or_le day s.du with z | z; exact absurd (.inr z) c2; exact z, c1, c3, q⟩ ht
      rw [M.w64_id (n := M.month s.bal r + M.prin s.bal r lvl) (by omega) (by omega), M.w64_id (n := M.month s.bal r + M.prin s.bal r lvl + e) (by omega) (by omega), ← al, if_pos c4]
     ·rw [if_neg c3]
      simp only [Bool.false_eq_true, if_false]
   ·rw [if_neg c1]
    simp only [trivetref13_Pay.j1, Bool.false_eq_true, if_false]
theorem trivetref13_Pay.tells (b r m f e i w fe g bal lvl du cnt sus late day a : Int) (h : M.askOk b r m f e i w fe g bal lvl du cnt sus late day a ∧ sus + a ≤ 10000000000000) (k : Nat) (hk : 965 ≤ k) : trivetref13_Pay.f k b r m f e i w fe g bal lvl du cnt sus late day a = some (trivetref13_Pay_s.out b r m f e i w fe g lvl late day (M.pay r lvl e day 480 ⟨bal, du, cnt, sus + a, 0, 0, 0, 0⟩)) := by
 obtain ⟨ha, c⟩ := h
 obtain ⟨t1, t2, t3, t4, t5, t6, t7, t8, t9⟩ := ha.1
 obtain ⟨hm, hb1, _⟩ := M.terms_may t1
 have mo := t1.2.1
 unfold M.moneyOk at mo
 have b0 := t3.1
 have b1 := t3.2
 have s0 := t8.1
 have s1 := t8.2
 have a0 := ha.2.2.1
 have a1 := ha.2.2.2
 have hr := hm.2.2
 unfold trivetref13_Pay.f
 rw [M.w64_id (n := sus + a) (by omega) (by omega)]
 obtain ⟨z, rfl⟩ : ∃ z, k = z + 2 * 480 + 5 := ⟨k - 965, by omega⟩
 exact trivetref13_Pay.loop b r m f e i w fe g lvl late day t9 ⟨by omega, t5, by omega, by omega⟩ 480 ⟨bal, du, cnt, sus + a, 0, 0, 0, 0⟩ z ⟨⟨⟨b0, b1, hr⟩, t2, t6, t7, by simp only []; omega, by simp only []; omega⟩, by simp only []; omega, by simp only []; omega, by simp only []; omega, by simp only []; omega, by simp only []; omega, by simp only []; omega⟩ (by simp only []; omega)
def trivetref13_Pay_s.f (b r m f e i w fe g bal lvl du cnt sus late day a : Int) : Option (Int × Int × Int × Int × Int × Int × Int × Int × Int × Int × Int × Int × Int × Int × Int × Int × Int × Int × Int × Int × Int) := if M.askOk b r m f e i w fe g bal lvl du cnt sus late day a ∧ sus + a ≤ 10000000000000 then some (trivetref13_Pay_s.out b r m f e i w fe g lvl late day (M.pay r lvl e day 480 ⟨bal, du, cnt, sus + a, 0, 0, 0, 0⟩)) else none
theorem trivetref13_Pay_s.calls (a0_0 : Int) (a0_1 : Int) (a0_2 : Int) (a0_3 : Int) (a0_4 : Int) (a0_5 : Int) (a0_6 : Int) (a0_7 : Int) (a0_8 : Int) (a0_9 : Int) (a0_10 : Int) (a0_11 : Int) (a0_12 : Int) (a0_13 : Int) (a0_14 : Int) (a1 : Int) (a2 : Int) (r1 : Int) (r2 : Int) (r3 : Int) (r4 : Int) (r5 : Int) (r6 : Int) (r7 : Int) (r8 : Int) (r9 : Int) (r10 : Int) (r11 : Int) (r12 : Int) (r13 : Int) (r14 : Int) (r15 : Int) (r16 : Int) (r17 : Int) (r18 : Int) (r19 : Int) (r20 : Int) (r21 : Int) (w : World) (h : trivetref13_Pay_s.f a0_0 a0_1 a0_2 a0_3 a0_4 a0_5 a0_6 a0_7 a0_8 a0_9 a0_10 a0_11 a0_12 a0_13 a0_14 a1 a2 = some (r1, r2, r3, r4, r5, r6, r7, r8, r9, r10, r11, r12, r13, r14, r15, r16, r17, r18, r19, r20, r21)) :
  Calls Try.prog 13 #[.agg #[.int .i64 a0_0, .int .i64 a0_1, .int .i64 a0_2, .int .i64 a0_3, .int .i64 a0_4, .int .i64 a0_5, .int .i64 a0_6, .int .i64 a0_7, .int .i64 a0_8, .int .i64 a0_9, .int .i64 a0_10, .int .i64 a0_11, .int .i64 a0_12, .int .i64 a0_13, .int .i64 a0_14], .int .i64 a1, .int .i64 a2] w fun e w' => e = .returned (.tuple #[.agg #[.int .i64 r1, .int .i64 r2, .int .i64 r3, .int .i64 r4, .int .i64 r5, .int .i64 r6, .int .i64 r7, .int .i64 r8, .int .i64 r9, .int .i64 r10, .int .i64 r11, .int .i64 r12, .int .i64 r13, .int .i64 r14, .int .i64 r15], .agg #[.int .i64 r16, .int .i64 r17, .int .i64 r18, .int .i64 r19, .int .i64 r20, .int .i64 r21]]) ∧ Below w.heap.size w w' := by
 unfold trivetref13_Pay_s.f at h
 split at h
 ·rename_i hr
  exact trivetref13_Pay.calls (965) a0_0 a0_1 a0_2 a0_3 a0_4 a0_5 a0_6 a0_7 a0_8 a0_9 a0_10 a0_11 a0_12 a0_13 a0_14 a1 a2 r1 r2 r3 r4 r5 r6 r7 r8 r9 r10 r11 r12 r13 r14 r15 r16 r17 r18 r19 r20 r21 w ((trivetref13_Pay.tells a0_0 a0_1 a0_2 a0_3 a0_4 a0_5 a0_6 a0_7 a0_8 a0_9 a0_10 a0_11 a0_12 a0_13 a0_14 a1 a2 hr (965) (Nat.le_refl _)).trans h)
 ·cases h
theorem trivetref13_Pay_s.yes {b r m f e i w fe g bal lvl du cnt sus late day a : Int} (h : M.askOk b r m f e i w fe g bal lvl du cnt sus late day a ∧ sus + a ≤ 10000000000000) : trivetref13_Pay_s.f b r m f e i w fe g bal lvl du cnt sus late day a = some (trivetref13_Pay_s.out b r m f e i w fe g lvl late day (M.pay r lvl e day 480 ⟨bal, du, cnt, sus + a, 0, 0, 0, 0⟩)) := by unfold trivetref13_Pay_s.f; rw [if_pos h]

/-! ### trivetlaw13_WaterPays: function 3 -/
def trivetlaw13_WaterPays.j0 : Nat → Int → Int → Bool → Option Int → Bool → Int → Int → Int → Int → Int → Int → Int → Int → Int → Int → Int → Int → Int → Int → Int → Int → Int → Int → Int → Int → Int → Int → Int → Int → Int → Int → Int → Int → Int → Int → Int → Int → Int → Int → Int → Int → Option (Bool)
 | 0, _, _, _, _, _, _, _, _, _, _, _, _, _, _, _, _, _, _, _, _, _, _, _, _, _, _, _, _, _, _, _, _, _, _, _, _, _, _, _, _, _ => none
 | k + 1, x1, x2, x7, x10, x11, x394000, x394001, x394002, x394003, x394004, x394005, x394006, x394007, x394008, x394009, x394010, x394011, x394012, x394013, x394014, x418000, x418001, x418002, x418003, x418004, x418005, x418006, x418007, x418008, x418009, x418010, x418011, x418012, x418013, x418014, x419000, x419001, x419002, x419003, x419004, x419005 => (trivetref13_Asked_s.f x394000 x394001 x394002 x394003 x394004 x394005 x394006 x394007 x394008 x394009 x394010 x394011 x394012 x394013 x394014 x1 x2).bind fun t419 => (if t419 = true then (if (wrap64 (x394013 + x2)) > 10000000000000 then (if x7 = true then (if x10.isNone = true then (none) else (if (x10.getD 0) = 3 then (some x11) else (none))) else (none)) else ((trivetref13_Pay_s.f x394000 x394001 x394002 x394003 x394004 x394005 x394006 x394007 x394008 x394009 x394010 x394011 x394012 x394013 x394014 x1 x2).bind fun bt421 => (if x7 = true then (if x10.isNone = true then (if ((x418000 == bt421.1 && (x418001 == bt421.2.1 && (x418002 == bt421.2.2.1 && (x418003 == bt421.2.2.2.1 && (x418004 == bt421.2.2.2.2.1 && (x418005 == bt421.2.2.2.2.2.1 && (x418006 == bt421.2.2.2.2.2.2.1 && (x418007 == bt421.2.2.2.2.2.2.2.1 && (x418008 == bt421.2.2.2.2.2.2.2.2.1))))))))) && (x418009 == bt421.2.2.2.2.2.2.2.2.2.1 && (x418010 == bt421.2.2.2.2.2.2.2.2.2.2.1 && (x418011 == bt421.2.2.2.2.2.2.2.2.2.2.2.1 && (x418012 == bt421.2.2.2.2.2.2.2.2.2.2.2.2.1 && (x418013 == bt421.2.2.2.2.2.2.2.2.2.2.2.2.2.1 && (x418014 == bt421.2.2.2.2.2.2.2.2.2.2.2.2.2.2.1))))))) = true then (some (x419000 == bt421.2.2.2.2.2.2.2.2.2.2.2.2.2.2.2.1 && (x419001 == bt421.2.2.2.2.2.2.2.2.2.2.2.2.2.2.2.2.1 && (x419002 == bt421.2.2.2.2.2.2.2.2.2.2.2.2.2.2.2.2.2.1 && (x419003 == bt421.2.2.2.2.2.2.2.2.2.2.2.2.2.2.2.2.2.2.1 && (x419004 == bt421.2.2.2.2.2.2.2.2.2.2.2.2.2.2.2.2.2.2.2.1 && (x419005 == bt421.2.2.2.2.2.2.2.2.2.2.2.2.2.2.2.2.2.2.2.2))))))) else (none)) else (none)) else (none)))) else (if x7 = true then (if x10.isNone = true then (none) else (if (x10.getD 0) = 1 then (some x11) else (none))) else (none)))
def trivetlaw13_WaterPays.f (k : Nat) (a0_0 : Int) (a0_1 : Int) (a0_2 : Int) (a0_3 : Int) (a0_4 : Int) (a0_5 : Int) (a0_6 : Int) (a0_7 : Int) (a0_8 : Int) (a0_9 : Int) (a0_10 : Int) (a0_11 : Int) (a0_12 : Int) (a0_13 : Int) (a0_14 : Int) (a1 : Int) (a2 : Int) : Option (Bool) := (trivetlaw13_up_s.f).bind fun t394 => ((water_Pay_s.f a0_0 a0_1 a0_2 a0_3 a0_4 a0_5 a0_6 a0_7 a0_8 a0_9 a0_10 a0_11 a0_12 a0_13 a0_14 a1 a2).bind fun bt395 => (if ((bt395.1 == 0 && (bt395.2.1 == 0 && (bt395.2.2.1 == 0 && (bt395.2.2.2.1 == 0 && (bt395.2.2.2.2.1 == 0 && (bt395.2.2.2.2.2.1 == 0 && (bt395.2.2.2.2.2.2.1 == 0 && (bt395.2.2.2.2.2.2.2.1 == 0 && (bt395.2.2.2.2.2.2.2.2.1 == 0))))))))) && (bt395.2.2.2.2.2.2.2.2.2.1 == 0 && (bt395.2.2.2.2.2.2.2.2.2.2.1 == 0 && (bt395.2.2.2.2.2.2.2.2.2.2.2.1 == 0 && (bt395.2.2.2.2.2.2.2.2.2.2.2.2.1 == 0 && (bt395.2.2.2.2.2.2.2.2.2.2.2.2.2.1 == 0 && (bt395.2.2.2.2.2.2.2.2.2.2.2.2.2.2.1 == 0))))))) = true then (trivetlaw13_WaterPays.j0 k a1 a2 t394 bt395.2.2.2.2.2.2.2.2.2.2.2.2.2.2.2.2.2.2.2.2.2 (bt395.2.2.2.2.2.2.2.2.2.2.2.2.2.2.2.1 == 0 && (bt395.2.2.2.2.2.2.2.2.2.2.2.2.2.2.2.2.1 == 0 && (bt395.2.2.2.2.2.2.2.2.2.2.2.2.2.2.2.2.2.1 == 0 && (bt395.2.2.2.2.2.2.2.2.2.2.2.2.2.2.2.2.2.2.1 == 0 && (bt395.2.2.2.2.2.2.2.2.2.2.2.2.2.2.2.2.2.2.2.1 == 0 && (bt395.2.2.2.2.2.2.2.2.2.2.2.2.2.2.2.2.2.2.2.2.1 == 0)))))) a0_0 a0_1 a0_2 a0_3 a0_4 a0_5 a0_6 a0_7 a0_8 a0_9 a0_10 a0_11 a0_12 a0_13 a0_14 bt395.1 bt395.2.1 bt395.2.2.1 bt395.2.2.2.1 bt395.2.2.2.2.1 bt395.2.2.2.2.2.1 bt395.2.2.2.2.2.2.1 bt395.2.2.2.2.2.2.2.1 bt395.2.2.2.2.2.2.2.2.1 bt395.2.2.2.2.2.2.2.2.2.1 bt395.2.2.2.2.2.2.2.2.2.2.1 bt395.2.2.2.2.2.2.2.2.2.2.2.1 bt395.2.2.2.2.2.2.2.2.2.2.2.2.1 bt395.2.2.2.2.2.2.2.2.2.2.2.2.2.1 bt395.2.2.2.2.2.2.2.2.2.2.2.2.2.2.1 bt395.2.2.2.2.2.2.2.2.2.2.2.2.2.2.2.1 bt395.2.2.2.2.2.2.2.2.2.2.2.2.2.2.2.2.1 bt395.2.2.2.2.2.2.2.2.2.2.2.2.2.2.2.2.2.1 bt395.2.2.2.2.2.2.2.2.2.2.2.2.2.2.2.2.2.2.1 bt395.2.2.2.2.2.2.2.2.2.2.2.2.2.2.2.2.2.2.2.1 bt395.2.2.2.2.2.2.2.2.2.2.2.2.2.2.2.2.2.2.2.2.1) else (trivetlaw13_WaterPays.j0 k a1 a2 t394 bt395.2.2.2.2.2.2.2.2.2.2.2.2.2.2.2.2.2.2.2.2.2 false a0_0 a0_1 a0_2 a0_3 a0_4 a0_5 a0_6 a0_7 a0_8 a0_9 a0_10 a0_11 a0_12 a0_13 a0_14 bt395.1 bt395.2.1 bt395.2.2.1 bt395.2.2.2.1 bt395.2.2.2.2.1 bt395.2.2.2.2.2.1 bt395.2.2.2.2.2.2.1 bt395.2.2.2.2.2.2.2.1 bt395.2.2.2.2.2.2.2.2.1 bt395.2.2.2.2.2.2.2.2.2.1 bt395.2.2.2.2.2.2.2.2.2.2.1 bt395.2.2.2.2.2.2.2.2.2.2.2.1 bt395.2.2.2.2.2.2.2.2.2.2.2.2.1 bt395.2.2.2.2.2.2.2.2.2.2.2.2.2.1 bt395.2.2.2.2.2.2.2.2.2.2.2.2.2.2.1 bt395.2.2.2.2.2.2.2.2.2.2.2.2.2.2.2.1 bt395.2.2.2.2.2.2.2.2.2.2.2.2.2.2.2.2.1 bt395.2.2.2.2.2.2.2.2.2.2.2.2.2.2.2.2.2.1 bt395.2.2.2.2.2.2.2.2.2.2.2.2.2.2.2.2.2.2.1 bt395.2.2.2.2.2.2.2.2.2.2.2.2.2.2.2.2.2.2.2.1 bt395.2.2.2.2.2.2.2.2.2.2.2.2.2.2.2.2.2.2.2.2.1)))
theorem trivetlaw13_WaterPays.mono_l : ∀ k, (∀ y0 y1 y2 y3 y4 y5 y6 y7 y8 y9 y10 y11 y12 y13 y14 y15 y16 y17 y18 y19 y20 y21 y22 y23 y24 y25 y26 y27 y28 y29 y30 y31 y32 y33 y34 y35 y36 y37 y38 y39 y40, LeO (trivetlaw13_WaterPays.j0 k y0 y1 y2 y3 y4 y5 y6 y7 y8 y9 y10 y11 y12 y13 y14 y15 y16 y17 y18 y19 y20 y21 y22 y23 y24 y25 y26 y27 y28 y29 y30 y31 y32 y33 y34 y35 y36 y37 y38 y39 y40) (trivetlaw13_WaterPays.j0 (k + 1) y0 y1 y2 y3 y4 y5 y6 y7 y8 y9 y10 y11 y12 y13 y14 y15 y16 y17 y18 y19 y20 y21 y22 y23 y24 y25 y26 y27 y28 y29 y30 y31 y32 y33 y34 y35 y36 y37 y38 y39 y40))
 | 0 => fun _ _ _ _ _ _ _ _ _ _ _ _ _ _ _ _ _ _ _ _ _ _ _ _ _ _ _ _ _ _ _ _ _ _ _ _ _ _ _ _ _ r h => by simp [trivetlaw13_WaterPays.j0] at h
 | k + 1 => by
  have ih0 := trivetlaw13_WaterPays.mono_l k
  ·intro y0 y1 y2 y3 y4 y5 y6 y7 y8 y9 y10 y11 y12 y13 y14 y15 y16 y17 y18 y19 y20 y21 y22 y23 y24 y25 y26 y27 y28 y29 y30 y31 y32 y33 y34 y35 y36 y37 y38 y39 y40
   unfold trivetlaw13_WaterPays.j0
   repeat' first
   | (with_reducible exact ih0 _ _ _ _ _ _ _ _ _ _ _ _ _ _ _ _ _ _ _ _ _ _ _ _ _ _ _ _ _ _ _ _ _ _ _ _ _ _ _ _ _)
   | (with_reducible exact LeO.refl _)
   | (with_reducible exact LeO.none _)
   | (with_reducible refine LeO.ite ?_ ?_)
   | (with_reducible refine LeO.bind ?_ (fun _ => ?_))
   | exact ih0 _ _ _ _ _ _ _ _ _ _ _ _ _ _ _ _ _ _ _ _ _ _ _ _ _ _ _ _ _ _ _ _ _ _ _ _ _ _ _ _ _
   | exact LeO.none _
   | refine LeO.ite ?_ ?_
   | refine LeO.bind ?_ (fun _ => ?_)
theorem trivetlaw13_WaterPays.mono : ∀ a0 a1 a2 a3 a4 a5 a6 a7 a8 a9 a10 a11 a12 a13 a14 a15 a16 k, LeO (trivetlaw13_WaterPays.f k a0 a1 a2 a3 a4 a5 a6 a7 a8 a9 a10 a11 a12 a13 a14 a15 a16) (trivetlaw13_WaterPays.f (k + 1) a0 a1 a2 a3 a4 a5 a6 a7 a8 a9 a10 a11 a12 a13 a14 a15 a16) := by
 intro a0 a1 a2 a3 a4 a5 a6 a7 a8 a9 a10 a11 a12 a13 a14 a15 a16 k
 have ih0 := trivetlaw13_WaterPays.mono_l k
 unfold trivetlaw13_WaterPays.f
 repeat' first
   | (with_reducible exact ih0 _ _ _ _ _ _ _ _ _ _ _ _ _ _ _ _ _ _ _ _ _ _ _ _ _ _ _ _ _ _ _ _ _ _ _ _ _ _ _ _ _)
   | (with_reducible exact LeO.refl _)
   | (with_reducible exact LeO.none _)
   | (with_reducible refine LeO.ite ?_ ?_)
   | (with_reducible refine LeO.bind ?_ (fun _ => ?_))
   | exact ih0 _ _ _ _ _ _ _ _ _ _ _ _ _ _ _ _ _ _ _ _ _ _ _ _ _ _ _ _ _ _ _ _ _ _ _ _ _ _ _ _ _
   | exact LeO.none _
   | refine LeO.ite ?_ ?_
   | refine LeO.bind ?_ (fun _ => ?_)
set_option maxHeartbeats 8000000 in
set_option maxRecDepth 100000 in
theorem trivetlaw13_WaterPays.calls (k : Nat) (a0_0 : Int) (a0_1 : Int) (a0_2 : Int) (a0_3 : Int) (a0_4 : Int) (a0_5 : Int) (a0_6 : Int) (a0_7 : Int) (a0_8 : Int) (a0_9 : Int) (a0_10 : Int) (a0_11 : Int) (a0_12 : Int) (a0_13 : Int) (a0_14 : Int) (a1 : Int) (a2 : Int) (r : Bool) (w : World) (h : trivetlaw13_WaterPays.f k a0_0 a0_1 a0_2 a0_3 a0_4 a0_5 a0_6 a0_7 a0_8 a0_9 a0_10 a0_11 a0_12 a0_13 a0_14 a1 a2 = some r) :
  Calls Try.prog 3 #[.agg #[.int .i64 a0_0, .int .i64 a0_1, .int .i64 a0_2, .int .i64 a0_3, .int .i64 a0_4, .int .i64 a0_5, .int .i64 a0_6, .int .i64 a0_7, .int .i64 a0_8, .int .i64 a0_9, .int .i64 a0_10, .int .i64 a0_11, .int .i64 a0_12, .int .i64 a0_13, .int .i64 a0_14], .int .i64 a1, .int .i64 a2] w fun e w' => e = .returned (.bool r) ∧ Below w.heap.size w w' := by
 have hu25 := Try.underlying25
 have hu28 := Try.underlying28
 have hu30 := Try.underlying30
 have hu34 := Try.underlying34
 have HB := ka (Below.refl w.heap.size w)
 have H : ((trivetlaw13_up_s.f).bind fun t394 => ((water_Pay_s.f a0_0 a0_1 a0_2 a0_3 a0_4 a0_5 a0_6 a0_7 a0_8 a0_9 a0_10 a0_11 a0_12 a0_13 a0_14 a1 a2).bind fun bt395 => (if ((bt395.1 == 0 && (bt395.2.1 == 0 && (bt395.2.2.1 == 0 && (bt395.2.2.2.1 == 0 && (bt395.2.2.2.2.1 == 0 && (bt395.2.2.2.2.2.1 == 0 && (bt395.2.2.2.2.2.2.1 == 0 && (bt395.2.2.2.2.2.2.2.1 == 0 && (bt395.2.2.2.2.2.2.2.2.1 == 0))))))))) && (bt395.2.2.2.2.2.2.2.2.2.1 == 0 && (bt395.2.2.2.2.2.2.2.2.2.2.1 == 0 && (bt395.2.2.2.2.2.2.2.2.2.2.2.1 == 0 && (bt395.2.2.2.2.2.2.2.2.2.2.2.2.1 == 0 && (bt395.2.2.2.2.2.2.2.2.2.2.2.2.2.1 == 0 && (bt395.2.2.2.2.2.2.2.2.2.2.2.2.2.2.1 == 0))))))) = true then (trivetlaw13_WaterPays.j0 k a1 a2 t394 bt395.2.2.2.2.2.2.2.2.2.2.2.2.2.2.2.2.2.2.2.2.2 (bt395.2.2.2.2.2.2.2.2.2.2.2.2.2.2.2.1 == 0 && (bt395.2.2.2.2.2.2.2.2.2.2.2.2.2.2.2.2.1 == 0 && (bt395.2.2.2.2.2.2.2.2.2.2.2.2.2.2.2.2.2.1 == 0 && (bt395.2.2.2.2.2.2.2.2.2.2.2.2.2.2.2.2.2.2.1 == 0 && (bt395.2.2.2.2.2.2.2.2.2.2.2.2.2.2.2.2.2.2.2.1 == 0 && (bt395.2.2.2.2.2.2.2.2.2.2.2.2.2.2.2.2.2.2.2.2.1 == 0)))))) a0_0 a0_1 a0_2 a0_3 a0_4 a0_5 a0_6 a0_7 a0_8 a0_9 a0_10 a0_11 a0_12 a0_13 a0_14 bt395.1 bt395.2.1 bt395.2.2.1 bt395.2.2.2.1 bt395.2.2.2.2.1 bt395.2.2.2.2.2.1 bt395.2.2.2.2.2.2.1 bt395.2.2.2.2.2.2.2.1 bt395.2.2.2.2.2.2.2.2.1 bt395.2.2.2.2.2.2.2.2.2.1 bt395.2.2.2.2.2.2.2.2.2.2.1 bt395.2.2.2.2.2.2.2.2.2.2.2.1 bt395.2.2.2.2.2.2.2.2.2.2.2.2.1 bt395.2.2.2.2.2.2.2.2.2.2.2.2.2.1 bt395.2.2.2.2.2.2.2.2.2.2.2.2.2.2.1 bt395.2.2.2.2.2.2.2.2.2.2.2.2.2.2.2.1 bt395.2.2.2.2.2.2.2.2.2.2.2.2.2.2.2.2.1 bt395.2.2.2.2.2.2.2.2.2.2.2.2.2.2.2.2.2.1 bt395.2.2.2.2.2.2.2.2.2.2.2.2.2.2.2.2.2.2.1 bt395.2.2.2.2.2.2.2.2.2.2.2.2.2.2.2.2.2.2.2.1 bt395.2.2.2.2.2.2.2.2.2.2.2.2.2.2.2.2.2.2.2.2.1) else (trivetlaw13_WaterPays.j0 k a1 a2 t394 bt395.2.2.2.2.2.2.2.2.2.2.2.2.2.2.2.2.2.2.2.2.2 false a0_0 a0_1 a0_2 a0_3 a0_4 a0_5 a0_6 a0_7 a0_8 a0_9 a0_10 a0_11 a0_12 a0_13 a0_14 bt395.1 bt395.2.1 bt395.2.2.1 bt395.2.2.2.1 bt395.2.2.2.2.1 bt395.2.2.2.2.2.1 bt395.2.2.2.2.2.2.1 bt395.2.2.2.2.2.2.2.1 bt395.2.2.2.2.2.2.2.2.1 bt395.2.2.2.2.2.2.2.2.2.1 bt395.2.2.2.2.2.2.2.2.2.2.1 bt395.2.2.2.2.2.2.2.2.2.2.2.1 bt395.2.2.2.2.2.2.2.2.2.2.2.2.1 bt395.2.2.2.2.2.2.2.2.2.2.2.2.2.1 bt395.2.2.2.2.2.2.2.2.2.2.2.2.2.2.1 bt395.2.2.2.2.2.2.2.2.2.2.2.2.2.2.2.1 bt395.2.2.2.2.2.2.2.2.2.2.2.2.2.2.2.2.1 bt395.2.2.2.2.2.2.2.2.2.2.2.2.2.2.2.2.2.1 bt395.2.2.2.2.2.2.2.2.2.2.2.2.2.2.2.2.2.2.1 bt395.2.2.2.2.2.2.2.2.2.2.2.2.2.2.2.2.2.2.2.1 bt395.2.2.2.2.2.2.2.2.2.2.2.2.2.2.2.2.2.2.2.2.1)))) = some r := h
 clear h
 replace H := Option.bind_eq_some_iff.mp H
 obtain ⟨t394, A40, H⟩ := H
 replace H : ((water_Pay_s.f a0_0 a0_1 a0_2 a0_3 a0_4 a0_5 a0_6 a0_7 a0_8 a0_9 a0_10 a0_11 a0_12 a0_13 a0_14 a1 a2).bind fun bt395 => (if ((bt395.1 == 0 && (bt395.2.1 == 0 && (bt395.2.2.1 == 0 && (bt395.2.2.2.1 == 0 && (bt395.2.2.2.2.1 == 0 && (bt395.2.2.2.2.2.1 == 0 && (bt395.2.2.2.2.2.2.1 == 0 && (bt395.2.2.2.2.2.2.2.1 == 0 && (bt395.2.2.2.2.2.2.2.2.1 == 0))))))))) && (bt395.2.2.2.2.2.2.2.2.2.1 == 0 && (bt395.2.2.2.2.2.2.2.2.2.2.1 == 0 && (bt395.2.2.2.2.2.2.2.2.2.2.2.1 == 0 && (bt395.2.2.2.2.2.2.2.2.2.2.2.2.1 == 0 && (bt395.2.2.2.2.2.2.2.2.2.2.2.2.2.1 == 0 && (bt395.2.2.2.2.2.2.2.2.2.2.2.2.2.2.1 == 0))))))) = true then (trivetlaw13_WaterPays.j0 k a1 a2 t394 bt395.2.2.2.2.2.2.2.2.2.2.2.2.2.2.2.2.2.2.2.2.2 (bt395.2.2.2.2.2.2.2.2.2.2.2.2.2.2.2.1 == 0 && (bt395.2.2.2.2.2.2.2.2.2.2.2.2.2.2.2.2.1 == 0 && (bt395.2.2.2.2.2.2.2.2.2.2.2.2.2.2.2.2.2.1 == 0 && (bt395.2.2.2.2.2.2.2.2.2.2.2.2.2.2.2.2.2.2.1 == 0 && (bt395.2.2.2.2.2.2.2.2.2.2.2.2.2.2.2.2.2.2.2.1 == 0 && (bt395.2.2.2.2.2.2.2.2.2.2.2.2.2.2.2.2.2.2.2.2.1 == 0)))))) a0_0 a0_1 a0_2 a0_3 a0_4 a0_5 a0_6 a0_7 a0_8 a0_9 a0_10 a0_11 a0_12 a0_13 a0_14 bt395.1 bt395.2.1 bt395.2.2.1 bt395.2.2.2.1 bt395.2.2.2.2.1 bt395.2.2.2.2.2.1 bt395.2.2.2.2.2.2.1 bt395.2.2.2.2.2.2.2.1 bt395.2.2.2.2.2.2.2.2.1 bt395.2.2.2.2.2.2.2.2.2.1 bt395.2.2.2.2.2.2.2.2.2.2.1 bt395.2.2.2.2.2.2.2.2.2.2.2.1 bt395.2.2.2.2.2.2.2.2.2.2.2.2.1 bt395.2.2.2.2.2.2.2.2.2.2.2.2.2.1 bt395.2.2.2.2.2.2.2.2.2.2.2.2.2.2.1 bt395.2.2.2.2.2.2.2.2.2.2.2.2.2.2.2.1 bt395.2.2.2.2.2.2.2.2.2.2.2.2.2.2.2.2.1 bt395.2.2.2.2.2.2.2.2.2.2.2.2.2.2.2.2.2.1 bt395.2.2.2.2.2.2.2.2.2.2.2.2.2.2.2.2.2.2.1 bt395.2.2.2.2.2.2.2.2.2.2.2.2.2.2.2.2.2.2.2.1 bt395.2.2.2.2.2.2.2.2.2.2.2.2.2.2.2.2.2.2.2.2.1) else (trivetlaw13_WaterPays.j0 k a1 a2 t394 bt395.2.2.2.2.2.2.2.2.2.2.2.2.2.2.2.2.2.2.2.2.2 false a0_0 a0_1 a0_2 a0_3 a0_4 a0_5 a0_6 a0_7 a0_8 a0_9 a0_10 a0_11 a0_12 a0_13 a0_14 bt395.1 bt395.2.1 bt395.2.2.1 bt395.2.2.2.1 bt395.2.2.2.2.1 bt395.2.2.2.2.2.1 bt395.2.2.2.2.2.2.1 bt395.2.2.2.2.2.2.2.1 bt395.2.2.2.2.2.2.2.2.1 bt395.2.2.2.2.2.2.2.2.2.1 bt395.2.2.2.2.2.2.2.2.2.2.1 bt395.2.2.2.2.2.2.2.2.2.2.2.1 bt395.2.2.2.2.2.2.2.2.2.2.2.2.1 bt395.2.2.2.2.2.2.2.2.2.2.2.2.2.1 bt395.2.2.2.2.2.2.2.2.2.2.2.2.2.2.1 bt395.2.2.2.2.2.2.2.2.2.2.2.2.2.2.2.1 bt395.2.2.2.2.2.2.2.2.2.2.2.2.2.2.2.2.1 bt395.2.2.2.2.2.2.2.2.2.2.2.2.2.2.2.2.2.1 bt395.2.2.2.2.2.2.2.2.2.2.2.2.2.2.2.2.2.2.1 bt395.2.2.2.2.2.2.2.2.2.2.2.2.2.2.2.2.2.2.2.1 bt395.2.2.2.2.2.2.2.2.2.2.2.2.2.2.2.2.2.2.2.2.1))) = some r := H
 have A4 := ka A40
 clear A40
 replace H := Option.bind_eq_some_iff.mp H
 obtain ⟨⟨t395, t396, t397, t398, t399, t400, t401, t402, t403, t404, t405, t406, t407, t408, t409, t410, t411, t412, t413, t414, t415, t416⟩, A50, H⟩ := H
 replace H : (if ((t395 == 0 && (t396 == 0 && (t397 == 0 && (t398 == 0 && (t399 == 0 && (t400 == 0 && (t401 == 0 && (t402 == 0 && (t403 == 0))))))))) && (t404 == 0 && (t405 == 0 && (t406 == 0 && (t407 == 0 && (t408 == 0 && (t409 == 0))))))) = true then (trivetlaw13_WaterPays.j0 k a1 a2 t394 t416 (t410 == 0 && (t411 == 0 && (t412 == 0 && (t413 == 0 && (t414 == 0 && (t415 == 0)))))) a0_0 a0_1 a0_2 a0_3 a0_4 a0_5 a0_6 a0_7 a0_8 a0_9 a0_10 a0_11 a0_12 a0_13 a0_14 t395 t396 t397 t398 t399 t400 t401 t402 t403 t404 t405 t406 t407 t408 t409 t410 t411 t412 t413 t414 t415) else (trivetlaw13_WaterPays.j0 k a1 a2 t394 t416 false a0_0 a0_1 a0_2 a0_3 a0_4 a0_5 a0_6 a0_7 a0_8 a0_9 a0_10 a0_11 a0_12 a0_13 a0_14 t395 t396 t397 t398 t399 t400 t401 t402 t403 t404 t405 t406 t407 t408 t409 t410 t411 t412 t413 t414 t415)) = some r := H
 have A5 := ka A50
 clear A50
 have HC6 := ka H
 clear H
 go_enter Try.func3, Try.ntmps3
 go_upto_region 3 with (first | ((with_reducible refine gate_dst (N := 3) rfl ?_); refine kx (N := 3) (cs := #[.int .i64 a0_0, .int .i64 a0_1, .int .i64 a0_2, .int .i64 a0_3, .int .i64 a0_4, .int .i64 a0_5, .int .i64 a0_6, .int .i64 a0_7, .int .i64 a0_8, .int .i64 a0_9, .int .i64 a0_10, .int .i64 a0_11, .int .i64 a0_12, .int .i64 a0_13, .int .i64 a0_14]) (t := 25) ?_; intro gb393 hg w7 hbox hb; have n0_ := ka (below_step (kw HB.out) hb); have n1_ := ka (hbox); have n2_ := ka ((by rw [hg]; exact (below_size (kw HB.out)) : w.heap.size ≤ gb393)); have n3_ := n2_; clear HB; have HB := n0_; have BK393 := n1_; have GW393 := n2_; have GE393 := n3_; clear n0_ n1_ n2_ n3_; clear hb hbox hg) | ((with_reducible refine gate_callee (f := 10) rfl ?_); refine kg (some 15) rfl rfl Try.func10 (by kernel_rfl) rfl #[] rfl ?_; (with_reducible refine (trivetlaw13_up_s.calls  t394 _ A4.out).mono ?_); rintro e w8 ⟨rfl, hb⟩; refine ⟨_, rfl, ?_⟩; have n0_ := ka (blk_below (g := gb393) (kz BK393.out) hb); have n1_ := ka (below_step (kw HB.out) hb); clear BK393; clear HB; have BK393 := n0_; have HB := n1_; clear n0_ n1_; (try clear hb); (try clear hb2); (try clear hk); (try clear hi); have hcz9 := blkAll15 BK393.out) | ((with_reducible refine gate_callee (f := 11) rfl ?_); refine kg (some 20) rfl rfl Try.func11 (by kernel_rfl) rfl #[.agg #[.int .i64 a0_0, .int .i64 a0_1, .int .i64 a0_2, .int .i64 a0_3, .int .i64 a0_4, .int .i64 a0_5, .int .i64 a0_6, .int .i64 a0_7, .int .i64 a0_8, .int .i64 a0_9, .int .i64 a0_10, .int .i64 a0_11, .int .i64 a0_12, .int .i64 a0_13, .int .i64 a0_14], .int .i64 a1, .int .i64 a2] rfl ?_; (with_reducible refine (water_Pay_s.calls a0_0 a0_1 a0_2 a0_3 a0_4 a0_5 a0_6 a0_7 a0_8 a0_9 a0_10 a0_11 a0_12 a0_13 a0_14 a1 a2 t395 t396 t397 t398 t399 t400 t401 t402 t403 t404 t405 t406 t407 t408 t409 t410 t411 t412 t413 t414 t415 t416 _ A5.out).mono ?_); rintro e w10 ⟨rfl, hb⟩; refine ⟨_, rfl, ?_⟩; have n0_ := ka (blk_below (g := gb393) (kz BK393.out) hb); have n1_ := ka (below_step (kw HB.out) hb); clear BK393; clear HB; have BK393 := n0_; have HB := n1_; clear n0_ n1_; (try clear hb); (try clear hb2); (try clear hk); (try clear hi); (try simp only [errW_none, errW_some])) | ((with_reducible refine gate_dst (N := 8) rfl ?_); refine kx (N := 8) (cs := #[.int .i64 0, .int .i64 0, .int .i64 0, .int .i64 0, .int .i64 0, .int .i64 0, .int .i64 0, .int .i64 0, .int .i64 0, .int .i64 0, .int .i64 0, .int .i64 0, .int .i64 0, .int .i64 0, .int .i64 0]) (t := 25) ?_; intro gb417 hg w11 hbox hb; have n0_ := ka (blk_below (g := gb393) (kz BK393.out) hb); have n1_ := ka (below_step (kw HB.out) hb); have n2_ := ka (hbox); have n3_ := ka ((by rw [hg]; exact (below_size (kw HB.out)) : w.heap.size ≤ gb417)); have n4_ := n3_; have n5_ := ka ((by rw [hg]; exact Nat.ne_of_lt (blk_lt (g := gb393) (kz BK393.out)) : gb393 ≠ gb417)); have n6_ := ka n5_.out.symm; clear BK393; clear HB; have BK393 := n0_; have HB := n1_; have BK417 := n2_; have GW417 := n3_; have GE417 := n4_; have NB393_417 := n5_; have NB417_393 := n6_; clear n0_ n1_ n2_ n3_ n4_ n5_ n6_; clear hb hbox hg) | ((with_reducible refine gate_dst (N := 9) rfl ?_); refine kx (N := 9) (cs := #[.int .i64 0, .int .i64 0, .int .i64 0, .int .i64 0, .int .i64 0, .int .i64 0]) (t := 28) ?_; intro gb418 hg w12 hbox hb; have n0_ := ka (blk_below (g := gb393) (kz BK393.out) hb); have n1_ := ka (blk_below (g := gb417) (kz BK417.out) hb); have n2_ := ka (below_step (kw HB.out) hb); have n3_ := ka (hbox); have n4_ := ka ((by rw [hg]; exact (below_size (kw HB.out)) : w.heap.size ≤ gb418)); have n5_ := n4_; have n6_ := ka ((by rw [hg]; exact Nat.ne_of_lt (blk_lt (g := gb393) (kz BK393.out)) : gb393 ≠ gb418)); have n7_ := ka n6_.out.symm; have n8_ := ka ((by rw [hg]; exact Nat.ne_of_lt (blk_lt (g := gb417) (kz BK417.out)) : gb417 ≠ gb418)); have n9_ := ka n8_.out.symm; clear BK393; clear BK417; clear HB; have BK393 := n0_; have BK417 := n1_; have HB := n2_; have BK418 := n3_; have GW418 := n4_; have GE418 := n5_; have NB393_418 := n6_; have NB418_393 := n7_; have NB417_418 := n8_; have NB418_417 := n9_; clear n0_ n1_ n2_ n3_ n4_ n5_ n6_ n7_ n8_ n9_; clear hb hbox hg; have hnb13 := NB417_393.out; have hnc13 := NB393_417.out; have hnb14 := NB417_418.out; have hnc14 := NB418_417.out; have hcz15 := blkAll15 BK417.out; have hnb16 := NB418_393.out; have hnc16 := NB393_418.out; have hcz17 := blkAll6 BK418.out) | ((with_reducible refine gate_load (T := 25) rfl ?_); first | refine load_event (g := gb393) rfl rfl rfl Try.underlying25 rfl (by (with_reducible repeat (first | apply kb1 | apply kb2 | apply kb3)); with_reducible exact BK393.out) (by kernel_rfl) ?_ | refine load_event (g := gb417) rfl rfl rfl Try.underlying25 rfl (by (with_reducible repeat (first | apply kb1 | apply kb2 | apply kb3)); with_reducible exact BK417.out) (by kernel_rfl) ?_) | ((with_reducible refine gate_store (T := 25) rfl ?_); first | (refine store_event (g := gb393) rfl rfl rfl rfl rfl (by (with_reducible repeat (first | apply kb1 | apply kb2 | apply kb3)); with_reducible exact BK393.out) (by kernel_rfl) (by rfl) (by rfl) ?_; intro w_393 eX eO eB; (try (replace BK417 := ka ((eO _ NB417_393.out).trans (by (with_reducible repeat (first | apply kb1 | apply kb2 | apply kb3)); with_reducible exact BK417.out)))); (try (replace BK418 := ka ((eO _ NB418_393.out).trans (by (with_reducible repeat (first | apply kb1 | apply kb2 | apply kb3)); with_reducible exact BK418.out)))); replace BK393 := ka eX; replace HB := ka (eB _ _ (kw HB.out) GE393.out); clear eX eO eB; (try have hz393 := blkAll15 BK393.out); (try have hz417 := blkAll15 BK417.out); (try have hz418 := blkAll6 BK418.out); (try have hy417 := NB417_393.out); (try have hx417 := NB393_417.out); (try have hy418 := NB418_393.out); (try have hx418 := NB393_418.out)) | (refine store_event (g := gb417) rfl rfl rfl rfl rfl (by (with_reducible repeat (first | apply kb1 | apply kb2 | apply kb3)); with_reducible exact BK417.out) (by kernel_rfl) (by rfl) (by rfl) ?_; intro w_417 eX eO eB; (try (replace BK393 := ka ((eO _ NB393_417.out).trans (by (with_reducible repeat (first | apply kb1 | apply kb2 | apply kb3)); with_reducible exact BK393.out)))); (try (replace BK418 := ka ((eO _ NB418_417.out).trans (by (with_reducible repeat (first | apply kb1 | apply kb2 | apply kb3)); with_reducible exact BK418.out)))); replace BK417 := ka eX; replace HB := ka (eB _ _ (kw HB.out) GE417.out); clear eX eO eB; (try have hz393 := blkAll15 BK393.out); (try have hz417 := blkAll15 BK417.out); (try have hz418 := blkAll6 BK418.out); (try have hy393 := NB393_417.out); (try have hx393 := NB417_393.out); (try have hy418 := NB418_417.out); (try have hx418 := NB417_418.out))))
 (try simp only [Act.put, List.setIfInBounds_toArray, List.set_cons_zero, List.set_cons_succ])
 go_cut [11] (fun v11 wc => ∃ (kq : Nat) (x11_5 : Bool), v11 = .bool x11_5 ∧ Aside0 (trivetlaw13_WaterPays.j0 kq a1 a2 t394 t416 x11_5 a0_0 a0_1 a0_2 a0_3 a0_4 a0_5 a0_6 a0_7 a0_8 a0_9 a0_10 a0_11 a0_12 a0_13 a0_14 t395 t396 t397 t398 t399 t400 t401 t402 t403 t404 t405 t406 t407 t408 t409 t410 t411 t412 t413 t414 t415 = some r) ∧ Aside0 (kq ≤ k) ∧ Aside0 (wc.heap[gb393]? = some (.cells #[.int .i64 a0_0, .int .i64 a0_1, .int .i64 a0_2, .int .i64 a0_3, .int .i64 a0_4, .int .i64 a0_5, .int .i64 a0_6, .int .i64 a0_7, .int .i64 a0_8, .int .i64 a0_9, .int .i64 a0_10, .int .i64 a0_11, .int .i64 a0_12, .int .i64 a0_13, .int .i64 a0_14] 25 (0, 0))) ∧ Aside0 (wc.heap[gb417]? = some (.cells #[.int .i64 t395, .int .i64 t396, .int .i64 t397, .int .i64 t398, .int .i64 t399, .int .i64 t400, .int .i64 t401, .int .i64 t402, .int .i64 t403, .int .i64 t404, .int .i64 t405, .int .i64 t406, .int .i64 t407, .int .i64 t408, .int .i64 t409] 25 (0, 0))) ∧ Aside0 (wc.heap[gb418]? = some (.cells #[.int .i64 t410, .int .i64 t411, .int .i64 t412, .int .i64 t413, .int .i64 t414, .int .i64 t415] 28 (0, 0))) ∧ Aside0 (Below w.heap.size w wc))
 case first =>
  have H := HC6.out
  clear HC6
  by_cases c18 : ((t395 == 0 && (t396 == 0 && (t397 == 0 && (t398 == 0 && (t399 == 0 && (t400 == 0 && (t401 == 0 && (t402 == 0 && (t403 == 0))))))))) && (t404 == 0 && (t405 == 0 && (t406 == 0 && (t407 == 0 && (t408 == 0 && (t409 == 0))))))) = true
  ·rw [if_pos c18] at H
   have c18b0 : ((t395 == 0 && (t396 == 0 && (t397 == 0 && (t398 == 0 && (t399 == 0 && (t400 == 0 && (t401 == 0 && (t402 == 0 && (t403 == 0))))))))) && (t404 == 0 && (t405 == 0 && (t406 == 0 && (t407 == 0 && (t408 == 0 && (t409 == 0))))))) = true := c18
   clear c18
   (first | rw [c18b0] | (simp only [i64_w, i32_w]; rw [c18b0]) | skip)
   have H' := ka H
   clear H
   have hnb19 := NB417_393.out
   have hnc19 := NB393_417.out
   have hnb20 := NB417_418.out
   have hnc20 := NB418_417.out
   have hcz21 := blkAll15 BK417.out
   have hnb22 := NB418_393.out
   have hnc22 := NB393_418.out
   have hcz23 := blkAll6 BK418.out
   go_wp2
   go_meet
   case rel => exact ⟨_, ((t410 == 0 && (t411 == 0 && (t412 == 0 && (t413 == 0 && (t414 == 0 && (t415 == 0))))))), (by first | rfl | (simp; done) | (simp [*]; done)), H', ⟨by first | omega | exact Nat.le_refl _⟩, ⟨by (with_reducible repeat (first | apply kb1 | apply kb2 | apply kb3 | refine kb4 ?_ NB393_418.out _ | refine kb4 ?_ NB393_417.out _)); exact BK393.out⟩, ⟨by (with_reducible repeat (first | apply kb1 | apply kb2 | apply kb3 | refine kb4 ?_ NB417_418.out _ | apply blkPut15_14 | apply blkPut15_13 | apply blkPut15_12 | apply blkPut15_11 | apply blkPut15_10 | apply blkPut15_9 | apply blkPut15_8 | apply blkPut15_7 | apply blkPut15_6 | apply blkPut15_5 | apply blkPut15_4 | apply blkPut15_3 | apply blkPut15_2 | apply blkPut15_1 | apply blkPut15_0)); exact BK417.out⟩, ⟨by (with_reducible repeat (first | apply kb1 | apply kb2 | apply kb3 | apply blkPut6_5 | apply blkPut6_4 | apply blkPut6_3 | apply blkPut6_2 | apply blkPut6_1 | apply blkPut6_0 | refine kb4 ?_ NB418_417.out _)); exact BK418.out⟩, ⟨by repeat (first | (with_reducible first | exact HB.out | apply kc1 | apply kc2 | apply kc3 | refine kc4 ?_ GE393.out | refine kc4 ?_ GE417.out | refine kc4 ?_ GE418.out) | exact HB.out)⟩⟩
  ·rw [if_neg c18] at H
   have c18b0 : ((t395 == 0 && (t396 == 0 && (t397 == 0 && (t398 == 0 && (t399 == 0 && (t400 == 0 && (t401 == 0 && (t402 == 0 && (t403 == 0))))))))) && (t404 == 0 && (t405 == 0 && (t406 == 0 && (t407 == 0 && (t408 == 0 && (t409 == 0))))))) = false := by simpa using c18
   clear c18
   (first | rw [c18b0] | (simp only [i64_w, i32_w]; rw [c18b0]) | skip)
   have H' := ka H
   clear H
   have hnb24 := NB417_393.out
   have hnc24 := NB393_417.out
   have hnb25 := NB417_418.out
   have hnc25 := NB418_417.out
   have hcz26 := blkAll15 BK417.out
   go_wp2
   go_meet
   case rel => exact ⟨_, (false), (by first | rfl | (simp; done) | (simp [*]; done)), H', ⟨by first | omega | exact Nat.le_refl _⟩, ⟨by (with_reducible repeat (first | apply kb1 | apply kb2 | apply kb3 | refine kb4 ?_ NB393_418.out _ | refine kb4 ?_ NB393_417.out _)); exact BK393.out⟩, ⟨by (with_reducible repeat (first | apply kb1 | apply kb2 | apply kb3 | refine kb4 ?_ NB417_418.out _ | apply blkPut15_14 | apply blkPut15_13 | apply blkPut15_12 | apply blkPut15_11 | apply blkPut15_10 | apply blkPut15_9 | apply blkPut15_8 | apply blkPut15_7 | apply blkPut15_6 | apply blkPut15_5 | apply blkPut15_4 | apply blkPut15_3 | apply blkPut15_2 | apply blkPut15_1 | apply blkPut15_0)); exact BK417.out⟩, ⟨by (with_reducible repeat (first | apply kb1 | apply kb2 | apply kb3 | apply blkPut6_5 | apply blkPut6_4 | apply blkPut6_3 | apply blkPut6_2 | apply blkPut6_1 | apply blkPut6_0 | refine kb4 ?_ NB418_417.out _)); exact BK418.out⟩, ⟨by repeat (first | (with_reducible first | exact HB.out | apply kc1 | apply kc2 | apply kc3 | refine kc4 ?_ GE393.out | refine kc4 ?_ GE417.out | refine kc4 ?_ GE418.out) | exact HB.out)⟩⟩
 case rest =>
  clear HC6
  try clear c1
  try clear c2
  try clear p2
  try clear c3
  try clear c10
  try clear c11
  try clear c13
  try clear c14
  try clear c16
  try clear c18
  try clear c18b0
  try clear c19
  try clear c20
  try clear c22
  try clear c24
  try clear c25
  try clear hcz15
  try clear hcz17
  try clear hcz21
  try clear hcz23
  try clear hcz26
  try clear hcz9
  obtain ⟨kq, x11_5, rfl, HA, HJ5, BK393, BK417, BK418, HB⟩ := hcut
  cases kq with
  | zero => exact absurd HA.out (by simp [trivetlaw13_WaterPays.j0])
  | succ kj5 =>
   have H := HA.out
   clear HA
   simp only [trivetlaw13_WaterPays.j0] at H
   replace H := Option.bind_eq_some_iff.mp H
   obtain ⟨t419, A270, H⟩ := H
   replace H : (if t419 = true then (if (wrap64 (a0_13 + a2)) > 10000000000000 then (if t394 = true then (if t416.isNone = true then (none) else (if (t416.getD 0) = 3 then (some x11_5) else (none))) else (none)) else ((trivetref13_Pay_s.f a0_0 a0_1 a0_2 a0_3 a0_4 a0_5 a0_6 a0_7 a0_8 a0_9 a0_10 a0_11 a0_12 a0_13 a0_14 a1 a2).bind fun bt421 => (if t394 = true then (if t416.isNone = true then (if ((t395 == bt421.1 && (t396 == bt421.2.1 && (t397 == bt421.2.2.1 && (t398 == bt421.2.2.2.1 && (t399 == bt421.2.2.2.2.1 && (t400 == bt421.2.2.2.2.2.1 && (t401 == bt421.2.2.2.2.2.2.1 && (t402 == bt421.2.2.2.2.2.2.2.1 && (t403 == bt421.2.2.2.2.2.2.2.2.1))))))))) && (t404 == bt421.2.2.2.2.2.2.2.2.2.1 && (t405 == bt421.2.2.2.2.2.2.2.2.2.2.1 && (t406 == bt421.2.2.2.2.2.2.2.2.2.2.2.1 && (t407 == bt421.2.2.2.2.2.2.2.2.2.2.2.2.1 && (t408 == bt421.2.2.2.2.2.2.2.2.2.2.2.2.2.1 && (t409 == bt421.2.2.2.2.2.2.2.2.2.2.2.2.2.2.1))))))) = true then (some (t410 == bt421.2.2.2.2.2.2.2.2.2.2.2.2.2.2.2.1 && (t411 == bt421.2.2.2.2.2.2.2.2.2.2.2.2.2.2.2.2.1 && (t412 == bt421.2.2.2.2.2.2.2.2.2.2.2.2.2.2.2.2.2.1 && (t413 == bt421.2.2.2.2.2.2.2.2.2.2.2.2.2.2.2.2.2.2.1 && (t414 == bt421.2.2.2.2.2.2.2.2.2.2.2.2.2.2.2.2.2.2.2.1 && (t415 == bt421.2.2.2.2.2.2.2.2.2.2.2.2.2.2.2.2.2.2.2.2))))))) else (none)) else (none)) else (none)))) else (if t394 = true then (if t416.isNone = true then (none) else (if (t416.getD 0) = 1 then (some x11_5) else (none))) else (none))) = some r := H
   have A27 := ka A270
   clear A270
   by_cases c28 : t419 = true
   ·subst c28
    have H1 : (if (wrap64 (a0_13 + a2)) > 10000000000000 then (if t394 = true then (if t416.isNone = true then (none) else (if (t416.getD 0) = 3 then (some x11_5) else (none))) else (none)) else ((trivetref13_Pay_s.f a0_0 a0_1 a0_2 a0_3 a0_4 a0_5 a0_6 a0_7 a0_8 a0_9 a0_10 a0_11 a0_12 a0_13 a0_14 a1 a2).bind fun bt421 => (if t394 = true then (if t416.isNone = true then (if ((t395 == bt421.1 && (t396 == bt421.2.1 && (t397 == bt421.2.2.1 && (t398 == bt421.2.2.2.1 && (t399 == bt421.2.2.2.2.1 && (t400 == bt421.2.2.2.2.2.1 && (t401 == bt421.2.2.2.2.2.2.1 && (t402 == bt421.2.2.2.2.2.2.2.1 && (t403 == bt421.2.2.2.2.2.2.2.2.1))))))))) && (t404 == bt421.2.2.2.2.2.2.2.2.2.1 && (t405 == bt421.2.2.2.2.2.2.2.2.2.2.1 && (t406 == bt421.2.2.2.2.2.2.2.2.2.2.2.1 && (t407 == bt421.2.2.2.2.2.2.2.2.2.2.2.2.1 && (t408 == bt421.2.2.2.2.2.2.2.2.2.2.2.2.2.1 && (t409 == bt421.2.2.2.2.2.2.2.2.2.2.2.2.2.2.1))))))) = true then (some (t410 == bt421.2.2.2.2.2.2.2.2.2.2.2.2.2.2.2.1 && (t411 == bt421.2.2.2.2.2.2.2.2.2.2.2.2.2.2.2.2.1 && (t412 == bt421.2.2.2.2.2.2.2.2.2.2.2.2.2.2.2.2.2.1 && (t413 == bt421.2.2.2.2.2.2.2.2.2.2.2.2.2.2.2.2.2.2.1 && (t414 == bt421.2.2.2.2.2.2.2.2.2.2.2.2.2.2.2.2.2.2.2.1 && (t415 == bt421.2.2.2.2.2.2.2.2.2.2.2.2.2.2.2.2.2.2.2.2))))))) else (none)) else (none)) else (none)))) = some r := by rw [if_pos rfl] at H; exact H
    clear H
    have H := H1
    clear H1
    by_cases c29 : (wrap64 (a0_13 + a2)) > 10000000000000
    ·rw [if_pos c29] at H
     have c29b0 : decide (10000000000000 < (wrap64 (a0_13 + a2))) = true := decide_eq_true c29
     clear c29
     by_cases c30 : t394 = true
     ·subst c30
      have H1 : (if t416.isNone = true then (none) else (if (t416.getD 0) = 3 then (some x11_5) else (none))) = some r := by rw [if_pos rfl] at H; exact H
      clear H
      have H := H1
      clear H1
      rcases t416 with _ | q420
      ·have H1 : (none) = some r := by rw [if_pos (show (none : Option Int).isNone = true by rfl)] at H; exact H
       clear H
       have H := H1
       clear H1
       try simp only [errW_none, errW_some]
       exact absurd H (by simp)
      ·have H1 : (if q420 = 3 then (some x11_5) else (none)) = some r := by rw [if_neg (show ¬ (some q420).isNone = true by simp)] at H; exact H
       clear H
       have H := H1
       clear H1
       try simp only [errW_none, errW_some]
       by_cases c31 : q420 = 3
       ·rw [if_pos c31] at H
        have c31b0 : (q420 == 3) = true := beq_iff_eq.mpr c31
        have c31b1 : (q420 != 3) = false := bne_eq_false_iff_eq.mpr c31
        clear c31
        obtain rfl := Option.some.inj H
        have hnb32 := NB393_417.out
        have hnc32 := NB417_393.out
        have hnb33 := NB393_418.out
        have hnc33 := NB418_393.out
        have hcz34 := blkAll15 BK393.out
        go_wp2_with (first | ((with_reducible refine gate_callee (f := 12) rfl ?_); refine kg (some 35) rfl rfl Try.func12 (by kernel_rfl) rfl #[.agg #[.int .i64 a0_0, .int .i64 a0_1, .int .i64 a0_2, .int .i64 a0_3, .int .i64 a0_4, .int .i64 a0_5, .int .i64 a0_6, .int .i64 a0_7, .int .i64 a0_8, .int .i64 a0_9, .int .i64 a0_10, .int .i64 a0_11, .int .i64 a0_12, .int .i64 a0_13, .int .i64 a0_14], .int .i64 a1, .int .i64 a2] rfl ?_; (with_reducible refine (trivetref13_Asked_s.calls a0_0 a0_1 a0_2 a0_3 a0_4 a0_5 a0_6 a0_7 a0_8 a0_9 a0_10 a0_11 a0_12 a0_13 a0_14 a1 a2 true _ A27.out).mono ?_); rintro e w35 ⟨rfl, hb⟩; refine ⟨_, rfl, ?_⟩; have n0_ := ka (blk_below (g := gb393) (kz BK393.out) hb); have n1_ := ka (blk_below (g := gb417) (kz BK417.out) hb); have n2_ := ka (blk_below (g := gb418) (kz BK418.out) hb); have n3_ := ka (below_step (kw HB.out) hb); clear BK393; clear BK417; clear BK418; clear HB; have BK393 := n0_; have BK417 := n1_; have BK418 := n2_; have HB := n3_; clear n0_ n1_ n2_ n3_; (try clear hb); (try clear hb2); (try clear hk); (try clear hi); have hcz36 := blkAll15 BK393.out) | ((with_reducible refine gate_load (T := 25) rfl ?_); first | refine load_event (g := gb393) rfl rfl rfl Try.underlying25 rfl (by (with_reducible repeat (first | apply kb1 | apply kb2 | apply kb3)); with_reducible exact BK393.out) (by kernel_rfl) ?_ | refine load_event (g := gb417) rfl rfl rfl Try.underlying25 rfl (by (with_reducible repeat (first | apply kb1 | apply kb2 | apply kb3)); with_reducible exact BK417.out) (by kernel_rfl) ?_) | ((with_reducible refine gate_store (T := 25) rfl ?_); first | (refine store_event (g := gb393) rfl rfl rfl rfl rfl (by (with_reducible repeat (first | apply kb1 | apply kb2 | apply kb3)); with_reducible exact BK393.out) (by kernel_rfl) (by rfl) (by rfl) ?_; intro w_393 eX eO eB; (try (replace BK417 := ka ((eO _ NB417_393.out).trans (by (with_reducible repeat (first | apply kb1 | apply kb2 | apply kb3)); with_reducible exact BK417.out)))); (try (replace BK418 := ka ((eO _ NB418_393.out).trans (by (with_reducible repeat (first | apply kb1 | apply kb2 | apply kb3)); with_reducible exact BK418.out)))); replace BK393 := ka eX; replace HB := ka (eB _ _ (kw HB.out) GE393.out); clear eX eO eB; (try have hz393 := blkAll15 BK393.out); (try have hz417 := blkAll15 BK417.out); (try have hz418 := blkAll6 BK418.out); (try have hy417 := NB417_393.out); (try have hx417 := NB393_417.out); (try have hy418 := NB418_393.out); (try have hx418 := NB393_418.out)) | (refine store_event (g := gb417) rfl rfl rfl rfl rfl (by (with_reducible repeat (first | apply kb1 | apply kb2 | apply kb3)); with_reducible exact BK417.out) (by kernel_rfl) (by rfl) (by rfl) ?_; intro w_417 eX eO eB; (try (replace BK393 := ka ((eO _ NB393_417.out).trans (by (with_reducible repeat (first | apply kb1 | apply kb2 | apply kb3)); with_reducible exact BK393.out)))); (try (replace BK418 := ka ((eO _ NB418_417.out).trans (by (with_reducible repeat (first | apply kb1 | apply kb2 | apply kb3)); with_reducible exact BK418.out)))); replace BK417 := ka eX; replace HB := ka (eB _ _ (kw HB.out) GE417.out); clear eX eO eB; (try have hz393 := blkAll15 BK393.out); (try have hz417 := blkAll15 BK417.out); (try have hz418 := blkAll6 BK418.out); (try have hy393 := NB393_417.out); (try have hx393 := NB417_393.out); (try have hy418 := NB418_417.out); (try have hx418 := NB417_418.out))))
        go_ret
        exact ⟨by first | rfl | (simp [errW_none, errW_some] <;> rfl) | (simp [*, errW_none, errW_some] <;> rfl), by repeat (first | (with_reducible first | exact HB.out | apply kc1 | apply kc2 | apply kc3 | refine kc4 ?_ GE393.out | refine kc4 ?_ GE417.out | refine kc4 ?_ GE418.out) | exact HB.out)⟩
       ·rw [if_neg c31] at H
        exact absurd H (by simp)
     ·replace c30 := Bool.eq_false_iff.mpr c30
      subst c30
      have H1 : (none) = some r := by rw [if_neg (show ¬ (false = true) by decide)] at H; exact H
      clear H
      have H := H1
      clear H1
      exact absurd H (by simp)
    ·rw [if_neg c29] at H
     have c29b0 : decide (10000000000000 < (wrap64 (a0_13 + a2))) = false := decide_eq_false c29
     clear c29
     replace H := Option.bind_eq_some_iff.mp H
     obtain ⟨⟨t421, t422, t423, t424, t425, t426, t427, t428, t429, t430, t431, t432, t433, t434, t435, t436, t437, t438, t439, t440, t441⟩, A370, H⟩ := H
     replace H : (if t394 = true then (if t416.isNone = true then (if ((t395 == t421 && (t396 == t422 && (t397 == t423 && (t398 == t424 && (t399 == t425 && (t400 == t426 && (t401 == t427 && (t402 == t428 && (t403 == t429))))))))) && (t404 == t430 && (t405 == t431 && (t406 == t432 && (t407 == t433 && (t408 == t434 && (t409 == t435))))))) = true then (some (t410 == t436 && (t411 == t437 && (t412 == t438 && (t413 == t439 && (t414 == t440 && (t415 == t441))))))) else (none)) else (none)) else (none)) = some r := H
     have A37 := ka A370
     clear A370
     by_cases c38 : t394 = true
     ·subst c38
      have H1 : (if t416.isNone = true then (if ((t395 == t421 && (t396 == t422 && (t397 == t423 && (t398 == t424 && (t399 == t425 && (t400 == t426 && (t401 == t427 && (t402 == t428 && (t403 == t429))))))))) && (t404 == t430 && (t405 == t431 && (t406 == t432 && (t407 == t433 && (t408 == t434 && (t409 == t435))))))) = true then (some (t410 == t436 && (t411 == t437 && (t412 == t438 && (t413 == t439 && (t414 == t440 && (t415 == t441))))))) else (none)) else (none)) = some r := by rw [if_pos rfl] at H; exact H
      clear H
      have H := H1
      clear H1
      rcases t416 with _ | q444
      ·have H1 : (if ((t395 == t421 && (t396 == t422 && (t397 == t423 && (t398 == t424 && (t399 == t425 && (t400 == t426 && (t401 == t427 && (t402 == t428 && (t403 == t429))))))))) && (t404 == t430 && (t405 == t431 && (t406 == t432 && (t407 == t433 && (t408 == t434 && (t409 == t435))))))) = true then (some (t410 == t436 && (t411 == t437 && (t412 == t438 && (t413 == t439 && (t414 == t440 && (t415 == t441))))))) else (none)) = some r := by rw [if_pos (show (none : Option Int).isNone = true by rfl)] at H; exact H
       clear H
       have H := H1
       clear H1
       try simp only [errW_none, errW_some]
       by_cases c39 : ((t395 == t421 && (t396 == t422 && (t397 == t423 && (t398 == t424 && (t399 == t425 && (t400 == t426 && (t401 == t427 && (t402 == t428 && (t403 == t429))))))))) && (t404 == t430 && (t405 == t431 && (t406 == t432 && (t407 == t433 && (t408 == t434 && (t409 == t435))))))) = true
       ·rw [if_pos c39] at H
        have c39b0 : ((t395 == t421 && (t396 == t422 && (t397 == t423 && (t398 == t424 && (t399 == t425 && (t400 == t426 && (t401 == t427 && (t402 == t428 && (t403 == t429))))))))) && (t404 == t430 && (t405 == t431 && (t406 == t432 && (t407 == t433 && (t408 == t434 && (t409 == t435))))))) = true := c39
        clear c39
        obtain rfl := Option.some.inj H
        have hnb40 := NB393_417.out
        have hnc40 := NB417_393.out
        have hnb41 := NB393_418.out
        have hnc41 := NB418_393.out
        have hcz42 := blkAll15 BK393.out
        go_wp2_with (first | ((with_reducible refine gate_callee (f := 12) rfl ?_); refine kg (some 35) rfl rfl Try.func12 (by kernel_rfl) rfl #[.agg #[.int .i64 a0_0, .int .i64 a0_1, .int .i64 a0_2, .int .i64 a0_3, .int .i64 a0_4, .int .i64 a0_5, .int .i64 a0_6, .int .i64 a0_7, .int .i64 a0_8, .int .i64 a0_9, .int .i64 a0_10, .int .i64 a0_11, .int .i64 a0_12, .int .i64 a0_13, .int .i64 a0_14], .int .i64 a1, .int .i64 a2] rfl ?_; (with_reducible refine (trivetref13_Asked_s.calls a0_0 a0_1 a0_2 a0_3 a0_4 a0_5 a0_6 a0_7 a0_8 a0_9 a0_10 a0_11 a0_12 a0_13 a0_14 a1 a2 true _ A27.out).mono ?_); rintro e w43 ⟨rfl, hb⟩; refine ⟨_, rfl, ?_⟩; have n0_ := ka (blk_below (g := gb393) (kz BK393.out) hb); have n1_ := ka (blk_below (g := gb417) (kz BK417.out) hb); have n2_ := ka (blk_below (g := gb418) (kz BK418.out) hb); have n3_ := ka (below_step (kw HB.out) hb); clear BK393; clear BK417; clear BK418; clear HB; have BK393 := n0_; have BK417 := n1_; have BK418 := n2_; have HB := n3_; clear n0_ n1_ n2_ n3_; (try clear hb); (try clear hb2); (try clear hk); (try clear hi); have hcz44 := blkAll15 BK393.out) | ((with_reducible refine gate_callee (f := 13) rfl ?_); refine kg (some 65) rfl rfl Try.func13 (by kernel_rfl) rfl #[.agg #[.int .i64 a0_0, .int .i64 a0_1, .int .i64 a0_2, .int .i64 a0_3, .int .i64 a0_4, .int .i64 a0_5, .int .i64 a0_6, .int .i64 a0_7, .int .i64 a0_8, .int .i64 a0_9, .int .i64 a0_10, .int .i64 a0_11, .int .i64 a0_12, .int .i64 a0_13, .int .i64 a0_14], .int .i64 a1, .int .i64 a2] rfl ?_; (with_reducible refine (trivetref13_Pay_s.calls a0_0 a0_1 a0_2 a0_3 a0_4 a0_5 a0_6 a0_7 a0_8 a0_9 a0_10 a0_11 a0_12 a0_13 a0_14 a1 a2 t421 t422 t423 t424 t425 t426 t427 t428 t429 t430 t431 t432 t433 t434 t435 t436 t437 t438 t439 t440 t441 _ A37.out).mono ?_); rintro e w45 ⟨rfl, hb⟩; refine ⟨_, rfl, ?_⟩; have n0_ := ka (blk_below (g := gb393) (kz BK393.out) hb); have n1_ := ka (blk_below (g := gb417) (kz BK417.out) hb); have n2_ := ka (blk_below (g := gb418) (kz BK418.out) hb); have n3_ := ka (below_step (kw HB.out) hb); clear BK393; clear BK417; clear BK418; clear HB; have BK393 := n0_; have BK417 := n1_; have BK418 := n2_; have HB := n3_; clear n0_ n1_ n2_ n3_; (try clear hb); (try clear hb2); (try clear hk); (try clear hi)) | ((with_reducible refine gate_dst (N := 13) rfl ?_); refine kx (N := 13) (cs := #[.int .i64 0, .int .i64 0, .int .i64 0, .int .i64 0, .int .i64 0, .int .i64 0, .int .i64 0, .int .i64 0, .int .i64 0, .int .i64 0, .int .i64 0, .int .i64 0, .int .i64 0, .int .i64 0, .int .i64 0]) (t := 25) ?_; intro gb442 hg w46 hbox hb; have n0_ := ka (blk_below (g := gb393) (kz BK393.out) hb); have n1_ := ka (blk_below (g := gb417) (kz BK417.out) hb); have n2_ := ka (blk_below (g := gb418) (kz BK418.out) hb); have n3_ := ka (below_step (kw HB.out) hb); have n4_ := ka (hbox); have n5_ := ka ((by rw [hg]; exact (below_size (kw HB.out)) : w.heap.size ≤ gb442)); have n6_ := n5_; have n7_ := ka ((by rw [hg]; exact Nat.ne_of_lt (blk_lt (g := gb393) (kz BK393.out)) : gb393 ≠ gb442)); have n8_ := ka n7_.out.symm; have n9_ := ka ((by rw [hg]; exact Nat.ne_of_lt (blk_lt (g := gb417) (kz BK417.out)) : gb417 ≠ gb442)); have n10_ := ka n9_.out.symm; have n11_ := ka ((by rw [hg]; exact Nat.ne_of_lt (blk_lt (g := gb418) (kz BK418.out)) : gb418 ≠ gb442)); have n12_ := ka n11_.out.symm; clear BK393; clear BK417; clear BK418; clear HB; have BK393 := n0_; have BK417 := n1_; have BK418 := n2_; have HB := n3_; have BK442 := n4_; have GW442 := n5_; have GE442 := n6_; have NB393_442 := n7_; have NB442_393 := n8_; have NB417_442 := n9_; have NB442_417 := n10_; have NB418_442 := n11_; have NB442_418 := n12_; clear n0_ n1_ n2_ n3_ n4_ n5_ n6_ n7_ n8_ n9_ n10_ n11_ n12_; clear hb hbox hg) | ((with_reducible refine gate_dst (N := 14) rfl ?_); refine kx (N := 14) (cs := #[.int .i64 0, .int .i64 0, .int .i64 0, .int .i64 0, .int .i64 0, .int .i64 0]) (t := 28) ?_; intro gb443 hg w47 hbox hb; have n0_ := ka (blk_below (g := gb393) (kz BK393.out) hb); have n1_ := ka (blk_below (g := gb417) (kz BK417.out) hb); have n2_ := ka (blk_below (g := gb418) (kz BK418.out) hb); have n3_ := ka (blk_below (g := gb442) (kz BK442.out) hb); have n4_ := ka (below_step (kw HB.out) hb); have n5_ := ka (hbox); have n6_ := ka ((by rw [hg]; exact (below_size (kw HB.out)) : w.heap.size ≤ gb443)); have n7_ := n6_; have n8_ := ka ((by rw [hg]; exact Nat.ne_of_lt (blk_lt (g := gb393) (kz BK393.out)) : gb393 ≠ gb443)); have n9_ := ka n8_.out.symm; have n10_ := ka ((by rw [hg]; exact Nat.ne_of_lt (blk_lt (g := gb417) (kz BK417.out)) : gb417 ≠ gb443)); have n11_ := ka n10_.out.symm; have n12_ := ka ((by rw [hg]; exact Nat.ne_of_lt (blk_lt (g := gb418) (kz BK418.out)) : gb418 ≠ gb443)); have n13_ := ka n12_.out.symm; have n14_ := ka ((by rw [hg]; exact Nat.ne_of_lt (blk_lt (g := gb442) (kz BK442.out)) : gb442 ≠ gb443)); have n15_ := ka n14_.out.symm; clear BK393; clear BK417; clear BK418; clear BK442; clear HB; have BK393 := n0_; have BK417 := n1_; have BK418 := n2_; have BK442 := n3_; have HB := n4_; have BK443 := n5_; have GW443 := n6_; have GE443 := n7_; have NB393_443 := n8_; have NB443_393 := n9_; have NB417_443 := n10_; have NB443_417 := n11_; have NB418_443 := n12_; have NB443_418 := n13_; have NB442_443 := n14_; have NB443_442 := n15_; clear n0_ n1_ n2_ n3_ n4_ n5_ n6_ n7_ n8_ n9_ n10_ n11_ n12_ n13_ n14_ n15_; clear hb hbox hg; have hnb48 := NB442_393.out; have hnc48 := NB393_442.out; have hnb49 := NB442_417.out; have hnc49 := NB417_442.out; have hnb50 := NB442_418.out; have hnc50 := NB418_442.out; have hnb51 := NB442_443.out; have hnc51 := NB443_442.out; have hcz52 := blkAll15 BK442.out; have hnb53 := NB443_393.out; have hnc53 := NB393_443.out; have hnb54 := NB443_417.out; have hnc54 := NB417_443.out; have hnb55 := NB443_418.out; have hnc55 := NB418_443.out; have hcz56 := blkAll6 BK443.out; have hnb57 := NB417_418.out; have hnc57 := NB418_417.out; have hcz58 := blkAll15 BK417.out; have hcz59 := blkAll6 BK418.out) | ((with_reducible refine gate_load (T := 25) rfl ?_); first | refine load_event (g := gb393) rfl rfl rfl Try.underlying25 rfl (by (with_reducible repeat (first | apply kb1 | apply kb2 | apply kb3)); with_reducible exact BK393.out) (by kernel_rfl) ?_ | refine load_event (g := gb417) rfl rfl rfl Try.underlying25 rfl (by (with_reducible repeat (first | apply kb1 | apply kb2 | apply kb3)); with_reducible exact BK417.out) (by kernel_rfl) ?_ | refine load_event (g := gb442) rfl rfl rfl Try.underlying25 rfl (by (with_reducible repeat (first | apply kb1 | apply kb2 | apply kb3)); with_reducible exact BK442.out) (by kernel_rfl) ?_) | ((with_reducible refine gate_store (T := 25) rfl ?_); first | (refine store_event (g := gb393) rfl rfl rfl rfl rfl (by (with_reducible repeat (first | apply kb1 | apply kb2 | apply kb3)); with_reducible exact BK393.out) (by kernel_rfl) (by rfl) (by rfl) ?_; intro w_393 eX eO eB; (try (replace BK417 := ka ((eO _ NB417_393.out).trans (by (with_reducible repeat (first | apply kb1 | apply kb2 | apply kb3)); with_reducible exact BK417.out)))); (try (replace BK418 := ka ((eO _ NB418_393.out).trans (by (with_reducible repeat (first | apply kb1 | apply kb2 | apply kb3)); with_reducible exact BK418.out)))); (try (replace BK442 := ka ((eO _ NB442_393.out).trans (by (with_reducible repeat (first | apply kb1 | apply kb2 | apply kb3)); with_reducible exact BK442.out)))); (try (replace BK443 := ka ((eO _ NB443_393.out).trans (by (with_reducible repeat (first | apply kb1 | apply kb2 | apply kb3)); with_reducible exact BK443.out)))); replace BK393 := ka eX; replace HB := ka (eB _ _ (kw HB.out) GE393.out); clear eX eO eB; (try have hz393 := blkAll15 BK393.out); (try have hz417 := blkAll15 BK417.out); (try have hz418 := blkAll6 BK418.out); (try have hz442 := blkAll15 BK442.out); (try have hz443 := blkAll6 BK443.out); (try have hy417 := NB417_393.out); (try have hx417 := NB393_417.out); (try have hy418 := NB418_393.out); (try have hx418 := NB393_418.out); (try have hy442 := NB442_393.out); (try have hx442 := NB393_442.out); (try have hy443 := NB443_393.out); (try have hx443 := NB393_443.out)) | (refine store_event (g := gb417) rfl rfl rfl rfl rfl (by (with_reducible repeat (first | apply kb1 | apply kb2 | apply kb3)); with_reducible exact BK417.out) (by kernel_rfl) (by rfl) (by rfl) ?_; intro w_417 eX eO eB; (try (replace BK393 := ka ((eO _ NB393_417.out).trans (by (with_reducible repeat (first | apply kb1 | apply kb2 | apply kb3)); with_reducible exact BK393.out)))); (try (replace BK418 := ka ((eO _ NB418_417.out).trans (by (with_reducible repeat (first | apply kb1 | apply kb2 | apply kb3)); with_reducible exact BK418.out)))); (try (replace BK442 := ka ((eO _ NB442_417.out).trans (by (with_reducible repeat (first | apply kb1 | apply kb2 | apply kb3)); with_reducible exact BK442.out)))); (try (replace BK443 := ka ((eO _ NB443_417.out).trans (by (with_reducible repeat (first | apply kb1 | apply kb2 | apply kb3)); with_reducible exact BK443.out)))); replace BK417 := ka eX; replace HB := ka (eB _ _ (kw HB.out) GE417.out); clear eX eO eB; (try have hz393 := blkAll15 BK393.out); (try have hz417 := blkAll15 BK417.out); (try have hz418 := blkAll6 BK418.out); (try have hz442 := blkAll15 BK442.out); (try have hz443 := blkAll6 BK443.out); (try have hy393 := NB393_417.out); (try have hx393 := NB417_393.out); (try have hy418 := NB418_417.out); (try have hx418 := NB417_418.out); (try have hy442 := NB442_417.out); (try have hx442 := NB417_442.out); (try have hy443 := NB443_417.out); (try have hx443 := NB417_443.out)) | (refine store_event (g := gb442) rfl rfl rfl rfl rfl (by (with_reducible repeat (first | apply kb1 | apply kb2 | apply kb3)); with_reducible exact BK442.out) (by kernel_rfl) (by rfl) (by rfl) ?_; intro w_442 eX eO eB; (try (replace BK393 := ka ((eO _ NB393_442.out).trans (by (with_reducible repeat (first | apply kb1 | apply kb2 | apply kb3)); with_reducible exact BK393.out)))); (try (replace BK417 := ka ((eO _ NB417_442.out).trans (by (with_reducible repeat (first | apply kb1 | apply kb2 | apply kb3)); with_reducible exact BK417.out)))); (try (replace BK418 := ka ((eO _ NB418_442.out).trans (by (with_reducible repeat (first | apply kb1 | apply kb2 | apply kb3)); with_reducible exact BK418.out)))); (try (replace BK443 := ka ((eO _ NB443_442.out).trans (by (with_reducible repeat (first | apply kb1 | apply kb2 | apply kb3)); with_reducible exact BK443.out)))); replace BK442 := ka eX; replace HB := ka (eB _ _ (kw HB.out) GE442.out); clear eX eO eB; (try have hz393 := blkAll15 BK393.out); (try have hz417 := blkAll15 BK417.out); (try have hz418 := blkAll6 BK418.out); (try have hz442 := blkAll15 BK442.out); (try have hz443 := blkAll6 BK443.out); (try have hy393 := NB393_442.out); (try have hx393 := NB442_393.out); (try have hy417 := NB417_442.out); (try have hx417 := NB442_417.out); (try have hy418 := NB418_442.out); (try have hx418 := NB442_418.out); (try have hy443 := NB443_442.out); (try have hx443 := NB442_443.out))))
        go_ret
        exact ⟨by first | rfl | (simp [errW_none, errW_some] <;> rfl) | (simp [*, errW_none, errW_some] <;> rfl), by repeat (first | (with_reducible first | exact HB.out | apply kc1 | apply kc2 | apply kc3 | refine kc4 ?_ GE393.out | refine kc4 ?_ GE417.out | refine kc4 ?_ GE418.out | refine kc4 ?_ GE442.out | refine kc4 ?_ GE443.out) | exact HB.out)⟩
       ·rw [if_neg c39] at H
        exact absurd H (by simp)
      ·have H1 : (none) = some r := by rw [if_neg (show ¬ (some q444).isNone = true by simp)] at H; exact H
       clear H
       have H := H1
       clear H1
       try simp only [errW_none, errW_some]
       exact absurd H (by simp)
     ·replace c38 := Bool.eq_false_iff.mpr c38
      subst c38
      have H1 : (none) = some r := by rw [if_neg (show ¬ (false = true) by decide)] at H; exact H
      clear H
      have H := H1
      clear H1
      exact absurd H (by simp)
   ·replace c28 := Bool.eq_false_iff.mpr c28
    subst c28
    have H1 : (if t394 = true then (if t416.isNone = true then (none) else (if (t416.getD 0) = 1 then (some x11_5) else (none))) else (none)) = some r := by rw [if_neg (show ¬ (false = true) by decide)] at H; exact H
    clear H
    have H := H1
    clear H1
    by_cases c60 : t394 = true
    ·subst c60
     have H1 : (if t416.isNone = true then (none) else (if (t416.getD 0) = 1 then (some x11_5) else (none))) = some r := by rw [if_pos rfl] at H; exact H
     clear H
     have H := H1
     clear H1
     rcases t416 with _ | q445
     ·have H1 : (none) = some r := by rw [if_pos (show (none : Option Int).isNone = true by rfl)] at H; exact H
      clear H
      have H := H1
      clear H1
      try simp only [errW_none, errW_some]
      exact absurd H (by simp)
     ·have H1 : (if q445 = 1 then (some x11_5) else (none)) = some r := by rw [if_neg (show ¬ (some q445).isNone = true by simp)] at H; exact H
      clear H
      have H := H1
      clear H1
      try simp only [errW_none, errW_some]
      by_cases c61 : q445 = 1
      ·rw [if_pos c61] at H
       have c61b0 : (q445 == 1) = true := beq_iff_eq.mpr c61
       have c61b1 : (q445 != 1) = false := bne_eq_false_iff_eq.mpr c61
       clear c61
       obtain rfl := Option.some.inj H
       have hnb62 := NB393_417.out
       have hnc62 := NB417_393.out
       have hnb63 := NB393_418.out
       have hnc63 := NB418_393.out
       have hcz64 := blkAll15 BK393.out
       go_wp2_with (first | ((with_reducible refine gate_callee (f := 12) rfl ?_); refine kg (some 35) rfl rfl Try.func12 (by kernel_rfl) rfl #[.agg #[.int .i64 a0_0, .int .i64 a0_1, .int .i64 a0_2, .int .i64 a0_3, .int .i64 a0_4, .int .i64 a0_5, .int .i64 a0_6, .int .i64 a0_7, .int .i64 a0_8, .int .i64 a0_9, .int .i64 a0_10, .int .i64 a0_11, .int .i64 a0_12, .int .i64 a0_13, .int .i64 a0_14], .int .i64 a1, .int .i64 a2] rfl ?_; (with_reducible refine (trivetref13_Asked_s.calls a0_0 a0_1 a0_2 a0_3 a0_4 a0_5 a0_6 a0_7 a0_8 a0_9 a0_10 a0_11 a0_12 a0_13 a0_14 a1 a2 false _ A27.out).mono ?_); rintro e w65 ⟨rfl, hb⟩; refine ⟨_, rfl, ?_⟩; have n0_ := ka (blk_below (g := gb393) (kz BK393.out) hb); have n1_ := ka (blk_below (g := gb417) (kz BK417.out) hb); have n2_ := ka (blk_below (g := gb418) (kz BK418.out) hb); have n3_ := ka (below_step (kw HB.out) hb); clear BK393; clear BK417; clear BK418; clear HB; have BK393 := n0_; have BK417 := n1_; have BK418 := n2_; have HB := n3_; clear n0_ n1_ n2_ n3_; (try clear hb); (try clear hb2); (try clear hk); (try clear hi)) | ((with_reducible refine gate_load (T := 25) rfl ?_); first | refine load_event (g := gb393) rfl rfl rfl Try.underlying25 rfl (by (with_reducible repeat (first | apply kb1 | apply kb2 | apply kb3)); with_reducible exact BK393.out) (by kernel_rfl) ?_ | refine load_event (g := gb417) rfl rfl rfl Try.underlying25 rfl (by (with_reducible repeat (first | apply kb1 | apply kb2 | apply kb3)); with_reducible exact BK417.out) (by kernel_rfl) ?_ | refine load_event (g := gb442) rfl rfl rfl Try.underlying25 rfl (by (with_reducible repeat (first | apply kb1 | apply kb2 | apply kb3)); with_reducible exact BK442.out) (by kernel_rfl) ?_) | ((with_reducible refine gate_store (T := 25) rfl ?_); first | (refine store_event (g := gb393) rfl rfl rfl rfl rfl (by (with_reducible repeat (first | apply kb1 | apply kb2 | apply kb3)); with_reducible exact BK393.out) (by kernel_rfl) (by rfl) (by rfl) ?_; intro w_393 eX eO eB; (try (replace BK417 := ka ((eO _ NB417_393.out).trans (by (with_reducible repeat (first | apply kb1 | apply kb2 | apply kb3)); with_reducible exact BK417.out)))); (try (replace BK418 := ka ((eO _ NB418_393.out).trans (by (with_reducible repeat (first | apply kb1 | apply kb2 | apply kb3)); with_reducible exact BK418.out)))); (try (replace BK442 := ka ((eO _ NB442_393.out).trans (by (with_reducible repeat (first | apply kb1 | apply kb2 | apply kb3)); with_reducible exact BK442.out)))); (try (replace BK443 := ka ((eO _ NB443_393.out).trans (by (with_reducible repeat (first | apply kb1 | apply kb2 | apply kb3)); with_reducible exact BK443.out)))); replace BK393 := ka eX; replace HB := ka (eB _ _ (kw HB.out) GE393.out); clear eX eO eB; (try have hz393 := blkAll15 BK393.out); (try have hz417 := blkAll15 BK417.out); (try have hz418 := blkAll6 BK418.out); (try have hz442 := blkAll15 BK442.out); (try have hz443 := blkAll6 BK443.out); (try have hy417 := NB417_393.out); (try have hx417 := NB393_417.out); (try have hy418 := NB418_393.out); (try have hx418 := NB393_418.out); (try have hy442 := NB442_393.out); (try have hx442 := NB393_442.out); (try have hy443 := NB443_393.out); (try have hx443 := NB393_443.out)) | (refine store_event (g := gb417) rfl rfl rfl rfl rfl (by (with_reducible repeat (first | apply kb1 | apply kb2 | apply kb3)); with_reducible exact BK417.out) (by kernel_rfl) (by rfl) (by rfl) ?_; intro w_417 eX eO eB; (try (replace BK393 := ka ((eO _ NB393_417.out).trans (by (with_reducible repeat (first | apply kb1 | apply kb2 | apply kb3)); with_reducible exact BK393.out)))); (try (replace BK418 := ka ((eO _ NB418_417.out).trans (by (with_reducible repeat (first | apply kb1 | apply kb2 | apply kb3)); with_reducible exact BK418.out)))); (try (replace BK442 := ka ((eO _ NB442_417.out).trans (by (with_reducible repeat (first | apply kb1 | apply kb2 | apply kb3)); with_reducible exact BK442.out)))); (try (replace BK443 := ka ((eO _ NB443_417.out).trans (by (with_reducible repeat (first | apply kb1 | apply kb2 | apply kb3)); with_reducible exact BK443.out)))); replace BK417 := ka eX; replace HB := ka (eB _ _ (kw HB.out) GE417.out); clear eX eO eB; (try have hz393 := blkAll15 BK393.out); (try have hz417 := blkAll15 BK417.out); (try have hz418 := blkAll6 BK418.out); (try have hz442 := blkAll15 BK442.out); (try have hz443 := blkAll6 BK443.out); (try have hy393 := NB393_417.out); (try have hx393 := NB417_393.out); (try have hy418 := NB418_417.out); (try have hx418 := NB417_418.out); (try have hy442 := NB442_417.out); (try have hx442 := NB417_442.out); (try have hy443 := NB443_417.out); (try have hx443 := NB417_443.out)) | (refine store_event (g := gb442) rfl rfl rfl rfl rfl (by (with_reducible repeat (first | apply kb1 | apply kb2 | apply kb3)); with_reducible exact BK442.out) (by kernel_rfl) (by rfl) (by rfl) ?_; intro w_442 eX eO eB; (try (replace BK393 := ka ((eO _ NB393_442.out).trans (by (with_reducible repeat (first | apply kb1 | apply kb2 | apply kb3)); with_reducible exact BK393.out)))); (try (replace BK417 := ka ((eO _ NB417_442.out).trans (by (with_reducible repeat (first | apply kb1 | apply kb2 | apply kb3)); with_reducible exact BK417.out)))); (try (replace BK418 := ka ((eO _ NB418_442.out).trans (by (with_reducible repeat (first | apply kb1 | apply kb2 | apply kb3)); with_reducible exact BK418.out)))); (try (replace BK443 := ka ((eO _ NB443_442.out).trans (by (with_reducible repeat (first | apply kb1 | apply kb2 | apply kb3)); with_reducible exact BK443.out)))); replace BK442 := ka eX; replace HB := ka (eB _ _ (kw HB.out) GE442.out); clear eX eO eB; (try have hz393 := blkAll15 BK393.out); (try have hz417 := blkAll15 BK417.out); (try have hz418 := blkAll6 BK418.out); (try have hz442 := blkAll15 BK442.out); (try have hz443 := blkAll6 BK443.out); (try have hy393 := NB393_442.out); (try have hx393 := NB442_393.out); (try have hy417 := NB417_442.out); (try have hx417 := NB442_417.out); (try have hy418 := NB418_442.out); (try have hx418 := NB442_418.out); (try have hy443 := NB443_442.out); (try have hx443 := NB442_443.out))))
       go_ret
       exact ⟨by first | rfl | (simp [errW_none, errW_some] <;> rfl) | (simp [*, errW_none, errW_some] <;> rfl), by repeat (first | (with_reducible first | exact HB.out | apply kc1 | apply kc2 | apply kc3 | refine kc4 ?_ GE393.out | refine kc4 ?_ GE417.out | refine kc4 ?_ GE418.out) | exact HB.out)⟩
      ·rw [if_neg c61] at H
       exact absurd H (by simp)
    ·replace c60 := Bool.eq_false_iff.mpr c60
     subst c60
     have H1 : (none) = some r := by rw [if_neg (show ¬ (false = true) by decide)] at H; exact H
     clear H
     have H := H1
     clear H1
     exact absurd H (by simp)

/-- THE ONE PURE STATEMENT of trivetlaw13_WaterPays: yours. -/
def trivetlaw13_WaterPays.Pure : Prop := ∀ (a0_0 : Int) (a0_1 : Int) (a0_2 : Int) (a0_3 : Int) (a0_4 : Int) (a0_5 : Int) (a0_6 : Int) (a0_7 : Int) (a0_8 : Int) (a0_9 : Int) (a0_10 : Int) (a0_11 : Int) (a0_12 : Int) (a0_13 : Int) (a0_14 : Int) (a1 : Int) (a2 : Int), (Lit.int .i64 a0_0).wf = true → (Lit.int .i64 a0_1).wf = true → (Lit.int .i64 a0_2).wf = true → (Lit.int .i64 a0_3).wf = true → (Lit.int .i64 a0_4).wf = true → (Lit.int .i64 a0_5).wf = true → (Lit.int .i64 a0_6).wf = true → (Lit.int .i64 a0_7).wf = true → (Lit.int .i64 a0_8).wf = true → (Lit.int .i64 a0_9).wf = true → (Lit.int .i64 a0_10).wf = true → (Lit.int .i64 a0_11).wf = true → (Lit.int .i64 a0_12).wf = true → (Lit.int .i64 a0_13).wf = true → (Lit.int .i64 a0_14).wf = true → (Lit.int .i64 a1).wf = true → (Lit.int .i64 a2).wf = true → ∃ k, trivetlaw13_WaterPays.f k a0_0 a0_1 a0_2 a0_3 a0_4 a0_5 a0_6 a0_7 a0_8 a0_9 a0_10 a0_11 a0_12 a0_13 a0_14 a1 a2 = some true
theorem trivetlaw13_WaterPays.walk (P : trivetlaw13_WaterPays.Pure) (a0_0 : Int) (a0_1 : Int) (a0_2 : Int) (a0_3 : Int) (a0_4 : Int) (a0_5 : Int) (a0_6 : Int) (a0_7 : Int) (a0_8 : Int) (a0_9 : Int) (a0_10 : Int) (a0_11 : Int) (a0_12 : Int) (a0_13 : Int) (a0_14 : Int) (a1 : Int) (a2 : Int) (w : World) (w0_0 : (Lit.int .i64 a0_0).wf = true) (w0_1 : (Lit.int .i64 a0_1).wf = true) (w0_2 : (Lit.int .i64 a0_2).wf = true) (w0_3 : (Lit.int .i64 a0_3).wf = true) (w0_4 : (Lit.int .i64 a0_4).wf = true) (w0_5 : (Lit.int .i64 a0_5).wf = true) (w0_6 : (Lit.int .i64 a0_6).wf = true) (w0_7 : (Lit.int .i64 a0_7).wf = true) (w0_8 : (Lit.int .i64 a0_8).wf = true) (w0_9 : (Lit.int .i64 a0_9).wf = true) (w0_10 : (Lit.int .i64 a0_10).wf = true) (w0_11 : (Lit.int .i64 a0_11).wf = true) (w0_12 : (Lit.int .i64 a0_12).wf = true) (w0_13 : (Lit.int .i64 a0_13).wf = true) (w0_14 : (Lit.int .i64 a0_14).wf = true) (w1 : (Lit.int .i64 a1).wf = true) (w2 : (Lit.int .i64 a2).wf = true) :
  Calls Try.prog 3 #[.agg #[.int .i64 a0_0, .int .i64 a0_1, .int .i64 a0_2, .int .i64 a0_3, .int .i64 a0_4, .int .i64 a0_5, .int .i64 a0_6, .int .i64 a0_7, .int .i64 a0_8, .int .i64 a0_9, .int .i64 a0_10, .int .i64 a0_11, .int .i64 a0_12, .int .i64 a0_13, .int .i64 a0_14], .int .i64 a1, .int .i64 a2] w fun e w' => e = .returned (.bool true) ∧ Below w.heap.size w w' := by
 obtain ⟨k, h⟩ := P a0_0 a0_1 a0_2 a0_3 a0_4 a0_5 a0_6 a0_7 a0_8 a0_9 a0_10 a0_11 a0_12 a0_13 a0_14 a1 a2 w0_0 w0_1 w0_2 w0_3 w0_4 w0_5 w0_6 w0_7 w0_8 w0_9 w0_10 w0_11 w0_12 w0_13 w0_14 w1 w2
 refine (trivetlaw13_WaterPays.calls k a0_0 a0_1 a0_2 a0_3 a0_4 a0_5 a0_6 a0_7 a0_8 a0_9 a0_10 a0_11 a0_12 a0_13 a0_14 a1 a2 true w h).mono ?_
 rintro e w' ⟨rfl, hd⟩
 exact ⟨rfl, hd⟩

end Go.Proofs.Ytimobafoidplaaa.P
