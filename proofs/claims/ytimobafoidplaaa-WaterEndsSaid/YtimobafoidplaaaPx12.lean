-- Written by a program of this session out of the translation of the seat: Lean functions and the proofs that the Go functions come to them.
import Derived.Test.YtimobafoidplaaaPx0
import Derived.Test.YtimobafoidplaaaPx5
import Derived.Test.YtimobafoidplaaaPx7
import Derived.Test.YtimobafoidplaaaPx10
import Derived.Test.YtimobafoidplaaaPx11
namespace Go.Proofs.Ytimobafoidplaaa.P
open Go.RowKit Go.Proofs.YtimobafoidplaaaW.PrintWords Go.Proofs.YtimobafoidplaaaW.PrintLast Go.Proofs.YtimobafoidplaaaW.PrintMore
attribute [local go_sem] max2_int min2_int max_two min_two max_three min_three max_four min_four   -- for this text's walks alone
set_option linter.unusedVariables false
set_option linter.unusedSimpArgs false

/-! ### water_Pay_s: function 11, told plainly -/
def water_Pay_s.out (b r m f e i w fe g lvl late day : Int) (z : M.St) : Int × Int × Int × Int × Int × Int × Int × Int × Int × Int × Int × Int × Int × Int × Int × Int × Int × Int × Int × Int × Int × Option Int := (b, r, m, f, e, i, w, fe, g, z.bal, lvl, z.du, z.cnt, z.sus - M.lateOf z late day, late - M.lateOf z late day, z.n, z.i, z.p, z.x, M.lateOf z late day, z.sus - M.lateOf z late day, none)
def water_Pay_s.inv (r : Int) (s : M.St) : Prop := M.ok r s ∧ 0 ≤ s.n ∧ s.n + (480 - s.cnt) ≤ 1000 ∧ 0 ≤ s.i ∧ 0 ≤ s.p ∧ 0 ≤ s.x ∧ s.i + s.p + s.x + s.sus ≤ 10000000000000
theorem water_Pay.fin (b r m f e i w fe g lvl late day : Int) (s : M.St) (h : M.ok r s) (hl : M.cent late) (K : Nat) : water_Pay.l0 (K + 2) day false b r m f e i w fe g s.bal lvl s.du s.cnt s.sus late s.n s.i s.p s.x 0 0 = some (water_Pay_s.out b r m f e i w fe g lvl late day s) := by
 have q : mn late s.sus = M.least late s.sus := by
  unfold mn M.least
  repeat' split
  all_goals omega
 obtain ⟨h1, h2, h3, h4, h5, h6⟩ := h
 have l0 := hl.1
 have l1 := hl.2
 have lb : 0 ≤ M.least late s.sus ∧ M.least late s.sus ≤ late ∧ M.least late s.sus ≤ s.sus := by unfold M.least; split <;> omega
 simp only [water_Pay.l0, Bool.false_eq_true, if_false]
 rw [q, M.w64_id (n := s.sus - M.least late s.sus) (by omega) (by omega), M.w64_id (n := late - M.least late s.sus) (by omega) (by omega)]
 unfold water_Pay_s.out M.lateOf
 by_cases c1 : s.bal = 0
 ·rw [if_pos c1, if_pos (show M.cur s.bal s.du day from .inl c1)]
 ·rw [if_neg c1]
  by_cases c2 : s.du > day
  ·rw [if_pos c2, if_pos (show M.cur s.bal s.du day from .inr c2)]
   simp only [water_Pay.j1]
  ·rw [if_neg c2, if_neg (show ¬ M.cur s.bal s.du day from fun hh => hh.elim c1 c2), Int.sub_zero, Int.sub_zero]
   simp only [water_Pay.j1]
theorem water_Pay.loop (b r m f e i w fe g lvl late day : Int) (hl : M.cent late) (hv : 0 ≤ lvl ∧ lvl ≤ 20000000000000 ∧ M.cent e) : ∀ (j : Nat) (s : M.St) (k : Nat), water_Pay_s.inv r s → (480 - s.cnt).toNat ≤ j → water_Pay.l0 (k + j + 3) day true b r m f e i w fe g s.bal lvl s.du s.cnt s.sus late s.n s.i s.p s.x 0 0 = some (water_Pay_s.out b r m f e i w fe g lvl late day (M.pay r lvl e day j s))
 | j, s, k, hs, hj => by
  have he := hv.2.2.1
  obtain ⟨h1, h2, h3, h4, h5, h6, h7⟩ := hs
  have h1' := h1
  obtain ⟨o1, o2, o3, o4, o5, o6⟩ := h1'
  have one := water_one_s.at_ (b := b) (r := r) (m := m) (f := f) (e := e) (i := i) (w := w) (fe := fe) (g := g) (bal := s.bal) (lvl := lvl) (du := s.du) (cnt := s.cnt) (sus := s.sus) (late := late) (day := day) (n1 := s.n) (i1 := s.i) (p1 := s.p) (x1 := s.x) (t1 := 0) (f1 := 0) ⟨⟨h1, hv.1, hv.2.1, hv.2.2⟩, ⟨by omega, by omega⟩, ⟨by omega, by omega⟩, ⟨by omega, by omega⟩, by omega, by omega⟩
  by_cases ht : M.takes r lvl e day s.bal s.du s.cnt s.sus
  ·have c := ht.2.2.1
   obtain ⟨j, rfl⟩ : ∃ z, j = z + 1 := ⟨j - 1, by omega⟩
   have mo := M.month_nonneg o1
   have pb := (M.prin_bd (lvl := lvl) o1).1
   have ih := water_Pay.loop b r m f e i w fe g lvl late day hl hv j (M.step r lvl e s) k ⟨M.step_ok he h1 ht, by simp only [M.step]; omega, by simp only [M.step]; omega, by simp only [M.step]; omega, by simp only [M.step]; omega, by simp only [M.step]; omega, by simp only [M.step, M.all]; omega⟩ (by simp only [M.step]; omega)
   rw [M.pay_succ j ht, ← ih]
   rw [if_pos ht] at one
   obtain ⟨K, hK⟩ : ∃ K, K = k + j + 3 := ⟨_, rfl⟩
   rw [← hK, show k + (j + 1) + 3 = K + 1 by omega]
   simp only [water_Pay.l0]
   rw [if_pos trivial, one, Option.bind_some]
   rfl
  ·rw [M.pay_stop ht, ← water_Pay.fin b r m f e i w fe g lvl late day s h1 hl (k + j)]
   rw [if_neg ht] at one
   obtain ⟨K, hK⟩ : ∃ K, K = k + j + 2 := ⟨_, rfl⟩
   rw [← hK, show k + j + 3 = K + 1 by omega]
   rw [show water_Pay.l0 (K + 1) day true b r m f e i w fe g s.bal lvl s.du s.cnt s.sus late s.n s.i s.p s.x 0 0 = (water_one_s.f b r m f e i w fe g s.bal lvl s.du s.cnt s.sus late day s.n s.i s.p s.x 0 0).bind _ from rfl, one, Option.bind_some]
theorem water_Pay.tells (b r m f e i w fe g bal lvl du cnt sus late day a : Int) (h : (M.In r ∧ M.In f ∧ M.In fe ∧ M.In du) ∧ M.In day) (k : Nat) (hk : 483 ≤ k) : water_Pay.f k b r m f e i w fe g bal lvl du cnt sus late day a = some (if M.askOk b r m f e i w fe g bal lvl du cnt sus late day a then (if sus + a > 10000000000000 then (0, 0, 0, 0, 0, 0, 0, 0, 0, 0, 0, 0, 0, 0, 0, 0, 0, 0, 0, 0, 0, some 3) else water_Pay_s.out b r m f e i w fe g lvl late day (M.pay r lvl e day 480 ⟨bal, du, cnt, sus + a, 0, 0, 0, 0⟩)) else (0, 0, 0, 0, 0, 0, 0, 0, 0, 0, 0, 0, 0, 0, 0, 0, 0, 0, 0, 0, 0, some 1)) := by
 unfold water_Pay.f
 rw [water_may_s.at_ ⟨h.1.1, h.1.2.1, h.1.2.2.1, h.1.2.2.2, h.2⟩, Option.bind_some]
 by_cases ha : M.askOk b r m f e i w fe g bal lvl du cnt sus late day a
 ·have hL := ha.1
  obtain ⟨t1, t2, t3, t4, t5, t6, t7, t8, t9⟩ := hL
  obtain ⟨hm, hb1, _⟩ := M.terms_may t1
  have mo := t1.2.1
  unfold M.moneyOk at mo
  have b0 := t3.1
  have b1 := t3.2
  have s0 := t8.1
  have s1 := t8.2
  have a0 := ha.2.2.1
  have a1 := ha.2.2.2
  have hr := hm.2.2
  rw [if_pos (decide_eq_true ha), if_pos ha, M.w64_id (n := sus + a) (by omega) (by omega)]
  by_cases c : sus + a > 10000000000000
  ·rw [if_pos c, if_pos c]
  ·rw [if_neg c, if_neg c]
   obtain ⟨z, rfl⟩ : ∃ z, k = z + 480 + 3 := ⟨k - 483, by omega⟩
   exact water_Pay.loop b r m f e i w fe g lvl late day t9 ⟨by omega, t5, by omega, by omega⟩ 480 ⟨bal, du, cnt, sus + a, 0, 0, 0, 0⟩ z ⟨⟨⟨b0, b1, hr⟩, t2, t6, t7, by simp only []; omega, by simp only []; omega⟩, by simp only []; omega, by simp only []; omega, by simp only []; omega, by simp only []; omega, by simp only []; omega, by simp only []; omega⟩ (by simp only []; omega)
 ·rw [if_neg (by simpa using ha), if_neg ha]
def water_Pay_s.f (b r m f e i w fe g bal lvl du cnt sus late day a : Int) : Option (Int × Int × Int × Int × Int × Int × Int × Int × Int × Int × Int × Int × Int × Int × Int × Int × Int × Int × Int × Int × Int × Option Int) := if (M.In r ∧ M.In f ∧ M.In fe ∧ M.In du) ∧ M.In day then some (if M.askOk b r m f e i w fe g bal lvl du cnt sus late day a then (if sus + a > 10000000000000 then (0, 0, 0, 0, 0, 0, 0, 0, 0, 0, 0, 0, 0, 0, 0, 0, 0, 0, 0, 0, 0, some 3) else water_Pay_s.out b r m f e i w fe g lvl late day (M.pay r lvl e day 480 ⟨bal, du, cnt, sus + a, 0, 0, 0, 0⟩)) else (0, 0, 0, 0, 0, 0, 0, 0, 0, 0, 0, 0, 0, 0, 0, 0, 0, 0, 0, 0, 0, some 1)) else none
theorem water_Pay_s.calls (a0_0 : Int) (a0_1 : Int) (a0_2 : Int) (a0_3 : Int) (a0_4 : Int) (a0_5 : Int) (a0_6 : Int) (a0_7 : Int) (a0_8 : Int) (a0_9 : Int) (a0_10 : Int) (a0_11 : Int) (a0_12 : Int) (a0_13 : Int) (a0_14 : Int) (a1 : Int) (a2 : Int) (r1 : Int) (r2 : Int) (r3 : Int) (r4 : Int) (r5 : Int) (r6 : Int) (r7 : Int) (r8 : Int) (r9 : Int) (r10 : Int) (r11 : Int) (r12 : Int) (r13 : Int) (r14 : Int) (r15 : Int) (r16 : Int) (r17 : Int) (r18 : Int) (r19 : Int) (r20 : Int) (r21 : Int) (r22 : Option Int) (w : World) (h : water_Pay_s.f a0_0 a0_1 a0_2 a0_3 a0_4 a0_5 a0_6 a0_7 a0_8 a0_9 a0_10 a0_11 a0_12 a0_13 a0_14 a1 a2 = some (r1, r2, r3, r4, r5, r6, r7, r8, r9, r10, r11, r12, r13, r14, r15, r16, r17, r18, r19, r20, r21, r22)) :
  Calls Try.prog 11 #[.agg #[.int .i64 a0_0, .int .i64 a0_1, .int .i64 a0_2, .int .i64 a0_3, .int .i64 a0_4, .int .i64 a0_5, .int .i64 a0_6, .int .i64 a0_7, .int .i64 a0_8, .int .i64 a0_9, .int .i64 a0_10, .int .i64 a0_11, .int .i64 a0_12, .int .i64 a0_13, .int .i64 a0_14], .int .i64 a1, .int .i64 a2] w fun e w' => e = .returned (.tuple #[.agg #[.int .i64 r1, .int .i64 r2, .int .i64 r3, .int .i64 r4, .int .i64 r5, .int .i64 r6, .int .i64 r7, .int .i64 r8, .int .i64 r9, .int .i64 r10, .int .i64 r11, .int .i64 r12, .int .i64 r13, .int .i64 r14, .int .i64 r15], .agg #[.int .i64 r16, .int .i64 r17, .int .i64 r18, .int .i64 r19, .int .i64 r20, .int .i64 r21], errW r22]) ∧ Below w.heap.size w w' := by
 unfold water_Pay_s.f at h
 split at h
 ·rename_i hr
  exact water_Pay.calls (483) a0_0 a0_1 a0_2 a0_3 a0_4 a0_5 a0_6 a0_7 a0_8 a0_9 a0_10 a0_11 a0_12 a0_13 a0_14 a1 a2 r1 r2 r3 r4 r5 r6 r7 r8 r9 r10 r11 r12 r13 r14 r15 r16 r17 r18 r19 r20 r21 r22 w ((water_Pay.tells a0_0 a0_1 a0_2 a0_3 a0_4 a0_5 a0_6 a0_7 a0_8 a0_9 a0_10 a0_11 a0_12 a0_13 a0_14 a1 a2 hr (483) (Nat.le_refl _)).trans h)
 ·cases h
theorem water_Pay_s.at_ {b r m f e i w fe g bal lvl du cnt sus late day a : Int} (h : (M.In r ∧ M.In f ∧ M.In fe ∧ M.In du) ∧ M.In day) : water_Pay_s.f b r m f e i w fe g bal lvl du cnt sus late day a = some (if M.askOk b r m f e i w fe g bal lvl du cnt sus late day a then (if sus + a > 10000000000000 then (0, 0, 0, 0, 0, 0, 0, 0, 0, 0, 0, 0, 0, 0, 0, 0, 0, 0, 0, 0, 0, some 3) else water_Pay_s.out b r m f e i w fe g lvl late day (M.pay r lvl e day 480 ⟨bal, du, cnt, sus + a, 0, 0, 0, 0⟩)) else (0, 0, 0, 0, 0, 0, 0, 0, 0, 0, 0, 0, 0, 0, 0, 0, 0, 0, 0, 0, 0, some 1)) := by unfold water_Pay_s.f; rw [if_pos h]

/-! ### trivetlaw13_plain: function 20 -/
def trivetlaw13_plain.f  : Option (Int × Int × Int × Int × Int × Int × Int × Int × Int × Int × Int × Int × Int × Int × Int) := some (1200, 0, 12, 18262, 0, 1, 1, 0, 0, 1200, 100, 18262, 0, 0, 0)
set_option maxHeartbeats 8000000 in
set_option maxRecDepth 100000 in
theorem trivetlaw13_plain.calls  (r1 : Int) (r2 : Int) (r3 : Int) (r4 : Int) (r5 : Int) (r6 : Int) (r7 : Int) (r8 : Int) (r9 : Int) (r10 : Int) (r11 : Int) (r12 : Int) (r13 : Int) (r14 : Int) (r15 : Int) (w : World) (h : trivetlaw13_plain.f  = some (r1, r2, r3, r4, r5, r6, r7, r8, r9, r10, r11, r12, r13, r14, r15)) :
  Calls Try.prog 20 #[] w fun e w' => e = .returned (.agg #[.int .i64 r1, .int .i64 r2, .int .i64 r3, .int .i64 r4, .int .i64 r5, .int .i64 r6, .int .i64 r7, .int .i64 r8, .int .i64 r9, .int .i64 r10, .int .i64 r11, .int .i64 r12, .int .i64 r13, .int .i64 r14, .int .i64 r15]) ∧ Below w.heap.size w w' := by
 have hu25 := Try.underlying25
 have hu23 := Try.underlying23
 have HB := ka (Below.refl w.heap.size w)
 have H : (some (1200, 0, 12, 18262, 0, 1, 1, 0, 0, 1200, 100, 18262, 0, 0, 0)) = some (r1, r2, r3, r4, r5, r6, r7, r8, r9, r10, r11, r12, r13, r14, r15) := h
 clear h
 simp only [Option.some.injEq, Prod.mk.injEq] at H
 obtain ⟨rfl, rfl, rfl, rfl, rfl, rfl, rfl, rfl, rfl, rfl, rfl, rfl, rfl, rfl, rfl⟩ := H
 go_enter Try.func20, Try.ntmps20
 go_wp2_with (first | ((with_reducible refine gate_dst (N := 0) rfl ?_); refine kx (N := 0) (cs := #[.int .i64 0, .int .i64 0, .int .i64 0, .int .i64 0, .int .i64 0, .int .i64 0, .int .i64 0, .int .i64 0, .int .i64 0, .int .i64 0, .int .i64 0, .int .i64 0, .int .i64 0, .int .i64 0, .int .i64 0]) (t := 25) ?_; intro gb236 hg w1 hbox hb; have n0_ := ka (below_step (kw HB.out) hb); have n1_ := ka (hbox); have n2_ := ka ((by rw [hg]; exact (below_size (kw HB.out)) : w.heap.size ≤ gb236)); have n3_ := n2_; clear HB; have HB := n0_; have BK236 := n1_; have GW236 := n2_; have GE236 := n3_; clear n0_ n1_ n2_ n3_; clear hb hbox hg) | ((with_reducible refine gate_dst (N := 1) rfl ?_); refine kx (N := 1) (cs := #[.int .i64 0, .int .i64 0, .int .i64 0, .int .i64 0, .int .i64 0, .int .i64 0, .int .i64 0, .int .i64 0, .int .i64 0]) (t := 23) ?_; intro gb237 hg w2 hbox hb; have n0_ := ka (blk_below (g := gb236) (kz BK236.out) hb); have n1_ := ka (below_step (kw HB.out) hb); have n2_ := ka (hbox); have n3_ := ka ((by rw [hg]; exact (below_size (kw HB.out)) : w.heap.size ≤ gb237)); have n4_ := n3_; have n5_ := ka ((by rw [hg]; exact Nat.ne_of_lt (blk_lt (g := gb236) (kz BK236.out)) : gb236 ≠ gb237)); have n6_ := ka n5_.out.symm; clear BK236; clear HB; have BK236 := n0_; have HB := n1_; have BK237 := n2_; have GW237 := n3_; have GE237 := n4_; have NB236_237 := n5_; have NB237_236 := n6_; clear n0_ n1_ n2_ n3_ n4_ n5_ n6_; clear hb hbox hg; have hnb3 := NB237_236.out; have hnc3 := NB236_237.out; have hcz4 := blkAll9 BK237.out; have hcz5 := blkAll15 BK236.out) | ((with_reducible refine gate_load (T := 23) rfl ?_); first | refine load_event (g := gb237) rfl rfl rfl Try.underlying23 rfl (by (with_reducible repeat (first | apply kb1 | apply kb2 | apply kb3)); with_reducible exact BK237.out) (by kernel_rfl) ?_) | ((with_reducible refine gate_store (T := 23) rfl ?_); first | (refine store_event (g := gb237) rfl rfl rfl rfl rfl (by (with_reducible repeat (first | apply kb1 | apply kb2 | apply kb3)); with_reducible exact BK237.out) (by kernel_rfl) (by rfl) (by rfl) ?_; intro w_237 eX eO eB; (try (replace BK236 := ka ((eO _ NB236_237.out).trans (by (with_reducible repeat (first | apply kb1 | apply kb2 | apply kb3)); with_reducible exact BK236.out)))); replace BK237 := ka eX; replace HB := ka (eB _ _ (kw HB.out) GE237.out); clear eX eO eB; (try have hz236 := blkAll15 BK236.out); (try have hz237 := blkAll9 BK237.out); (try have hy236 := NB236_237.out); (try have hx236 := NB237_236.out))) | ((with_reducible refine gate_store (T := 25) rfl ?_); first | (refine store_event (g := gb236) rfl rfl rfl rfl rfl (by (with_reducible repeat (first | apply kb1 | apply kb2 | apply kb3)); with_reducible exact BK236.out) (by kernel_rfl) (by rfl) (by rfl) ?_; intro w_236 eX eO eB; (try (replace BK237 := ka ((eO _ NB237_236.out).trans (by (with_reducible repeat (first | apply kb1 | apply kb2 | apply kb3)); with_reducible exact BK237.out)))); replace BK236 := ka eX; replace HB := ka (eB _ _ (kw HB.out) GE236.out); clear eX eO eB; (try have hz236 := blkAll15 BK236.out); (try have hz237 := blkAll9 BK237.out); (try have hy237 := NB237_236.out); (try have hx237 := NB236_237.out))))
 refine bodyPost_ret (results_cell_row rfl _ _ gb236 25 #[.int .i64 1200, .int .i64 0, .int .i64 12, .int .i64 18262, .int .i64 0, .int .i64 1, .int .i64 1, .int .i64 0, .int .i64 0, .int .i64 1200, .int .i64 100, .int .i64 18262, .int .i64 0, .int .i64 0, .int .i64 0] (0, 0) _ rfl (by (with_reducible repeat (first | apply kb1 | apply kb2 | apply kb3 | apply blkPut15_14 | apply blkPut15_13 | apply blkPut15_12 | apply blkPut15_11 | apply blkPut15_10 | apply blkPut15_9 | apply blkPut15_8 | apply blkPut15_7 | apply blkPut15_6 | apply blkPut15_5 | apply blkPut15_4 | apply blkPut15_3 | apply blkPut15_2 | apply blkPut15_1 | apply blkPut15_0 | refine kb4 ?_ NB236_237.out _)); exact BK236.out) Try.underlying25 rfl (by kernel_rfl)) rfl ?_
 exact ⟨by first | rfl | (simp [errW_none, errW_some] <;> rfl) | (simp [*, errW_none, errW_some] <;> rfl), by repeat (first | (with_reducible first | exact HB.out | apply kc1 | apply kc2 | apply kc3 | refine kc4 ?_ GE236.out | refine kc4 ?_ GE237.out) | exact HB.out)⟩

/-! ### rate_Next: function 62 -/
def rate_Next.j0 : Nat → Int → Int → Int → Bool → Option (Int × Int × Option Int)
 | 0, _, _, _, _ => none
 | k + 1, x0, x1, x2, x19 => if x19 = true then (some (0, 0, some 1)) else ((rate_Month_s.f x0 x1).bind fun bt239 => (if bt239.2.isNone = true then (if (wrap64 ((wrap64 (x0 + bt239.1)) - (mn x2 (wrap64 (x0 + bt239.1))))) > 10000000000000 then (some (0, 0, some 3)) else (some (wrap64 ((wrap64 (x0 + bt239.1)) - (mn x2 (wrap64 (x0 + bt239.1)))), bt239.1, none))) else (some (0, 0, some (bt239.2.getD 0)))))
def rate_Next.f (k : Nat) (a0 : Int) (a1 : Int) (a2 : Int) : Option (Int × Int × Option Int) := (rate_may.f a0 a1).bind fun t238 => (if t238 = true then (rate_Next.j0 k a0 a1 a2 (decide (a2 < 0))) else (rate_Next.j0 k a0 a1 a2 true))
theorem rate_Next.mono_l : ∀ k, (∀ y0 y1 y2 y3, LeO (rate_Next.j0 k y0 y1 y2 y3) (rate_Next.j0 (k + 1) y0 y1 y2 y3))
 | 0 => fun _ _ _ _ r h => by simp [rate_Next.j0] at h
 | k + 1 => by
  have ih0 := rate_Next.mono_l k
  ·intro y0 y1 y2 y3
   unfold rate_Next.j0
   repeat' first
   | (with_reducible exact ih0 _ _ _ _)
   | (with_reducible exact LeO.refl _)
   | (with_reducible exact LeO.none _)
   | (with_reducible refine LeO.ite ?_ ?_)
   | (with_reducible refine LeO.bind ?_ (fun _ => ?_))
   | exact ih0 _ _ _ _
   | exact LeO.none _
   | refine LeO.ite ?_ ?_
   | refine LeO.bind ?_ (fun _ => ?_)
theorem rate_Next.mono : ∀ a0 a1 a2 k, LeO (rate_Next.f k a0 a1 a2) (rate_Next.f (k + 1) a0 a1 a2) := by
 intro a0 a1 a2 k
 have ih0 := rate_Next.mono_l k
 unfold rate_Next.f
 repeat' first
   | (with_reducible exact ih0 _ _ _ _)
   | (with_reducible exact LeO.refl _)
   | (with_reducible exact LeO.none _)
   | (with_reducible refine LeO.ite ?_ ?_)
   | (with_reducible refine LeO.bind ?_ (fun _ => ?_))
   | exact ih0 _ _ _ _
   | exact LeO.none _
   | refine LeO.ite ?_ ?_
   | refine LeO.bind ?_ (fun _ => ?_)
set_option maxHeartbeats 8000000 in
set_option maxRecDepth 100000 in
theorem rate_Next.calls (k : Nat) (a0 : Int) (a1 : Int) (a2 : Int) (r1 : Int) (r2 : Int) (r3 : Option Int) (w : World) (h : rate_Next.f k a0 a1 a2 = some (r1, r2, r3)) :
  Calls Try.prog 62 #[.int .i64 a0, .int .i64 a1, .int .i64 a2] w fun e w' => e = .returned (.tuple #[.int .i64 r1, .int .i64 r2, errW r3]) ∧ Below w.heap.size w w' := by
 have hu30 := Try.underlying30
 have hu34 := Try.underlying34
 have HB := ka (Below.refl w.heap.size w)
 have H : ((rate_may.f a0 a1).bind fun t238 => (if t238 = true then (rate_Next.j0 k a0 a1 a2 (decide (a2 < 0))) else (rate_Next.j0 k a0 a1 a2 true))) = some (r1, r2, r3) := h
 clear h
 have HC4 := ka H
 clear H
 go_enter Try.func62, Try.ntmps62
 go_upto_region 1 with (fail)
 go_cut [19] (fun v19 wc => ∃ (kq : Nat) (x19_3 : Bool), v19 = .bool x19_3 ∧ Aside0 (rate_Next.j0 kq a0 a1 a2 x19_3 = some (r1, r2, r3)) ∧ Aside0 (kq ≤ k) ∧ Aside0 (Below w.heap.size w wc))
 case first =>
  have H := HC4.out
  clear HC4
  replace H := Option.bind_eq_some_iff.mp H
  obtain ⟨t238, A50, H⟩ := H
  replace H : (if t238 = true then (rate_Next.j0 k a0 a1 a2 (decide (a2 < 0))) else (rate_Next.j0 k a0 a1 a2 true)) = some (r1, r2, r3) := H
  have A5 := ka A50
  clear A50
  by_cases c6 : t238 = true
  ·subst c6
   have H1 : (rate_Next.j0 k a0 a1 a2 (decide (a2 < 0))) = some (r1, r2, r3) := by rw [if_pos rfl] at H; exact H
   clear H
   have H := H1
   clear H1
   have H' := ka H
   clear H
   go_wp2_with (first | ((with_reducible refine gate_callee (f := 42) rfl ?_); refine kg (some 14) rfl rfl Try.func42 (by kernel_rfl) rfl #[.int .i64 a0, .int .i64 a1] rfl ?_; (with_reducible refine (rate_may.calls a0 a1 true _ A5.out).mono ?_); rintro e w' ⟨rfl, ⟨nd, rfl⟩⟩; refine ⟨_, rfl, ?_⟩))
   go_meet
   case rel => exact ⟨_, (decide (a2 < 0)), (by first | rfl | (simp; done) | (simp [*]; done)), H', ⟨by first | omega | exact Nat.le_refl _⟩, ⟨by repeat (first | (with_reducible first | exact HB.out | apply kc1 | apply kc2 | apply kc3) | exact HB.out)⟩⟩
  ·replace c6 := Bool.eq_false_iff.mpr c6
   subst c6
   have H1 : (rate_Next.j0 k a0 a1 a2 true) = some (r1, r2, r3) := by rw [if_neg (show ¬ (false = true) by decide)] at H; exact H
   clear H
   have H := H1
   clear H1
   have H' := ka H
   clear H
   go_wp2_with (first | ((with_reducible refine gate_callee (f := 42) rfl ?_); refine kg (some 14) rfl rfl Try.func42 (by kernel_rfl) rfl #[.int .i64 a0, .int .i64 a1] rfl ?_; (with_reducible refine (rate_may.calls a0 a1 false _ A5.out).mono ?_); rintro e w' ⟨rfl, ⟨nd, rfl⟩⟩; refine ⟨_, rfl, ?_⟩))
   go_meet
   case rel => exact ⟨_, (true), (by first | rfl | (simp; done) | (simp [*]; done)), H', ⟨by first | omega | exact Nat.le_refl _⟩, ⟨by repeat (first | (with_reducible first | exact HB.out | apply kc1 | apply kc2 | apply kc3) | exact HB.out)⟩⟩
 case rest =>
  clear HC4
  try clear p2
  try clear c4
  try clear c6
  obtain ⟨kq, x19_3, rfl, HA, HJ3, HB⟩ := hcut
  cases kq with
  | zero => exact absurd HA.out (by simp [rate_Next.j0])
  | succ kj3 =>
   have H := HA.out
   clear HA
   simp only [rate_Next.j0] at H
   by_cases c7 : x19_3 = true
   ·subst c7
    have H1 : (some (0, 0, some 1)) = some (r1, r2, r3) := by rw [if_pos rfl] at H; exact H
    clear H
    have H := H1
    clear H1
    simp only [Option.some.injEq, Prod.mk.injEq] at H
    obtain ⟨rfl, rfl, rfl⟩ := H
    go_wp2
    go_ret3
    exact ⟨by first | rfl | (simp [errW_none, errW_some] <;> rfl) | (simp [*, errW_none, errW_some] <;> rfl), by repeat (first | (with_reducible first | exact HB.out | apply kc1 | apply kc2 | apply kc3) | exact HB.out)⟩
   ·replace c7 := Bool.eq_false_iff.mpr c7
    subst c7
    have H1 : ((rate_Month_s.f a0 a1).bind fun bt239 => (if bt239.2.isNone = true then (if (wrap64 ((wrap64 (a0 + bt239.1)) - (mn a2 (wrap64 (a0 + bt239.1))))) > 10000000000000 then (some (0, 0, some 3)) else (some (wrap64 ((wrap64 (a0 + bt239.1)) - (mn a2 (wrap64 (a0 + bt239.1)))), bt239.1, none))) else (some (0, 0, some (bt239.2.getD 0))))) = some (r1, r2, r3) := by rw [if_neg (show ¬ (false = true) by decide)] at H; exact H
    clear H
    have H := H1
    clear H1
    replace H := Option.bind_eq_some_iff.mp H
    obtain ⟨⟨t239, t240⟩, A80, H⟩ := H
    replace H : (if t240.isNone = true then (if (wrap64 ((wrap64 (a0 + t239)) - (mn a2 (wrap64 (a0 + t239))))) > 10000000000000 then (some (0, 0, some 3)) else (some (wrap64 ((wrap64 (a0 + t239)) - (mn a2 (wrap64 (a0 + t239)))), t239, none))) else (some (0, 0, some (t240.getD 0)))) = some (r1, r2, r3) := H
    have A8 := ka A80
    clear A80
    rcases t240 with _ | q241
    ·have H1 : (if (wrap64 ((wrap64 (a0 + t239)) - (mn a2 (wrap64 (a0 + t239))))) > 10000000000000 then (some (0, 0, some 3)) else (some (wrap64 ((wrap64 (a0 + t239)) - (mn a2 (wrap64 (a0 + t239)))), t239, none))) = some (r1, r2, r3) := by rw [if_pos (show (none : Option Int).isNone = true by rfl)] at H; exact H
     clear H
     have H := H1
     clear H1
     try simp only [errW_none, errW_some]
     obtain ⟨ji9, hji9⟩ : ∃ j_ : Int, (mn a2 (wrap64 (a0 + t239))) = j_ := ⟨_, rfl⟩
     replace H : (if (wrap64 ((wrap64 (a0 + t239)) - (ji9))) > 10000000000000 then (some (0, 0, some 3)) else (some (wrap64 ((wrap64 (a0 + t239)) - (ji9)), t239, none))) = some (r1, r2, r3) := by first | (rw [hji9] at H; exact H) | (simp only [hji9] at H ⊢; exact H)
     (try rw [hji9] at A8)
     have hji9_ : (if (wrap64 (a0 + t239)) < a2 then (wrap64 (a0 + t239)) else a2) = ji9 := hji9
     by_cases c10 : (wrap64 ((wrap64 (a0 + t239)) - (ji9))) > 10000000000000
     ·rw [if_pos c10] at H
      have c10b0 : decide (10000000000000 < (wrap64 ((wrap64 (a0 + t239)) - (ji9)))) = true := decide_eq_true c10
      clear c10
      simp only [Option.some.injEq, Prod.mk.injEq] at H
      obtain ⟨rfl, rfl, rfl⟩ := H
      go_wp2_with (first | ((with_reducible refine gate_callee (f := 32) rfl ?_); refine kg (some 24) rfl rfl Try.func32 (by kernel_rfl) rfl #[.int .i64 a0, .int .i64 a1] rfl ?_; (with_reducible refine (rate_Month_s.calls a0 a1 t239 none _ A8.out).mono ?_); rintro e w' ⟨rfl, ⟨nd, rfl⟩⟩; refine ⟨_, rfl, ?_⟩; (try simp only [errW_none, errW_some])))
      go_ret3
      exact ⟨by first | rfl | (simp [errW_none, errW_some] <;> rfl) | (simp only [← hji9]; first | rfl | (simp [errW_none, errW_some] <;> rfl)) | (simp [*, errW_none, errW_some] <;> rfl), by repeat (first | (with_reducible first | exact HB.out | apply kc1 | apply kc2 | apply kc3) | exact HB.out)⟩
     ·rw [if_neg c10] at H
      have c10b0 : decide (10000000000000 < (wrap64 ((wrap64 (a0 + t239)) - (ji9)))) = false := decide_eq_false c10
      clear c10
      simp only [Option.some.injEq, Prod.mk.injEq] at H
      obtain ⟨rfl, rfl, rfl⟩ := H
      go_wp2_with (first | ((with_reducible refine gate_callee (f := 32) rfl ?_); refine kg (some 24) rfl rfl Try.func32 (by kernel_rfl) rfl #[.int .i64 a0, .int .i64 a1] rfl ?_; (with_reducible refine (rate_Month_s.calls a0 a1 t239 none _ A8.out).mono ?_); rintro e w' ⟨rfl, ⟨nd, rfl⟩⟩; refine ⟨_, rfl, ?_⟩; (try simp only [errW_none, errW_some])))
      go_ret3
      exact ⟨by first | rfl | (simp [errW_none, errW_some] <;> rfl) | (simp only [← hji9]; first | rfl | (simp [errW_none, errW_some] <;> rfl)) | (simp [*, errW_none, errW_some] <;> rfl), by repeat (first | (with_reducible first | exact HB.out | apply kc1 | apply kc2 | apply kc3) | exact HB.out)⟩
    ·have H1 : (some (0, 0, some q241)) = some (r1, r2, r3) := by rw [if_neg (show ¬ (some q241).isNone = true by simp)] at H; exact H
     clear H
     have H := H1
     clear H1
     try simp only [errW_none, errW_some]
     simp only [Option.some.injEq, Prod.mk.injEq] at H
     obtain ⟨rfl, rfl, rfl⟩ := H
     go_wp2_with (first | ((with_reducible refine gate_callee (f := 32) rfl ?_); refine kg (some 24) rfl rfl Try.func32 (by kernel_rfl) rfl #[.int .i64 a0, .int .i64 a1] rfl ?_; (with_reducible refine (rate_Month_s.calls a0 a1 t239 (some q241) _ A8.out).mono ?_); rintro e w' ⟨rfl, ⟨nd, rfl⟩⟩; refine ⟨_, rfl, ?_⟩; (try simp only [errW_none, errW_some])))
     go_ret3
     exact ⟨by first | rfl | (simp [errW_none, errW_some] <;> rfl) | (simp [*, errW_none, errW_some] <;> rfl), by repeat (first | (with_reducible first | exact HB.out | apply kc1 | apply kc2 | apply kc3) | exact HB.out)⟩

/-! ### rate_Next_s: function 62, told plainly -/
theorem rate_Next.tells (b r p : Int) (k : Nat) (hk : 1 ≤ k) : rate_Next.f k b r p =
  some (if M.may b r ∧ 0 ≤ p then (if M.next b r p > 10000000000000 then (0, 0, some 3) else (M.next b r p, M.month b r, none)) else (0, 0, some 1)) := by
 obtain ⟨k, rfl⟩ : ∃ m, k = m + 1 := ⟨k - 1, by omega⟩
 have hm : rate_may.f b r = some (decide (M.may b r)) := by
  unfold rate_may.f M.may
  by_cases h1 : 0 ≤ b <;> by_cases h2 : b ≤ 10000000000000 <;> by_cases h3 : 0 ≤ r <;> simp [h1, h2, h3]
 unfold rate_Next.f
 rw [hm, Option.bind_some]
 by_cases h : M.may b r
 ·rw [if_pos (decide_eq_true h)]
  by_cases hp : p < 0
  ·rw [decide_eq_true hp, if_neg (by omega)]
   simp [rate_Next.j0]
  ·rw [decide_eq_false hp, if_pos ⟨h, by omega⟩]
   simp only [rate_Next.j0]
   unfold rate_Month_s.f
   rw [if_neg (by decide), if_pos h]
   simp only [Option.bind_some, Option.isNone_none, if_true]
   have h0 := M.month_nonneg h
   have h1 := M.month_le h
   have hb := h.1
   have hb2 := h.2.1
   have e1 : wrap64 (b + M.month b r) = b + M.month b r := M.w64_id (by omega) (by omega)
   have e2 : wrap64 (b + M.month b r - mn p (b + M.month b r)) = M.next b r p := by
    unfold M.next mn
    split <;> split <;> rw [M.w64_id] <;> omega
   rw [e1, e2]
   split <;> rfl
 ·rw [if_neg (by simpa using h), if_neg (fun hh => h hh.1)]
  simp [rate_Next.j0]
def rate_Next_s.f (b r p : Int) : Option (Int × Int × Option Int) :=
 some (if M.may b r ∧ 0 ≤ p then (if M.next b r p > 10000000000000 then (0, 0, some 3) else (M.next b r p, M.month b r, none)) else (0, 0, some 1))
theorem rate_Next_s.calls (a0 : Int) (a1 : Int) (a2 : Int) (r1 : Int) (r2 : Int) (r3 : Option Int) (w : World) (h : rate_Next_s.f a0 a1 a2 = some (r1, r2, r3)) :
  Calls Try.prog 62 #[.int .i64 a0, .int .i64 a1, .int .i64 a2] w fun e w' => e = .returned (.tuple #[.int .i64 r1, .int .i64 r2, errW r3]) ∧ Below w.heap.size w w' :=
 rate_Next.calls 1 a0 a1 a2 r1 r2 r3 w ((rate_Next.tells a0 a1 a2 1 (Nat.le_refl _)).trans h)
theorem rate_Next_s.yes {b r p : Int} (h : M.may b r ∧ 0 ≤ p) (ho : M.next b r p ≤ 10000000000000) : rate_Next_s.f b r p = some (M.next b r p, M.month b r, none) := by unfold rate_Next_s.f; rw [if_pos h, if_neg (by omega)]
theorem rate_Next_s.over {b r p : Int} (h : M.may b r ∧ 0 ≤ p) (ho : M.next b r p > 10000000000000) : rate_Next_s.f b r p = some (0, 0, some 3) := by unfold rate_Next_s.f; rw [if_pos h, if_pos ho]
theorem rate_Next_s.no {b r p : Int} (h : ¬ (M.may b r ∧ 0 ≤ p)) : rate_Next_s.f b r p = some (0, 0, some 1) := by unfold rate_Next_s.f; rw [if_neg h]

/-! ### rate_Left: function 60 -/
mutual
def rate_Left.j0 : Nat → Int → Int → Int → Int → Bool → Option (Int × Option Int)
 | 0, _, _, _, _, _ => none
 | k + 1, x0, x1, x2, x3, x28 => if x28 = true then (some (0, some 1)) else (rate_Left.l0 k x0 x1 x2 x3 0)
def rate_Left.l0 : Nat → Int → Int → Int → Int → Int → Option (Int × Option Int)
 | 0, _, _, _, _, _ => none
 | k + 1, x0, x1, x2, x30, x31 => if x31 < x30 then ((rate_Next_s.f x0 x1 x2).bind fun bt243 => (if bt243.2.2.isNone = true then (rate_Left.l0 k bt243.1 x1 x2 x30 (wrap64 (x31 + 1))) else (some (0, some (bt243.2.2.getD 0))))) else (some (x0, none))
end
def rate_Left.f (k : Nat) (a0 : Int) (a1 : Int) (a2 : Int) (a3 : Int) : Option (Int × Option Int) := (rate_may.f a0 a1).bind fun t242 => (if t242 = true then (if a2 < 0 then (rate_Left.j0 k a0 a1 a2 a3 true) else (if a3 < 0 then (rate_Left.j0 k a0 a1 a2 a3 true) else (rate_Left.j0 k a0 a1 a2 a3 (decide (a3 > 480))))) else (rate_Left.j0 k a0 a1 a2 a3 true))
theorem rate_Left.mono_l : ∀ k, (∀ y0 y1 y2 y3 y4, LeO (rate_Left.j0 k y0 y1 y2 y3 y4) (rate_Left.j0 (k + 1) y0 y1 y2 y3 y4)) ∧ (∀ y0 y1 y2 y3 y4, LeO (rate_Left.l0 k y0 y1 y2 y3 y4) (rate_Left.l0 (k + 1) y0 y1 y2 y3 y4))
 | 0 => ⟨fun _ _ _ _ _ r h => by simp [rate_Left.j0] at h, fun _ _ _ _ _ r h => by simp [rate_Left.l0] at h⟩
 | k + 1 => by
  obtain ⟨ih0, ih1⟩ := rate_Left.mono_l k
  refine ⟨?_, ?_⟩
  ·intro y0 y1 y2 y3 y4
   unfold rate_Left.j0
   repeat' first
   | (with_reducible exact ih0 _ _ _ _ _)
   | (with_reducible exact ih1 _ _ _ _ _)
   | (with_reducible exact LeO.refl _)
   | (with_reducible exact LeO.none _)
   | (with_reducible refine LeO.ite ?_ ?_)
   | (with_reducible refine LeO.bind ?_ (fun _ => ?_))
   | exact ih0 _ _ _ _ _
   | exact ih1 _ _ _ _ _
   | exact LeO.none _
   | refine LeO.ite ?_ ?_
   | refine LeO.bind ?_ (fun _ => ?_)
  ·intro y0 y1 y2 y3 y4
   unfold rate_Left.l0
   repeat' first
   | (with_reducible exact ih0 _ _ _ _ _)
   | (with_reducible exact ih1 _ _ _ _ _)
   | (with_reducible exact LeO.refl _)
   | (with_reducible exact LeO.none _)
   | (with_reducible refine LeO.ite ?_ ?_)
   | (with_reducible refine LeO.bind ?_ (fun _ => ?_))
   | exact ih0 _ _ _ _ _
   | exact ih1 _ _ _ _ _
   | exact LeO.none _
   | refine LeO.ite ?_ ?_
   | refine LeO.bind ?_ (fun _ => ?_)
theorem rate_Left.mono : ∀ a0 a1 a2 a3 k, LeO (rate_Left.f k a0 a1 a2 a3) (rate_Left.f (k + 1) a0 a1 a2 a3) := by
 intro a0 a1 a2 a3 k
 obtain ⟨ih0, ih1⟩ := rate_Left.mono_l k
 unfold rate_Left.f
 repeat' first
   | (with_reducible exact ih0 _ _ _ _ _)
   | (with_reducible exact ih1 _ _ _ _ _)
   | (with_reducible exact LeO.refl _)
   | (with_reducible exact LeO.none _)
   | (with_reducible refine LeO.ite ?_ ?_)
   | (with_reducible refine LeO.bind ?_ (fun _ => ?_))
   | exact ih0 _ _ _ _ _
   | exact ih1 _ _ _ _ _
   | exact LeO.none _
   | refine LeO.ite ?_ ?_
   | refine LeO.bind ?_ (fun _ => ?_)
set_option maxHeartbeats 8000000 in
set_option maxRecDepth 100000 in
theorem rate_Left.calls (k : Nat) (a0 : Int) (a1 : Int) (a2 : Int) (a3 : Int) (r1 : Int) (r2 : Option Int) (w : World) (h : rate_Left.f k a0 a1 a2 a3 = some (r1, r2)) :
  Calls Try.prog 60 #[.int .i64 a0, .int .i64 a1, .int .i64 a2, .int .i64 a3] w fun e w' => e = .returned (.tuple #[.int .i64 r1, errW r2]) ∧ Below w.heap.size w w' := by
 have hu30 := Try.underlying30
 have hu34 := Try.underlying34
 have HB := ka (Below.refl w.heap.size w)
 have H : ((rate_may.f a0 a1).bind fun t242 => (if t242 = true then (if a2 < 0 then (rate_Left.j0 k a0 a1 a2 a3 true) else (if a3 < 0 then (rate_Left.j0 k a0 a1 a2 a3 true) else (rate_Left.j0 k a0 a1 a2 a3 (decide (a3 > 480))))) else (rate_Left.j0 k a0 a1 a2 a3 true))) = some (r1, r2) := h
 clear h
 have HC5 := ka H
 clear H
 go_enter Try.func60, Try.ntmps60
 go_upto_region 1 with (fail)
 go_cut [28] (fun v28 wc => ∃ (kq : Nat) (x28_4 : Bool), v28 = .bool x28_4 ∧ Aside0 (rate_Left.j0 kq a0 a1 a2 a3 x28_4 = some (r1, r2)) ∧ Aside0 (kq ≤ k) ∧ Aside0 (Below w.heap.size w wc))
 case first =>
  have H := HC5.out
  clear HC5
  replace H := Option.bind_eq_some_iff.mp H
  obtain ⟨t242, A60, H⟩ := H
  replace H : (if t242 = true then (if a2 < 0 then (rate_Left.j0 k a0 a1 a2 a3 true) else (if a3 < 0 then (rate_Left.j0 k a0 a1 a2 a3 true) else (rate_Left.j0 k a0 a1 a2 a3 (decide (a3 > 480))))) else (rate_Left.j0 k a0 a1 a2 a3 true)) = some (r1, r2) := H
  have A6 := ka A60
  clear A60
  by_cases c7 : t242 = true
  ·subst c7
   have H1 : (if a2 < 0 then (rate_Left.j0 k a0 a1 a2 a3 true) else (if a3 < 0 then (rate_Left.j0 k a0 a1 a2 a3 true) else (rate_Left.j0 k a0 a1 a2 a3 (decide (a3 > 480))))) = some (r1, r2) := by rw [if_pos rfl] at H; exact H
   clear H
   have H := H1
   clear H1
   by_cases c8 : a2 < 0
   ·rw [if_pos c8] at H
    have c8b0 : decide (a2 < 0) = true := decide_eq_true c8
    clear c8
    (first | rw [c8b0] | (simp only [i64_w, i32_w]; rw [c8b0]) | skip)
    have H' := ka H
    clear H
    go_wp2_with (first | ((with_reducible refine gate_callee (f := 42) rfl ?_); refine kg (some 15) rfl rfl Try.func42 (by kernel_rfl) rfl #[.int .i64 a0, .int .i64 a1] rfl ?_; (with_reducible refine (rate_may.calls a0 a1 true _ A6.out).mono ?_); rintro e w' ⟨rfl, ⟨nd, rfl⟩⟩; refine ⟨_, rfl, ?_⟩))
    go_meet
    case rel => exact ⟨_, (true), (by first | rfl | (simp; done) | (simp [*]; done)), H', ⟨by first | omega | exact Nat.le_refl _⟩, ⟨by repeat (first | (with_reducible first | exact HB.out | apply kc1 | apply kc2 | apply kc3) | exact HB.out)⟩⟩
   ·rw [if_neg c8] at H
    have c8b0 : decide (a2 < 0) = false := decide_eq_false c8
    clear c8
    (first | rw [c8b0] | (simp only [i64_w, i32_w]; rw [c8b0]) | skip)
    by_cases c9 : a3 < 0
    ·rw [if_pos c9] at H
     have c9b0 : decide (a3 < 0) = true := decide_eq_true c9
     clear c9
     have H' := ka H
     clear H
     go_wp2_with (first | ((with_reducible refine gate_callee (f := 42) rfl ?_); refine kg (some 15) rfl rfl Try.func42 (by kernel_rfl) rfl #[.int .i64 a0, .int .i64 a1] rfl ?_; (with_reducible refine (rate_may.calls a0 a1 true _ A6.out).mono ?_); rintro e w' ⟨rfl, ⟨nd, rfl⟩⟩; refine ⟨_, rfl, ?_⟩))
     go_meet
     case rel => exact ⟨_, (true), (by first | rfl | (simp; done) | (simp [*]; done)), H', ⟨by first | omega | exact Nat.le_refl _⟩, ⟨by repeat (first | (with_reducible first | exact HB.out | apply kc1 | apply kc2 | apply kc3) | exact HB.out)⟩⟩
    ·rw [if_neg c9] at H
     have c9b0 : decide (a3 < 0) = false := decide_eq_false c9
     clear c9
     have H' := ka H
     clear H
     go_wp2_with (first | ((with_reducible refine gate_callee (f := 42) rfl ?_); refine kg (some 15) rfl rfl Try.func42 (by kernel_rfl) rfl #[.int .i64 a0, .int .i64 a1] rfl ?_; (with_reducible refine (rate_may.calls a0 a1 true _ A6.out).mono ?_); rintro e w' ⟨rfl, ⟨nd, rfl⟩⟩; refine ⟨_, rfl, ?_⟩))
     go_meet
     case rel => exact ⟨_, (decide (a3 > 480)), (by first | rfl | (simp; done) | (simp [*]; done)), H', ⟨by first | omega | exact Nat.le_refl _⟩, ⟨by repeat (first | (with_reducible first | exact HB.out | apply kc1 | apply kc2 | apply kc3) | exact HB.out)⟩⟩
  ·replace c7 := Bool.eq_false_iff.mpr c7
   subst c7
   have H1 : (rate_Left.j0 k a0 a1 a2 a3 true) = some (r1, r2) := by rw [if_neg (show ¬ (false = true) by decide)] at H; exact H
   clear H
   have H := H1
   clear H1
   have H' := ka H
   clear H
   go_wp2_with (first | ((with_reducible refine gate_callee (f := 42) rfl ?_); refine kg (some 15) rfl rfl Try.func42 (by kernel_rfl) rfl #[.int .i64 a0, .int .i64 a1] rfl ?_; (with_reducible refine (rate_may.calls a0 a1 false _ A6.out).mono ?_); rintro e w' ⟨rfl, ⟨nd, rfl⟩⟩; refine ⟨_, rfl, ?_⟩))
   go_meet
   case rel => exact ⟨_, (true), (by first | rfl | (simp; done) | (simp [*]; done)), H', ⟨by first | omega | exact Nat.le_refl _⟩, ⟨by repeat (first | (with_reducible first | exact HB.out | apply kc1 | apply kc2 | apply kc3) | exact HB.out)⟩⟩
 case rest =>
  clear HC5
  try clear p2
  try clear c4
  try clear c6
  try clear c7
  try clear c8
  try clear c8b0
  try clear c9
  try clear c9b0
  obtain ⟨kq, x28_4, rfl, HA, HJ4, HB⟩ := hcut
  cases kq with
  | zero => exact absurd HA.out (by simp [rate_Left.j0])
  | succ kj4 =>
   have H := HA.out
   clear HA
   simp only [rate_Left.j0] at H
   by_cases c10 : x28_4 = true
   ·subst c10
    have H1 : (some (0, some 1)) = some (r1, r2) := by rw [if_pos rfl] at H; exact H
    clear H
    have H := H1
    clear H1
    simp only [Option.some.injEq, Prod.mk.injEq] at H
    obtain ⟨rfl, rfl⟩ := H
    go_wp2
    go_ret2
    exact ⟨by first | rfl | (simp [errW_none, errW_some] <;> rfl) | (simp [*, errW_none, errW_some] <;> rfl), by repeat (first | (with_reducible first | exact HB.out | apply kc1 | apply kc2 | apply kc3) | exact HB.out)⟩
   ·replace c10 := Bool.eq_false_iff.mpr c10
    subst c10
    have H1 : (rate_Left.l0 kj4 a0 a1 a2 a3 0) = some (r1, r2) := by rw [if_neg (show ¬ (false = true) by decide)] at H; exact H
    clear H
    have H := H1
    clear H1
    have H' := ka H
    clear H
    go_wp2
    (try simp only [Act.put, List.setIfInBounds_toArray, List.set_cons_zero, List.set_cons_succ])
    go_loopg [0, 31] kj4 (fun kq v0 v31 w' => ∃ (x0_2 : Int) (x31_2 : Int), v0 = .int .i64 x0_2 ∧ v31 = .int .i64 x31_2 ∧ Aside0 (rate_Left.l0 kq x0_2 a1 a2 a3 x31_2 = some (r1, r2)) ∧ Aside0 (kq ≤ kj4) ∧ Aside0 (Below w.heap.size w w'))
    case atStart => exact ⟨(a0), (0), (by first | rfl | (simp; done) | (simp [*]; done)), (by first | rfl | (simp; done) | (simp [*]; done)), H', ⟨Nat.le_refl _⟩, ⟨by repeat (first | (with_reducible first | exact HB.out | apply kc1 | apply kc2 | apply kc3) | exact HB.out)⟩⟩
    case round =>
     clear H'
     try clear c1
     try clear p2
     try clear c4
     try clear c6
     try clear c7
     try clear c8
     try clear c8b0
     try clear c9
     try clear c9b0
     try clear c10
     try clear p2
     obtain ⟨x0_2, x31_2, rfl, rfl, HA, HK2, HB⟩ := hrel
     cases gk with
     | zero => exact absurd HA.out (by simp [rate_Left.l0])
     | succ k2 =>
      have H := HA.out
      clear HA
      simp only [rate_Left.l0] at H
      by_cases c11 : x31_2 < a3
      ·rw [if_pos c11] at H
       have c11b0 : decide (x31_2 < a3) = true := decide_eq_true c11
       clear c11
       replace H := Option.bind_eq_some_iff.mp H
       obtain ⟨⟨t243, t244, t245⟩, A120, H⟩ := H
       replace H : (if t245.isNone = true then (rate_Left.l0 k2 t243 a1 a2 a3 (wrap64 (x31_2 + 1))) else (some (0, some (t245.getD 0)))) = some (r1, r2) := H
       have A12 := ka A120
       clear A120
       rcases t245 with _ | q246
       ·have H1 : (rate_Left.l0 k2 t243 a1 a2 a3 (wrap64 (x31_2 + 1))) = some (r1, r2) := by rw [if_pos (show (none : Option Int).isNone = true by rfl)] at H; exact H
        clear H
        have H := H1
        clear H1
        try simp only [errW_none, errW_some]
        have H' := ka H
        clear H
        go_wp2_with (first | ((with_reducible refine gate_callee (f := 62) rfl ?_); refine kg (some 37) rfl rfl Try.func62 (by kernel_rfl) rfl #[.int .i64 x0_2, .int .i64 a1, .int .i64 a2] rfl ?_; (with_reducible refine (rate_Next_s.calls x0_2 a1 a2 t243 t244 none _ A12.out).mono ?_); rintro e w13 ⟨rfl, hb⟩; refine ⟨_, rfl, ?_⟩; have n0_ := ka (below_step (kw HB.out) hb); clear HB; have HB := n0_; clear n0_; (try clear hb); (try clear hb2); (try clear hk); (try clear hi); (try simp only [errW_none, errW_some])))
        go_roundg k2
        case measure => have := HJ4.out; have := HK2.out; omega
        case rel => exact ⟨(t243), (wrap64 (x31_2 + 1)), (by first | rfl | (simp; done) | (simp [*]; done)), (by first | rfl | (simp; done) | (simp [*]; done)), H', ⟨by have := HJ4.out; have := HK2.out; omega⟩, ⟨by repeat (first | (with_reducible first | exact HB.out | apply kc1 | apply kc2 | apply kc3) | exact HB.out)⟩⟩
       ·have H1 : (some (0, some q246)) = some (r1, r2) := by rw [if_neg (show ¬ (some q246).isNone = true by simp)] at H; exact H
        clear H
        have H := H1
        clear H1
        try simp only [errW_none, errW_some]
        simp only [Option.some.injEq, Prod.mk.injEq] at H
        obtain ⟨rfl, rfl⟩ := H
        go_wp2_with (first | ((with_reducible refine gate_callee (f := 62) rfl ?_); refine kg (some 37) rfl rfl Try.func62 (by kernel_rfl) rfl #[.int .i64 x0_2, .int .i64 a1, .int .i64 a2] rfl ?_; (with_reducible refine (rate_Next_s.calls x0_2 a1 a2 t243 t244 (some q246) _ A12.out).mono ?_); rintro e w14 ⟨rfl, hb⟩; refine ⟨_, rfl, ?_⟩; have n0_ := ka (below_step (kw HB.out) hb); clear HB; have HB := n0_; clear n0_; (try clear hb); (try clear hb2); (try clear hk); (try clear hi); (try simp only [errW_none, errW_some])))
        go_ret2
        exact ⟨by first | rfl | (simp [errW_none, errW_some] <;> rfl) | (simp [*, errW_none, errW_some] <;> rfl), by repeat (first | (with_reducible first | exact HB.out | apply kc1 | apply kc2 | apply kc3) | exact HB.out)⟩
      ·rw [if_neg c11] at H
       have c11b0 : decide (x31_2 < a3) = false := decide_eq_false c11
       clear c11
       simp only [Option.some.injEq, Prod.mk.injEq] at H
       obtain ⟨rfl, rfl⟩ := H
       go_wp2
       go_ret2
       exact ⟨by first | rfl | (simp [errW_none, errW_some] <;> rfl) | (simp [*, errW_none, errW_some] <;> rfl), by repeat (first | (with_reducible first | exact HB.out | apply kc1 | apply kc2 | apply kc3) | exact HB.out)⟩

/-! ### rate_Left_s: function 60, told plainly -/
theorem rate_Left.loop (r p m : Int) (hp : 0 ≤ p) (hm0 : 0 ≤ m) (hm : m ≤ 480) : ∀ (n : Nat) (i b : Int), i + n = m → 0 ≤ i → M.may b r → ∀ k, n + 2 ≤ k →
  rate_Left.l0 k b r p m i = some (M.tell3 (M.left n b r p)) := by
 intro n
 induction n with
 | zero =>
  intro i b hi h0 hb k hk
  obtain ⟨k, rfl⟩ : ∃ m, k = m + 1 := ⟨k - 1, by omega⟩
  simp only [rate_Left.l0, M.left]
  rw [if_neg (by omega)]
  rfl
 | succ n ih =>
  intro i b hi h0 hb k hk
  obtain ⟨k, rfl⟩ : ∃ m, k = m + 1 := ⟨k - 1, by omega⟩
  simp only [rate_Left.l0, M.left]
  unfold rate_Next_s.f
  rw [if_pos (by omega), if_pos ⟨hb, hp⟩, Option.bind_some]
  by_cases ho : M.next b r p > 10000000000000
  ·rw [if_pos ho, if_pos ho]
   rfl
  ·rw [if_neg ho, if_neg ho]
   simp only [Option.isNone_none, if_true]
   rw [M.w64_id (by omega) (by omega)]
   exact ih (i + 1) _ (by omega) (by omega) ⟨M.next_nonneg _ _ _, by omega, hb.2.2.1, hb.2.2.2⟩ k (by omega)
theorem rate_Left.tells (b r p m : Int) (k : Nat) (hk : m.toNat + 4 ≤ k) : rate_Left.f k b r p m =
  some (if M.may b r ∧ 0 ≤ p ∧ 0 ≤ m ∧ m ≤ 480 then M.tell3 (M.left m.toNat b r p) else (0, some 1)) := by
 obtain ⟨k, rfl⟩ : ∃ m, k = m + 1 := ⟨k - 1, by omega⟩
 have hm : rate_may.f b r = some (decide (M.may b r)) := by
  unfold rate_may.f M.may
  by_cases h1 : 0 ≤ b <;> by_cases h2 : b ≤ 10000000000000 <;> by_cases h3 : 0 ≤ r <;> simp [h1, h2, h3]
 unfold rate_Left.f
 rw [hm, Option.bind_some]
 by_cases h : M.may b r
 ·rw [if_pos (decide_eq_true h)]
  by_cases hp : p < 0
  ·rw [if_pos hp, if_neg (by omega)]
   simp [rate_Left.j0]
  rw [if_neg hp]
  by_cases hm0 : m < 0
  ·rw [if_pos hm0, if_neg (by omega)]
   simp [rate_Left.j0]
  rw [if_neg hm0]
  by_cases hm4 : m > 480
  ·rw [decide_eq_true hm4, if_neg (by omega)]
   simp [rate_Left.j0]
  rw [decide_eq_false hm4, if_pos ⟨h, by omega, by omega, by omega⟩]
  simp only [rate_Left.j0]
  rw [if_neg (by decide)]
  exact rate_Left.loop r p m (by omega) (by omega) (by omega) m.toNat 0 b (by omega) (by omega) h k (by omega)
 ·rw [if_neg (by simpa using h), if_neg (fun hh => h hh.1)]
  simp [rate_Left.j0]
def rate_Left_s.f (b r p m : Int) : Option (Int × Option Int) :=
 some (if M.may b r ∧ 0 ≤ p ∧ 0 ≤ m ∧ m ≤ 480 then M.tell3 (M.left m.toNat b r p) else (0, some 1))
theorem rate_Left_s.calls (a0 : Int) (a1 : Int) (a2 : Int) (a3 : Int) (r1 : Int) (r2 : Option Int) (w : World) (h : rate_Left_s.f a0 a1 a2 a3 = some (r1, r2)) :
  Calls Try.prog 60 #[.int .i64 a0, .int .i64 a1, .int .i64 a2, .int .i64 a3] w fun e w' => e = .returned (.tuple #[.int .i64 r1, errW r2]) ∧ Below w.heap.size w w' :=
 rate_Left.calls (a3.toNat + 4) a0 a1 a2 a3 r1 r2 w ((rate_Left.tells a0 a1 a2 a3 _ (Nat.le_refl _)).trans h)
theorem rate_Left_s.yes {b r p m : Int} (h : M.may b r ∧ 0 ≤ p ∧ 0 ≤ m ∧ m ≤ 480) : rate_Left_s.f b r p m = some (M.tell3 (M.left m.toNat b r p)) := by unfold rate_Left_s.f; rw [if_pos h]
theorem rate_Left_s.no {b r p m : Int} (h : ¬ (M.may b r ∧ 0 ≤ p ∧ 0 ≤ m ∧ m ≤ 480)) : rate_Left_s.f b r p m = some (0, some 1) := by unfold rate_Left_s.f; rw [if_neg h]

/-! ### rate_pays: function 57 -/
def rate_pays.f (a0 : Int) (a1 : Int) (a2 : Int) (a3 : Int) : Option (Bool) := (rate_Left_s.f a0 a1 a2 a3).bind fun bt247 => (if bt247.2.isNone = true then (some (bt247.1 == 0)) else (some false))
set_option maxHeartbeats 8000000 in
set_option maxRecDepth 100000 in
theorem rate_pays.calls (a0 : Int) (a1 : Int) (a2 : Int) (a3 : Int) (r : Bool) (w : World) (h : rate_pays.f a0 a1 a2 a3 = some r) :
  Calls Try.prog 57 #[.int .i64 a0, .int .i64 a1, .int .i64 a2, .int .i64 a3] w fun e w' => e = .returned (.bool r) ∧ Below w.heap.size w w' := by
 have hu30 := Try.underlying30
 have hu34 := Try.underlying34
 have HB := ka (Below.refl w.heap.size w)
 have H : ((rate_Left_s.f a0 a1 a2 a3).bind fun bt247 => (if bt247.2.isNone = true then (some (bt247.1 == 0)) else (some false))) = some r := h
 clear h
 replace H := Option.bind_eq_some_iff.mp H
 obtain ⟨⟨t247, t248⟩, A50, H⟩ := H
 replace H : (if t248.isNone = true then (some (t247 == 0)) else (some false)) = some r := H
 have A5 := ka A50
 clear A50
 rcases t248 with _ | q249
 ·have H1 : (some (t247 == 0)) = some r := by rw [if_pos (show (none : Option Int).isNone = true by rfl)] at H; exact H
  clear H
  have H := H1
  clear H1
  try simp only [errW_none, errW_some]
  obtain rfl := Option.some.inj H
  go_enter Try.func57, Try.ntmps57
  go_wp2_with (first | ((with_reducible refine gate_callee (f := 60) rfl ?_); refine kg (some 16) rfl rfl Try.func60 (by kernel_rfl) rfl #[.int .i64 a0, .int .i64 a1, .int .i64 a2, .int .i64 a3] rfl ?_; (with_reducible refine (rate_Left_s.calls a0 a1 a2 a3 t247 none _ A5.out).mono ?_); rintro e w6 ⟨rfl, hb⟩; refine ⟨_, rfl, ?_⟩; have n0_ := ka (below_step (kw HB.out) hb); clear HB; have HB := n0_; clear n0_; (try clear hb); (try clear hb2); (try clear hk); (try clear hi); (try simp only [errW_none, errW_some])))
  go_ret
  exact ⟨by first | rfl | (simp [errW_none, errW_some] <;> rfl) | (simp [*, errW_none, errW_some] <;> rfl), by repeat (first | (with_reducible first | exact HB.out | apply kc1 | apply kc2 | apply kc3) | exact HB.out)⟩
 ·have H1 : (some false) = some r := by rw [if_neg (show ¬ (some q249).isNone = true by simp)] at H; exact H
  clear H
  have H := H1
  clear H1
  try simp only [errW_none, errW_some]
  obtain rfl := Option.some.inj H
  go_enter Try.func57, Try.ntmps57
  go_wp2_with (first | ((with_reducible refine gate_callee (f := 60) rfl ?_); refine kg (some 16) rfl rfl Try.func60 (by kernel_rfl) rfl #[.int .i64 a0, .int .i64 a1, .int .i64 a2, .int .i64 a3] rfl ?_; (with_reducible refine (rate_Left_s.calls a0 a1 a2 a3 t247 (some q249) _ A5.out).mono ?_); rintro e w7 ⟨rfl, hb⟩; refine ⟨_, rfl, ?_⟩; have n0_ := ka (below_step (kw HB.out) hb); clear HB; have HB := n0_; clear n0_; (try clear hb); (try clear hb2); (try clear hk); (try clear hi); (try simp only [errW_none, errW_some])))
  go_ret
  exact ⟨by first | rfl | (simp [errW_none, errW_some] <;> rfl) | (simp [*, errW_none, errW_some] <;> rfl), by repeat (first | (with_reducible first | exact HB.out | apply kc1 | apply kc2 | apply kc3) | exact HB.out)⟩

/-! ### rate_pays_s: function 57, told plainly -/
theorem rate_pays.tells (b r p m : Int) : rate_pays.f b r p m = some (if M.may b r ∧ 0 ≤ p ∧ 0 ≤ m ∧ m ≤ 480 then M.pays m.toNat b r p else false) := by
 unfold rate_pays.f rate_Left_s.f M.pays
 rw [Option.bind_some]
 by_cases h : M.may b r ∧ 0 ≤ p ∧ 0 ≤ m ∧ m ≤ 480
 ·rw [if_pos h, if_pos h]
  cases M.left m.toNat b r p with
  | none => rfl
  | some v => rfl
 ·rw [if_neg h, if_neg h]
  rfl
def rate_pays_s.f (b r p m : Int) : Option Bool := some (if M.may b r ∧ 0 ≤ p ∧ 0 ≤ m ∧ m ≤ 480 then M.pays m.toNat b r p else false)
theorem rate_pays_s.calls (a0 : Int) (a1 : Int) (a2 : Int) (a3 : Int) (r : Bool) (w : World) (h : rate_pays_s.f a0 a1 a2 a3 = some r) :
  Calls Try.prog 57 #[.int .i64 a0, .int .i64 a1, .int .i64 a2, .int .i64 a3] w fun e w' => e = .returned (.bool r) ∧ Below w.heap.size w w' :=
 rate_pays.calls a0 a1 a2 a3 r w ((rate_pays.tells a0 a1 a2 a3).trans h)
theorem rate_pays_s.yes {b r p m : Int} (h : M.may b r ∧ 0 ≤ p ∧ 0 ≤ m ∧ m ≤ 480) : rate_pays_s.f b r p m = some (M.pays m.toNat b r p) := by unfold rate_pays_s.f; rw [if_pos h]

/-! ### rate_Level: function 46 -/
mutual
def rate_Level.j0 : Nat → Int → Int → Int → Bool → Option (Int × Option Int)
 | 0, _, _, _, _ => none
 | k + 1, x0, x1, x2, x22 => if x22 = true then (some (0, some 1)) else (rate_Level.l0 k x0 x1 x2 0 (wrap64 (2 * x0)))
def rate_Level.l0 : Nat → Int → Int → Int → Int → Int → Option (Int × Option Int)
 | 0, _, _, _, _, _ => none
 | k + 1, x0, x1, x2, x8, x9 => if x8 < x9 then ((rate_pays_s.f x0 x1 (wrap64 (x8 + (wrap64 (Int.tdiv (wrap64 (x9 - x8)) 2)))) x2).bind fun t251 => (if t251 = true then (rate_Level.l0 k x0 x1 x2 x8 (wrap64 (x8 + (wrap64 (Int.tdiv (wrap64 (x9 - x8)) 2))))) else (rate_Level.l0 k x0 x1 x2 (wrap64 ((wrap64 (x8 + (wrap64 (Int.tdiv (wrap64 (x9 - x8)) 2)))) + 1)) x9))) else (some (x8, none))
end
def rate_Level.f (k : Nat) (a0 : Int) (a1 : Int) (a2 : Int) : Option (Int × Option Int) := (rate_may.f a0 a1).bind fun t250 => (if t250 = true then (if a2 < 1 then (rate_Level.j0 k a0 a1 a2 true) else (rate_Level.j0 k a0 a1 a2 (decide (a2 > 480)))) else (rate_Level.j0 k a0 a1 a2 true))
theorem rate_Level.mono_l : ∀ k, (∀ y0 y1 y2 y3, LeO (rate_Level.j0 k y0 y1 y2 y3) (rate_Level.j0 (k + 1) y0 y1 y2 y3)) ∧ (∀ y0 y1 y2 y3 y4, LeO (rate_Level.l0 k y0 y1 y2 y3 y4) (rate_Level.l0 (k + 1) y0 y1 y2 y3 y4))
 | 0 => ⟨fun _ _ _ _ r h => by simp [rate_Level.j0] at h, fun _ _ _ _ _ r h => by simp [rate_Level.l0] at h⟩
 | k + 1 => by
  obtain ⟨ih0, ih1⟩ := rate_Level.mono_l k
  refine ⟨?_, ?_⟩
  ·intro y0 y1 y2 y3
   unfold rate_Level.j0
   repeat' first
   | (with_reducible exact ih0 _ _ _ _)
   | (with_reducible exact ih1 _ _ _ _ _)
   | (with_reducible exact LeO.refl _)
   | (with_reducible exact LeO.none _)
   | (with_reducible refine LeO.ite ?_ ?_)
   | (with_reducible refine LeO.bind ?_ (fun _ => ?_))
   | exact ih0 _ _ _ _
   | exact ih1 _ _ _ _ _
   | exact LeO.none _
   | refine LeO.ite ?_ ?_
   | refine LeO.bind ?_ (fun _ => ?_)
  ·intro y0 y1 y2 y3 y4
   unfold rate_Level.l0
   repeat' first
   | (with_reducible exact ih0 _ _ _ _)
   | (with_reducible exact ih1 _ _ _ _ _)
   | (with_reducible exact LeO.refl _)
   | (with_reducible exact LeO.none _)
   | (with_reducible refine LeO.ite ?_ ?_)
   | (with_reducible refine LeO.bind ?_ (fun _ => ?_))
   | exact ih0 _ _ _ _
   | exact ih1 _ _ _ _ _
   | exact LeO.none _
   | refine LeO.ite ?_ ?_
   | refine LeO.bind ?_ (fun _ => ?_)
theorem rate_Level.mono : ∀ a0 a1 a2 k, LeO (rate_Level.f k a0 a1 a2) (rate_Level.f (k + 1) a0 a1 a2) := by
 intro a0 a1 a2 k
 obtain ⟨ih0, ih1⟩ := rate_Level.mono_l k
 unfold rate_Level.f
 repeat' first
   | (with_reducible exact ih0 _ _ _ _)
   | (with_reducible exact ih1 _ _ _ _ _)
   | (with_reducible exact LeO.refl _)
   | (with_reducible exact LeO.none _)
   | (with_reducible refine LeO.ite ?_ ?_)
   | (with_reducible refine LeO.bind ?_ (fun _ => ?_))
   | exact ih0 _ _ _ _
   | exact ih1 _ _ _ _ _
   | exact LeO.none _
   | refine LeO.ite ?_ ?_
   | refine LeO.bind ?_ (fun _ => ?_)
set_option maxHeartbeats 8000000 in
set_option maxRecDepth 100000 in
theorem rate_Level.calls (k : Nat) (a0 : Int) (a1 : Int) (a2 : Int) (r1 : Int) (r2 : Option Int) (w : World) (h : rate_Level.f k a0 a1 a2 = some (r1, r2)) :
  Calls Try.prog 46 #[.int .i64 a0, .int .i64 a1, .int .i64 a2] w fun e w' => e = .returned (.tuple #[.int .i64 r1, errW r2]) ∧ Below w.heap.size w w' := by
 have hu30 := Try.underlying30
 have hu34 := Try.underlying34
 have HB := ka (Below.refl w.heap.size w)
 have H : ((rate_may.f a0 a1).bind fun t250 => (if t250 = true then (if a2 < 1 then (rate_Level.j0 k a0 a1 a2 true) else (rate_Level.j0 k a0 a1 a2 (decide (a2 > 480)))) else (rate_Level.j0 k a0 a1 a2 true))) = some (r1, r2) := h
 clear h
 have HC4 := ka H
 clear H
 go_enter Try.func46, Try.ntmps46
 go_upto_region 1 with (fail)
 go_cut [22] (fun v22 wc => ∃ (kq : Nat) (x22_3 : Bool), v22 = .bool x22_3 ∧ Aside0 (rate_Level.j0 kq a0 a1 a2 x22_3 = some (r1, r2)) ∧ Aside0 (kq ≤ k) ∧ Aside0 (Below w.heap.size w wc))
 case first =>
  have H := HC4.out
  clear HC4
  replace H := Option.bind_eq_some_iff.mp H
  obtain ⟨t250, A50, H⟩ := H
  replace H : (if t250 = true then (if a2 < 1 then (rate_Level.j0 k a0 a1 a2 true) else (rate_Level.j0 k a0 a1 a2 (decide (a2 > 480)))) else (rate_Level.j0 k a0 a1 a2 true)) = some (r1, r2) := H
  have A5 := ka A50
  clear A50
  by_cases c6 : t250 = true
  ·subst c6
   have H1 : (if a2 < 1 then (rate_Level.j0 k a0 a1 a2 true) else (rate_Level.j0 k a0 a1 a2 (decide (a2 > 480)))) = some (r1, r2) := by rw [if_pos rfl] at H; exact H
   clear H
   have H := H1
   clear H1
   by_cases c7 : a2 < 1
   ·rw [if_pos c7] at H
    have c7b0 : decide (a2 < 1) = true := decide_eq_true c7
    clear c7
    (first | rw [c7b0] | (simp only [i64_w, i32_w]; rw [c7b0]) | skip)
    have H' := ka H
    clear H
    go_wp2_with (first | ((with_reducible refine gate_callee (f := 42) rfl ?_); refine kg (some 13) rfl rfl Try.func42 (by kernel_rfl) rfl #[.int .i64 a0, .int .i64 a1] rfl ?_; (with_reducible refine (rate_may.calls a0 a1 true _ A5.out).mono ?_); rintro e w' ⟨rfl, ⟨nd, rfl⟩⟩; refine ⟨_, rfl, ?_⟩))
    go_meet
    case rel => exact ⟨_, (true), (by first | rfl | (simp; done) | (simp [*]; done)), H', ⟨by first | omega | exact Nat.le_refl _⟩, ⟨by repeat (first | (with_reducible first | exact HB.out | apply kc1 | apply kc2 | apply kc3) | exact HB.out)⟩⟩
   ·rw [if_neg c7] at H
    have c7b0 : decide (a2 < 1) = false := decide_eq_false c7
    clear c7
    (first | rw [c7b0] | (simp only [i64_w, i32_w]; rw [c7b0]) | skip)
    have H' := ka H
    clear H
    go_wp2_with (first | ((with_reducible refine gate_callee (f := 42) rfl ?_); refine kg (some 13) rfl rfl Try.func42 (by kernel_rfl) rfl #[.int .i64 a0, .int .i64 a1] rfl ?_; (with_reducible refine (rate_may.calls a0 a1 true _ A5.out).mono ?_); rintro e w' ⟨rfl, ⟨nd, rfl⟩⟩; refine ⟨_, rfl, ?_⟩))
    go_meet
    case rel => exact ⟨_, (decide (a2 > 480)), (by first | rfl | (simp; done) | (simp [*]; done)), H', ⟨by first | omega | exact Nat.le_refl _⟩, ⟨by repeat (first | (with_reducible first | exact HB.out | apply kc1 | apply kc2 | apply kc3) | exact HB.out)⟩⟩
  ·replace c6 := Bool.eq_false_iff.mpr c6
   subst c6
   have H1 : (rate_Level.j0 k a0 a1 a2 true) = some (r1, r2) := by rw [if_neg (show ¬ (false = true) by decide)] at H; exact H
   clear H
   have H := H1
   clear H1
   have H' := ka H
   clear H
   go_wp2_with (first | ((with_reducible refine gate_callee (f := 42) rfl ?_); refine kg (some 13) rfl rfl Try.func42 (by kernel_rfl) rfl #[.int .i64 a0, .int .i64 a1] rfl ?_; (with_reducible refine (rate_may.calls a0 a1 false _ A5.out).mono ?_); rintro e w' ⟨rfl, ⟨nd, rfl⟩⟩; refine ⟨_, rfl, ?_⟩))
   go_meet
   case rel => exact ⟨_, (true), (by first | rfl | (simp; done) | (simp [*]; done)), H', ⟨by first | omega | exact Nat.le_refl _⟩, ⟨by repeat (first | (with_reducible first | exact HB.out | apply kc1 | apply kc2 | apply kc3) | exact HB.out)⟩⟩
 case rest =>
  clear HC4
  try clear p2
  try clear c4
  try clear c6
  try clear c7
  try clear c7b0
  obtain ⟨kq, x22_3, rfl, HA, HJ3, HB⟩ := hcut
  cases kq with
  | zero => exact absurd HA.out (by simp [rate_Level.j0])
  | succ kj3 =>
   have H := HA.out
   clear HA
   simp only [rate_Level.j0] at H
   by_cases c8 : x22_3 = true
   ·subst c8
    have H1 : (some (0, some 1)) = some (r1, r2) := by rw [if_pos rfl] at H; exact H
    clear H
    have H := H1
    clear H1
    simp only [Option.some.injEq, Prod.mk.injEq] at H
    obtain ⟨rfl, rfl⟩ := H
    go_wp2
    go_ret2
    exact ⟨by first | rfl | (simp [errW_none, errW_some] <;> rfl) | (simp [*, errW_none, errW_some] <;> rfl), by repeat (first | (with_reducible first | exact HB.out | apply kc1 | apply kc2 | apply kc3) | exact HB.out)⟩
   ·replace c8 := Bool.eq_false_iff.mpr c8
    subst c8
    have H1 : (rate_Level.l0 kj3 a0 a1 a2 0 (wrap64 (2 * a0))) = some (r1, r2) := by rw [if_neg (show ¬ (false = true) by decide)] at H; exact H
    clear H
    have H := H1
    clear H1
    have H' := ka H
    clear H
    go_wp2
    (try simp only [Act.put, List.setIfInBounds_toArray, List.set_cons_zero, List.set_cons_succ])
    go_loopg [8, 9] kj3 (fun kq v8 v9 w' => ∃ (x8_2 : Int) (x9_2 : Int), v8 = .int .i64 x8_2 ∧ v9 = .int .i64 x9_2 ∧ Aside0 (rate_Level.l0 kq a0 a1 a2 x8_2 x9_2 = some (r1, r2)) ∧ Aside0 (kq ≤ kj3) ∧ Aside0 (Below w.heap.size w w'))
    case atStart => exact ⟨(0), (wrap64 (2 * a0)), (by first | rfl | (simp; done) | (simp [*]; done)), (by first | rfl | (simp; done) | (simp [*]; done)), H', ⟨Nat.le_refl _⟩, ⟨by repeat (first | (with_reducible first | exact HB.out | apply kc1 | apply kc2 | apply kc3) | exact HB.out)⟩⟩
    case round =>
     clear H'
     try clear p2
     try clear c4
     try clear c6
     try clear p6
     try clear c7
     try clear c7b0
     try clear c8
     try clear p2
     obtain ⟨x8_2, x9_2, rfl, rfl, HA, HK2, HB⟩ := hrel
     cases gk with
     | zero => exact absurd HA.out (by simp [rate_Level.l0])
     | succ k2 =>
      have H := HA.out
      clear HA
      simp only [rate_Level.l0] at H
      by_cases c9 : x8_2 < x9_2
      ·rw [if_pos c9] at H
       have c9b0 : decide (x8_2 < x9_2) = true := decide_eq_true c9
       clear c9
       replace H := Option.bind_eq_some_iff.mp H
       obtain ⟨t251, A100, H⟩ := H
       replace H : (if t251 = true then (rate_Level.l0 k2 a0 a1 a2 x8_2 (wrap64 (x8_2 + (wrap64 (Int.tdiv (wrap64 (x9_2 - x8_2)) 2))))) else (rate_Level.l0 k2 a0 a1 a2 (wrap64 ((wrap64 (x8_2 + (wrap64 (Int.tdiv (wrap64 (x9_2 - x8_2)) 2)))) + 1)) x9_2)) = some (r1, r2) := H
       have A10 := ka A100
       clear A100
       by_cases c11 : t251 = true
       ·subst c11
        have H1 : (rate_Level.l0 k2 a0 a1 a2 x8_2 (wrap64 (x8_2 + (wrap64 (Int.tdiv (wrap64 (x9_2 - x8_2)) 2))))) = some (r1, r2) := by rw [if_pos rfl] at H; exact H
        clear H
        have H := H1
        clear H1
        have H' := ka H
        clear H
        go_wp2_with (first | ((with_reducible refine gate_callee (f := 57) rfl ?_); refine kg (some 39) rfl rfl Try.func57 (by kernel_rfl) rfl #[.int .i64 a0, .int .i64 a1, .int .i64 (wrap64 (x8_2 + (wrap64 (Int.tdiv (wrap64 (x9_2 - x8_2)) 2)))), .int .i64 a2] rfl ?_; (with_reducible refine (rate_pays_s.calls a0 a1 (wrap64 (x8_2 + (wrap64 (Int.tdiv (wrap64 (x9_2 - x8_2)) 2)))) a2 true _ A10.out).mono ?_); rintro e w12 ⟨rfl, hb⟩; refine ⟨_, rfl, ?_⟩; have n0_ := ka (below_step (kw HB.out) hb); clear HB; have HB := n0_; clear n0_; (try clear hb); (try clear hb2); (try clear hk); (try clear hi)))
        go_roundg k2
        case measure => have := HJ3.out; have := HK2.out; omega
        case rel => exact ⟨(x8_2), (wrap64 (x8_2 + (wrap64 (Int.tdiv (wrap64 (x9_2 - x8_2)) 2)))), (by first | rfl | (simp; done) | (simp [*]; done)), (by first | rfl | (simp; done) | (simp [*]; done)), H', ⟨by have := HJ3.out; have := HK2.out; omega⟩, ⟨by repeat (first | (with_reducible first | exact HB.out | apply kc1 | apply kc2 | apply kc3) | exact HB.out)⟩⟩
       ·replace c11 := Bool.eq_false_iff.mpr c11
        subst c11
        have H1 : (rate_Level.l0 k2 a0 a1 a2 (wrap64 ((wrap64 (x8_2 + (wrap64 (Int.tdiv (wrap64 (x9_2 - x8_2)) 2)))) + 1)) x9_2) = some (r1, r2) := by rw [if_neg (show ¬ (false = true) by decide)] at H; exact H
        clear H
        have H := H1
        clear H1
        have H' := ka H
        clear H
        go_wp2_with (first | ((with_reducible refine gate_callee (f := 57) rfl ?_); refine kg (some 39) rfl rfl Try.func57 (by kernel_rfl) rfl #[.int .i64 a0, .int .i64 a1, .int .i64 (wrap64 (x8_2 + (wrap64 (Int.tdiv (wrap64 (x9_2 - x8_2)) 2)))), .int .i64 a2] rfl ?_; (with_reducible refine (rate_pays_s.calls a0 a1 (wrap64 (x8_2 + (wrap64 (Int.tdiv (wrap64 (x9_2 - x8_2)) 2)))) a2 false _ A10.out).mono ?_); rintro e w13 ⟨rfl, hb⟩; refine ⟨_, rfl, ?_⟩; have n0_ := ka (below_step (kw HB.out) hb); clear HB; have HB := n0_; clear n0_; (try clear hb); (try clear hb2); (try clear hk); (try clear hi)))
        go_roundg k2
        case measure => have := HJ3.out; have := HK2.out; omega
        case rel => exact ⟨(wrap64 ((wrap64 (x8_2 + (wrap64 (Int.tdiv (wrap64 (x9_2 - x8_2)) 2)))) + 1)), (x9_2), (by first | rfl | (simp; done) | (simp [*]; done)), (by first | rfl | (simp; done) | (simp [*]; done)), H', ⟨by have := HJ3.out; have := HK2.out; omega⟩, ⟨by repeat (first | (with_reducible first | exact HB.out | apply kc1 | apply kc2 | apply kc3) | exact HB.out)⟩⟩
      ·rw [if_neg c9] at H
       have c9b0 : decide (x8_2 < x9_2) = false := decide_eq_false c9
       clear c9
       simp only [Option.some.injEq, Prod.mk.injEq] at H
       obtain ⟨rfl, rfl⟩ := H
       go_wp2
       go_ret2
       exact ⟨by first | rfl | (simp [errW_none, errW_some] <;> rfl) | (simp [*, errW_none, errW_some] <;> rfl), by repeat (first | (with_reducible first | exact HB.out | apply kc1 | apply kc2 | apply kc3) | exact HB.out)⟩

/-! ### rate_Level_s: function 46, told plainly -/
theorem rate_Level.loop (b r m : Int) (h : M.may b r) (hm0 : 0 ≤ m) (hm : m ≤ 480) : ∀ (n : Nat) (lo hi : Int), 0 ≤ lo → lo ≤ hi → hi ≤ 20000000000000 → hi - lo < 2 ^ n → ∀ k, n + 2 ≤ k →
  rate_Level.l0 k b r m lo hi = some (M.halve (M.pays m.toNat b r) n lo hi, none) := by
 intro n
 induction n with
 | zero =>
  intro lo hi h0 hlh hhi hn k hk
  obtain ⟨k, rfl⟩ : ∃ m, k = m + 1 := ⟨k - 1, by omega⟩
  simp only [rate_Level.l0, M.halve]
  rw [if_neg (by simp at hn; omega)]
 | succ n ih =>
  intro lo hi h0 hlh hhi hn k hk
  obtain ⟨k, rfl⟩ : ∃ m, k = m + 1 := ⟨k - 1, by omega⟩
  have hn' : (2 : Int) ^ (n + 1) = 2 * 2 ^ n := by rw [Int.pow_succ]; omega
  rw [hn'] at hn
  simp only [rate_Level.l0, M.halve]
  by_cases hlt : lo < hi
  ·rw [if_pos hlt, if_pos hlt, M.w64_id (n := hi - lo) (by omega) (by omega), M.tdivu (by omega), M.w64_id (n := (hi - lo) / 2) (by omega) (by omega), M.w64_id (n := lo + (hi - lo) / 2) (by omega) (by omega), M.w64_id (n := lo + (hi - lo) / 2 + 1) (by omega) (by omega)]
   unfold rate_pays_s.f
   rw [if_pos ⟨h, by omega, hm0, hm⟩, Option.bind_some]
   split
   ·exact ih lo _ h0 (by omega) (by omega) (by omega) k (by omega)
   ·exact ih _ hi (by omega) (by omega) hhi (by omega) k (by omega)
  ·rw [if_neg hlt, if_neg hlt]
theorem rate_Level.tells (b r m : Int) (k : Nat) (hk : 68 ≤ k) : rate_Level.f k b r m = some (if M.may b r ∧ 1 ≤ m ∧ m ≤ 480 then (M.level m.toNat b r, none) else (0, some 1)) := by
 obtain ⟨k, rfl⟩ : ∃ m, k = m + 1 := ⟨k - 1, by omega⟩
 have hm : rate_may.f b r = some (decide (M.may b r)) := by
  unfold rate_may.f M.may
  by_cases h1 : 0 ≤ b <;> by_cases h2 : b ≤ 10000000000000 <;> by_cases h3 : 0 ≤ r <;> simp [h1, h2, h3]
 unfold rate_Level.f
 rw [hm, Option.bind_some]
 by_cases h : M.may b r
 ·rw [if_pos (decide_eq_true h)]
  by_cases hm0 : m < 1
  ·rw [if_pos hm0, if_neg (by omega)]
   simp [rate_Level.j0]
  rw [if_neg hm0]
  by_cases hm4 : m > 480
  ·rw [decide_eq_true hm4, if_neg (by omega)]
   simp [rate_Level.j0]
  rw [decide_eq_false hm4, if_pos ⟨h, by omega, by omega⟩]
  simp only [rate_Level.j0]
  have hb := h.1
  have hb2 := h.2.1
  rw [if_neg (by decide), M.w64_id (n := 2 * b) (by omega) (by omega)]
  have hk64 : (2 : Int) ^ 64 = 18446744073709551616 := by decide
  exact rate_Level.loop b r m h (by omega) (by omega) 64 0 (2 * b) (by omega) (by omega) (by omega) (by rw [hk64]; omega) k (by omega)
 ·rw [if_neg (by simpa using h), if_neg (fun hh => h hh.1)]
  simp [rate_Level.j0]
def rate_Level_s.f (b r m : Int) : Option (Int × Option Int) := some (if M.may b r ∧ 1 ≤ m ∧ m ≤ 480 then (M.level m.toNat b r, none) else (0, some 1))
theorem rate_Level_s.calls (a0 : Int) (a1 : Int) (a2 : Int) (r1 : Int) (r2 : Option Int) (w : World) (h : rate_Level_s.f a0 a1 a2 = some (r1, r2)) :
  Calls Try.prog 46 #[.int .i64 a0, .int .i64 a1, .int .i64 a2] w fun e w' => e = .returned (.tuple #[.int .i64 r1, errW r2]) ∧ Below w.heap.size w w' :=
 rate_Level.calls 68 a0 a1 a2 r1 r2 w ((rate_Level.tells a0 a1 a2 68 (Nat.le_refl _)).trans h)
theorem rate_Level_s.yes {b r m : Int} (h : M.may b r ∧ 1 ≤ m ∧ m ≤ 480) : rate_Level_s.f b r m = some (M.level m.toNat b r, none) := by unfold rate_Level_s.f; rw [if_pos h]
theorem rate_Level_s.no {b r m : Int} (h : ¬ (M.may b r ∧ 1 ≤ m ∧ m ≤ 480)) : rate_Level_s.f b r m = some (0, some 1) := by unfold rate_Level_s.f; rw [if_neg h]

end Go.Proofs.Ytimobafoidplaaa.P
