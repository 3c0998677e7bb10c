/- The Go law WaterTwice answers true at all loans, days and two amounts: both at once come to the same as one behind the other. Conditions: none beyond the given statement's own. -/
import Derived.Test.YtimobafoidplaaaPx14
namespace Go.Proofs.Ytimobafoidplaaa.Pure
open Go.RowKit Go.Proofs.Ytimobafoidplaaa.P Go.Proofs.YtimobafoidplaaaW.PrintWords Go.Proofs.YtimobafoidplaaaW.PrintLast
set_option linter.unusedVariables false
set_option linter.unusedSimpArgs false
def Twice_acc (s : M.St) (n i p x : Int) : M.St := ⟨s.bal, s.du, s.cnt, s.sus, s.n + n, s.i + i, s.p + p, s.x + x⟩
def Twice_put (s : M.St) (d : Int) : M.St := ⟨s.bal, s.du, s.cnt, s.sus + d, s.n, s.i, s.p, s.x⟩
theorem Twice_pay_acc {r lvl e day : Int} (n i p x : Int) : ∀ (k : Nat) (s : M.St), M.pay r lvl e day k (Twice_acc s n i p x) = Twice_acc (M.pay r lvl e day k s) n i p x
  | 0, s => rfl
  | k + 1, s => by
    by_cases ht : M.takes r lvl e day s.bal s.du s.cnt s.sus
    · have st : M.step r lvl e (Twice_acc s n i p x) = Twice_acc (M.step r lvl e s) n i p x := by
        simp only [M.step, Twice_acc, M.St.mk.injEq, true_and]
        omega
      rw [M.pay_succ k ht, M.pay_succ (s := Twice_acc s n i p x) k ht, st, Twice_pay_acc n i p x k]
    · rw [M.pay_stop ht, M.pay_stop (s := Twice_acc s n i p x) ht]
theorem Twice_keeps {r lvl e day : Int} (he : 0 ≤ e) : ∀ (k : Nat) (s : M.St), M.ok r s → M.ok r (M.pay r lvl e day k s) ∧ (M.pay r lvl e day k s).sus ≤ s.sus ∧ s.cnt ≤ (M.pay r lvl e day k s).cnt
  | 0, s, h => ⟨h, Int.le_refl _, Int.le_refl _⟩
  | k + 1, s, h => by
    by_cases ht : M.takes r lvl e day s.bal s.du s.cnt s.sus
    · have ih := Twice_keeps (lvl := lvl) (day := day) he k (M.step r lvl e s) (M.step_ok he h ht)
      have al := M.all_nonneg (lvl := lvl) h.1 he
      rw [M.pay_succ k ht]
      refine ⟨ih.1, ?_, ?_⟩
      · have := ih.2.1
        simp only [M.step] at this ⊢
        omega
      · have := ih.2.2
        simp only [M.step] at this ⊢
        omega
    · rw [M.pay_stop ht]
      exact ⟨h, Int.le_refl _, Int.le_refl _⟩
theorem Twice_pay_put {r lvl e day d : Int} (he : 0 ≤ e) (hd : 0 ≤ d) : ∀ (k : Nat) (s : M.St), M.ok r s → s.sus + d ≤ 10000000000000 → (480 - s.cnt).toNat ≤ k → M.pay r lvl e day k (Twice_put s d) = M.pay r lvl e day k (Twice_put (M.pay r lvl e day k s) d)
  | 0, s, h, hs, hk => rfl
  | k + 1, s, h, hs, hk => by
    by_cases ht : M.takes r lvl e day s.bal s.du s.cnt s.sus
    · have al := M.all_nonneg (lvl := lvl) h.1 he
      have cn := ht.2.2.1
      have ht' : M.takes r lvl e day (Twice_put s d).bal (Twice_put s d).du (Twice_put s d).cnt (Twice_put s d).sus := ⟨ht.1, ht.2.1, ht.2.2.1, ht.2.2.2.1, by have := ht.2.2.2.2; simp only [Twice_put]; omega⟩
      have st : M.step r lvl e (Twice_put s d) = Twice_put (M.step r lvl e s) d := by
        simp only [M.step, Twice_put, M.St.mk.injEq, true_and, and_true]
        omega
      have k0 := Twice_keeps (lvl := lvl) (day := day) he k (M.step r lvl e s) (M.step_ok he h ht)
      have ih := Twice_pay_put (lvl := lvl) (day := day) he hd k (M.step r lvl e s) (M.step_ok he h ht) (by simp only [M.step]; omega) (by simp only [M.step]; omega)
      rw [M.pay_succ k ht, M.pay_succ k ht', st, ih]
      generalize M.pay r lvl e day k (M.step r lvl e s) = z at k0
      obtain ⟨⟨o1, o2, o3, o4, o5, o6⟩, z1, z2⟩ := k0
      simp only [M.step] at z1 z2
      exact (M.pay_more he k 1 (Twice_put z d) ⟨o1, o2, o3, o4, by simp only [Twice_put]; omega, by simp only [Twice_put]; omega⟩ (by simp only [Twice_put]; omega)).symm
    · rw [M.pay_stop ht]
theorem Twice_both {r lvl e day bal du cnt sus a b late : Int} {z1 z2 z3 : M.St} (he : 0 ≤ e) (ha : 0 ≤ a) (hb : 0 ≤ b) (hlate : 0 ≤ late) (h : M.ok r ⟨bal, du, cnt, sus + a, 0, 0, 0, 0⟩) (hs : sus + a + b ≤ 10000000000000)
    (e1 : z1 = M.pay r lvl e day 480 ⟨bal, du, cnt, sus + a, 0, 0, 0, 0⟩) (e2 : z2 = M.pay r lvl e day 480 ⟨z1.bal, z1.du, z1.cnt, z1.sus - M.lateOf z1 late day + b, 0, 0, 0, 0⟩) (e3 : z3 = M.pay r lvl e day 480 ⟨bal, du, cnt, sus + (a + b), 0, 0, 0, 0⟩) :
    z3.bal = z2.bal ∧ z3.du = z2.du ∧ z3.cnt = z2.cnt ∧ z3.sus - M.lateOf z3 late day = z2.sus - M.lateOf z2 (late - M.lateOf z1 late day) day ∧ M.lateOf z3 late day = M.lateOf z1 late day + M.lateOf z2 (late - M.lateOf z1 late day) day ∧ z3.n = z1.n + z2.n ∧ z3.i = z1.i + z2.i ∧ z3.p = z1.p + z2.p ∧ z3.x = z1.x + z2.x := by
  have cn := h.2.2.1
  have cn1 := h.2.2.2.1
  have k1 := Twice_keeps (lvl := lvl) (day := day) he 480 _ h
  have pp := Twice_pay_put (lvl := lvl) (day := day) he hb 480 _ h hs (by simp only [] at cn ⊢; omega)
  rw [← e1] at k1 pp
  rw [show Twice_put ⟨bal, du, cnt, sus + a, 0, 0, 0, 0⟩ b = ⟨bal, du, cnt, sus + (a + b), 0, 0, 0, 0⟩ by simp only [Twice_put, M.St.mk.injEq, true_and, and_true]; omega, ← e3] at pp
  have s1 := k1.1.2.2.2.2.1
  by_cases hc : M.cur z1.bal z1.du day
  · have n1 : ∀ s : M.St, s.bal = z1.bal → s.du = z1.du → ¬ M.takes r lvl e day s.bal s.du s.cnt s.sus := fun s q1 q2 ht => by
      rw [q1, q2] at ht
      exact hc.elim (fun q => ht.1 q) (fun q => by have := ht.2.1; omega)
    rw [M.pay_stop (n1 (Twice_put z1 b) rfl rfl)] at pp
    rw [M.pay_stop (n1 ⟨z1.bal, z1.du, z1.cnt, z1.sus - M.lateOf z1 late day + b, 0, 0, 0, 0⟩ rfl rfl)] at e2
    subst pp
    subst e2
    have l1 : M.lateOf z1 late day = M.least late z1.sus := if_pos hc
    have l2 : ∀ t, M.lateOf ⟨z1.bal, z1.du, z1.cnt, z1.sus - M.lateOf z1 late day + b, 0, 0, 0, 0⟩ t day = M.least t (z1.sus - M.lateOf z1 late day + b) := fun t => if_pos hc
    have l3 : M.lateOf (Twice_put z1 b) late day = M.least late (z1.sus + b) := if_pos hc
    rw [l2, l3, l1]
    simp only [Twice_put]
    refine ⟨trivial, trivial, trivial, ?_, ?_, by omega, by omega, by omega, by omega⟩
    · unfold M.least
      repeat' split
      all_goals omega
    · unfold M.least
      repeat' split
      all_goals omega
  · have l1 : M.lateOf z1 late day = 0 := if_neg hc
    rw [l1] at e2 ⊢
    have e4 : Twice_put z1 b = Twice_acc ⟨z1.bal, z1.du, z1.cnt, z1.sus - 0 + b, 0, 0, 0, 0⟩ z1.n z1.i z1.p z1.x := by
      simp only [Twice_put, Twice_acc, M.St.mk.injEq, true_and]
      omega
    rw [e4, Twice_pay_acc, ← e2] at pp
    subst pp
    have l3 : M.lateOf (Twice_acc z2 z1.n z1.i z1.p z1.x) late day = M.lateOf z2 late day := rfl
    rw [l3, Int.sub_zero]
    simp only [Twice_acc]
    refine ⟨trivial, trivial, trivial, trivial, by omega, by omega, by omega, by omega, by omega⟩
theorem WaterTwice_grow {r lvl e day : Int} (he : 0 ≤ e) : ∀ (k : Nat) (s : M.St), M.ok r s → s.n ≤ (M.pay r lvl e day k s).n ∧ s.i ≤ (M.pay r lvl e day k s).i ∧ s.p ≤ (M.pay r lvl e day k s).p ∧ s.x ≤ (M.pay r lvl e day k s).x
  | 0, s, h => by simp [M.pay]
  | k + 1, s, h => by
    by_cases ht : M.takes r lvl e day s.bal s.du s.cnt s.sus
    · have ih := WaterTwice_grow (lvl := lvl) (day := day) he k (M.step r lvl e s) (M.step_ok he h ht)
      have mo := M.month_nonneg h.1
      have pb := (M.prin_bd (lvl := lvl) h.1).1
      rw [M.pay_succ k ht]
      simp only [M.step] at ih ⊢
      omega
    · rw [M.pay_stop ht]
      omega
theorem WaterTwice : trivetlaw13_WaterTwice.Pure := by
  intro b r m f e i w fe g bal lvl du cnt sus late day a c hb hr hm hf he hi hw hfe hg h9 h10 h11 h12 h13 h14 hd hA hB
  have h : (M.In r ∧ M.In f ∧ M.In fe ∧ M.In du) ∧ M.In day := ⟨⟨M.in_of_wf hr, M.in_of_wf hf, M.in_of_wf hfe, M.in_of_wf h11⟩, M.in_of_wf hd⟩
  refine ⟨1, ?_⟩
  unfold trivetlaw13_WaterTwice.f trivetlaw13_up_s.f
  have hp := water_Pay_s.at_ (b := b) (r := r) (m := m) (f := f) (e := e) (i := i) (w := w) (fe := fe) (g := g) (bal := bal) (lvl := lvl) (du := du) (cnt := cnt) (sus := sus) (late := late) (day := day) (a := a) h
  rw [Option.bind_some]
  by_cases ha : M.askOk b r m f e i w fe g bal lvl du cnt sus late day a
  case neg =>
    rw [if_neg ha] at hp
    rw [hp, Option.bind_some, if_neg (by decide)]
    simp only [trivetlaw13_WaterTwice.j0]
    rw [if_pos trivial]
  rw [if_pos ha] at hp
  by_cases o1 : sus + a > 10000000000000
  case pos =>
    rw [if_pos o1] at hp
    rw [hp, Option.bind_some, if_neg (by decide)]
    simp only [trivetlaw13_WaterTwice.j0]
    rw [if_pos trivial]
  rw [if_neg o1] at hp
  unfold water_Pay_s.out at hp
  rw [hp, Option.bind_some, if_pos (show ((none : Option Int).isNone = true) from rfl)]
  have a0 := ha.2.2.1
  have a1 := ha.2.2.2
  rw [if_neg (show ¬ a < 1 by omega)]
  by_cases c0 : c < 1
  case pos =>
    rw [if_pos c0]
    simp only [trivetlaw13_WaterTwice.j0]
    rw [if_pos trivial]
  rw [if_neg c0, if_neg (show ¬ a > 10000000000000 by omega)]
  by_cases c1 : c > 10000000000000
  case pos =>
    rw [decide_eq_true c1]
    simp only [trivetlaw13_WaterTwice.j0]
    rw [if_pos trivial]
  rw [decide_eq_false c1]
  obtain ⟨t1, t2, t3, t4, t5, t6, t7, t8, t9⟩ := ha.1
  have mo := t1.2.1
  unfold M.moneyOk at mo
  have hr' := (M.terms_may t1).1.2.2
  have b0 := t3.1
  have b1 := t3.2
  have s0 := t8.1
  have s1 := t8.2
  have l0 := t9.1
  have l1 := t9.2
  have ok0 : M.ok r ⟨bal, du, cnt, sus + a, 0, 0, 0, 0⟩ := ⟨⟨b0, b1, hr'⟩, t2, t6, t7, by simp only []; omega, by simp only []; omega⟩
  obtain ⟨z1, e1⟩ : ∃ z, z = M.pay r lvl e day 480 ⟨bal, du, cnt, sus + a, 0, 0, 0, 0⟩ := ⟨_, rfl⟩
  rw [← e1]
  have g1 := Twice_keeps (lvl := lvl) (day := day) (e := e) (by omega) 480 _ ok0
  have v1 := M.pay_sum (r := r) (lvl := lvl) (e := e) (day := day) 480 ⟨bal, du, cnt, sus + a, 0, 0, 0, 0⟩
  rw [← e1] at g1 v1
  obtain ⟨⟨zm, zf, z3, z4, z5, z6⟩, _, _⟩ := g1
  have inD : M.In z1.du := by
    have := zf.1
    have := zf.2.1
    unfold M.In
    omega
  simp only [trivetlaw13_WaterTwice.j0]
  rw [if_neg (by decide), M.w64_id (n := a + c) (by omega) (by omega)]
  have hy' := water_Pay_s.at_ (b := b) (r := r) (m := m) (f := f) (e := e) (i := i) (w := w) (fe := fe) (g := g) (bal := z1.bal) (lvl := lvl) (du := z1.du) (cnt := z1.cnt) (sus := z1.sus - M.lateOf z1 late day) (late := late - M.lateOf z1 late day) (day := day) (a := c) ⟨⟨h.1.1, h.1.2.1, h.1.2.2.1, inD⟩, h.2⟩
  have hq := water_Pay_s.at_ (b := b) (r := r) (m := m) (f := f) (e := e) (i := i) (w := w) (fe := fe) (g := g) (bal := bal) (lvl := lvl) (du := du) (cnt := cnt) (sus := sus) (late := late) (day := day) (a := a + c) h
  by_cases hz : M.askOk b r m f e i w fe g bal lvl du cnt sus late day (a + c)
  case neg =>
    rw [if_neg hz] at hq
    rw [hy', Option.bind_some, hq, Option.bind_some, if_neg (by decide)]
  by_cases oz : sus + (a + c) > 10000000000000
  case pos =>
    rw [if_pos hz, if_pos oz] at hq
    rw [hy', Option.bind_some, hq, Option.bind_some, if_neg (by decide)]
  rw [if_pos hz, if_neg oz] at hq
  unfold water_Pay_s.out at hq
  by_cases hy : M.askOk b r m f e i w fe g z1.bal lvl z1.du z1.cnt (z1.sus - M.lateOf z1 late day) (late - M.lateOf z1 late day) day c
  case neg =>
    rw [if_neg hy] at hy'
    rw [hy', Option.bind_some, hq, Option.bind_some, if_pos (show ((none : Option Int).isNone = true) from rfl), if_neg (by decide)]
  by_cases oy : z1.sus - M.lateOf z1 late day + c > 10000000000000
  case pos =>
    rw [if_pos hy, if_pos oy] at hy'
    rw [hy', Option.bind_some, hq, Option.bind_some, if_pos (show ((none : Option Int).isNone = true) from rfl), if_neg (by decide)]
  rw [if_pos hy, if_neg oy] at hy'
  unfold water_Pay_s.out at hy'
  obtain ⟨z2, e2⟩ : ∃ z, z = M.pay r lvl e day 480 ⟨z1.bal, z1.du, z1.cnt, z1.sus - M.lateOf z1 late day + c, 0, 0, 0, 0⟩ := ⟨_, rfl⟩
  obtain ⟨z0, e3⟩ : ∃ z, z = M.pay r lvl e day 480 ⟨bal, du, cnt, sus + (a + c), 0, 0, 0, 0⟩ := ⟨_, rfl⟩
  have tw := Twice_both (lvl := lvl) (day := day) (e := e) (late := late) (by omega) (by omega) (show 0 ≤ c by omega) l0 ok0 (by omega) e1 e2 e3
  have ok2 : M.ok r ⟨z1.bal, z1.du, z1.cnt, z1.sus - M.lateOf z1 late day + c, 0, 0, 0, 0⟩ := ⟨zm, zf, z3, z4, by have := hy.1.2.2.2.2.2.2.2.1.1; simp only []; omega, by simp only []; omega⟩
  have ok3 : M.ok r ⟨bal, du, cnt, sus + (a + c), 0, 0, 0, 0⟩ := ⟨⟨b0, b1, hr'⟩, t2, t6, t7, by simp only []; omega, by simp only []; omega⟩
  have g3 := WaterTwice_grow (lvl := lvl) (e := e) (day := day) (by omega) 480 _ ok3
  have v3 := M.pay_sum (r := r) (lvl := lvl) (e := e) (day := day) 480 ⟨bal, du, cnt, sus + (a + c), 0, 0, 0, 0⟩
  have k3 := (Twice_keeps (lvl := lvl) (day := day) (e := e) (by omega) 480 _ ok3)
  rw [← e3] at g3 v3 k3
  rw [← e2] at hy'
  rw [← e3] at hq
  simp only [] at v3 g3
  obtain ⟨w1, w2, w3, w4, w5, w6, w7, w8, w9⟩ := tw
  have k3s := k3.1.2.2.2.2.1
  have k3c := k3.1.2.2.2.1
  have k3d := k3.1.2.2.1
  have lb : 0 ≤ M.lateOf z0 late day ∧ M.lateOf z0 late day ≤ late := by
    unfold M.lateOf M.least
    split
    · split <;> omega
    · omega
  have q1 : wrap64 (z1.n + z2.n) = z0.n := by rw [M.w64_id (n := z1.n + z2.n) (by omega) (by omega)]; omega
  have q2 : wrap64 (z1.i + z2.i) = z0.i := by rw [M.w64_id (n := z1.i + z2.i) (by omega) (by omega)]; omega
  have q3 : wrap64 (z1.p + z2.p) = z0.p := by rw [M.w64_id (n := z1.p + z2.p) (by omega) (by omega)]; omega
  have q4 : wrap64 (z1.x + z2.x) = z0.x := by rw [M.w64_id (n := z1.x + z2.x) (by omega) (by omega)]; omega
  have q5 : wrap64 (M.lateOf z1 late day + M.lateOf z2 (late - M.lateOf z1 late day) day) = M.lateOf z0 late day := by rw [← w5, M.w64_id (n := M.lateOf z0 late day) (by omega) (by omega)]
  have q6 : late - M.lateOf z1 late day - M.lateOf z2 (late - M.lateOf z1 late day) day = late - M.lateOf z0 late day := by omega
  rw [hy', Option.bind_some, hq, Option.bind_some, if_pos (show ((none : Option Int).isNone = true) from rfl), if_pos (show ((none : Option Int).isNone = true) from rfl)]
  simp only []
  rw [q1, q2, q3, q4, q5, q6, w1, w2, w3, w4]
  simp

end Go.Proofs.Ytimobafoidplaaa.Pure
