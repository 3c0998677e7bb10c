-- Written by a program of this session out of the translation of the seat: Lean functions and the proofs that the Go functions come to them.
import Derived.Test.YtcpmfdagnchlbaaPx0
import Derived.Test.YtcpmfdagnchlbaaPx5
namespace Go.Proofs.Ytcpmfdagnchlbaa.P
open Go.RowKit Go.Proofs.YtcpmfdagnchlbaaW.PrintWords Go.Proofs.YtcpmfdagnchlbaaW.PrintLast Go.Proofs.YtcpmfdagnchlbaaW.PrintMore
attribute [local go_sem] max2_int min2_int max_two min_two max_three min_three max_four min_four   -- for this text's walks alone
set_option linter.unusedVariables false
set_option linter.unusedSimpArgs false

/-! ### trivetref01_Mul: function 14, its laws -/
theorem trivetref01_Mul.row (n : Nat) : ∀ (k : Nat) (a b out row : List Int) (c : Int) (i j : Nat) (am bm : Bool), U.Dg a → U.Dg b → U.Dg row → 0 ≤ c ∧ c < 65536 → i < a.length → a.length ≤ 1000 → b.length = j + n → b.length ≤ 1000 → row.length = i + j →
  ∃ row', trivetref01_Mul.l1 (k + n + 1) out i row c j a am b bm = (trivetref01_plus.f k out row').bind (fun t => trivetref01_Mul.l0 k t ((i + 1 : Nat) : Int) a am b bm) ∧ U.Dg row' ∧ U.val row' = U.val row + 65536 ^ (i + j) * (c + a.getD i 0 * U.val (b.drop j)) ∧ row'.length = i + b.length + 1 := by
 induction n with
 | zero =>
  intro k a b out row c i j am bm ha hb hr hc hi la lb lb2 hl
  refine ⟨row ++ [c], ?_, hr.add (U.Dg.one hc), ?_, by simp; omega⟩
  ·rw [Nat.add_zero]
   simp only [trivetref01_Mul.l1]
   rw [if_neg (by omega), if_pos (by omega), M.w64_id (n := (i : Int) + 1) (by omega) (by omega)]
   rfl
  ·rw [U.val_append, U.val_one, hl, List.drop_eq_nil_of_le (by omega)]
   simp [U.val]
 | succ n ih =>
  intro k a b out row c i j am bm ha hb hr hc hi la lb lb2 hl
  have ga := ha.get i
  have gb := hb.get j
  have hp0 : 0 ≤ a.getD i 0 * b.getD j 0 := Int.mul_nonneg ga.1 gb.1
  have hp1 : a.getD i 0 * b.getD j 0 ≤ 65535 * 65535 := Int.mul_le_mul (by omega) (by omega) gb.1 (by decide)
  have ih' := fun q r => ih k a b out (row ++ [r]) q i (j + 1) am bm ha hb
  have e : trivetref01_Mul.l1 (k + (n + 1) + 1) out i row c j a am b bm = trivetref01_Mul.l1 (k + n + 1) out i (row ++ [(a.getD i 0 * b.getD j 0 + c) % 65536]) ((a.getD i 0 * b.getD j 0 + c) / 65536) ((j + 1 : Nat) : Int) a am b bm := by
   have ra : rd a (i : Int) = a.getD i 0 := rfl
   have rb : rd b (j : Int) = b.getD j 0 := rfl
   rw [show k + (n + 1) + 1 = (k + n + 1) + 1 by omega]
   conv => lhs; simp only [trivetref01_Mul.l1]
   rw [if_pos (by omega), if_pos (by omega), if_pos (by omega), if_pos (by omega), if_pos (by omega), ra, rb]
   generalize a.getD i 0 * b.getD j 0 = p at *
   rw [M.wrapu_id (n := p) (by omega) (by omega), M.wrapu_id (n := p + c) (by omega) (by omega), M.tdivu (show 0 ≤ p + c by omega), M.tmodu (show 0 ≤ p + c by omega), M.wrapu_id (n := (p + c) / 65536) (by omega) (by omega), M.w64_id (n := (j : Int) + 1) (by omega) (by omega)]
   rfl
  obtain ⟨row', r1, r2, r3, r4⟩ := ih' ((a.getD i 0 * b.getD j 0 + c) / 65536) ((a.getD i 0 * b.getD j 0 + c) % 65536) (hr.add (U.Dg.one (by omega))) (by omega) hi la (by omega) lb2 (by simp; omega)
  refine ⟨row', by rw [e, r1], r2, ?_, r4⟩
  rw [r3, U.val_append, U.val_one, hl, show i + (j + 1) = (i + j) + 1 by omega, U.pow_succ, U.drop_step b j, Int.mul_add (a.getD i 0)]
  generalize a.getD i 0 * b.getD j 0 = p at *
  have hm : a.getD i 0 * (65536 * U.val (b.drop (j + 1))) = 65536 * (a.getD i 0 * U.val (b.drop (j + 1))) := by rw [← Int.mul_assoc, Int.mul_comm _ 65536, Int.mul_assoc]
  rw [hm]
  generalize a.getD i 0 * U.val (b.drop (j + 1)) = u
  have : c + (p + 65536 * u) = (p + c) % 65536 + 65536 * ((p + c) / 65536 + u) := by omega
  rw [this]
  generalize (p + c) % 65536 = r
  generalize (p + c) / 65536 + u = s
  generalize (65536 : Int) ^ (i + j) = z
  rw [Int.mul_add, Int.mul_comm 65536 z, Int.mul_assoc, Int.add_assoc]
theorem trivetref01_Mul.loop (n : Nat) : ∀ (k : Nat) (a b out : List Int) (i : Nat) (am bm : Bool), U.Dg a → U.Dg b → U.Dg out → a.length = i + n → a.length ≤ 100 → b.length ≤ 100 → out.length ≤ i + b.length + 1 → n * 110 + 2000 ≤ k →
  ∃ d, trivetref01_Mul.l0 k out i a am b bm = trivetref01_norm.f (k - 1 - n * (b.length + 2)) d (!(am == bm)) ∧ U.Dg d ∧ U.val d = U.val out + 65536 ^ i * (U.val (a.drop i) * U.val b) ∧ d.length ≤ a.length + b.length + 1 := by
 induction n with
 | zero =>
  intro k a b out i am bm ha hb ho la la2 lb lo hk
  obtain ⟨j, rfl⟩ : ∃ j, k = j + 1 := ⟨k - 1, by omega⟩
  refine ⟨out, ?_, ho, ?_, by omega⟩
  ·simp only [trivetref01_Mul.l0]
   rw [if_neg (by omega), show j + 1 - 1 - 0 * (b.length + 2) = j by omega]
   cases trivetref01_norm.f j out (!(am == bm)) <;> rfl
  ·rw [List.drop_eq_nil_of_le (by omega)]; simp [U.val]
 | succ n ih =>
  intro k a b out i am bm ha hb ho la la2 lb lo hk
  obtain ⟨j, rfl⟩ : ∃ j, k = (j + b.length + 1) + 1 := ⟨k - b.length - 2, by omega⟩
  obtain ⟨row, r1, r2, r3, r4⟩ := trivetref01_Mul.row b.length j a b out (List.replicate i 0) 0 i 0 am bm ha hb (U.Dg.zeros i) (by decide) (by omega) (by omega) (by omega) (by omega) (by simp)
  obtain ⟨t, t1, t2, t3, t4⟩ := trivetref01_plus.num j out row ho r2 (by omega) (by omega) (by omega)
  obtain ⟨d, d1, d2, d3, d4⟩ := ih j a b t (i + 1) am bm ha hb t2 (by omega) la2 lb (by omega) (by omega)
  have r1' : trivetref01_Mul.l1 (j + b.length + 1) out i (List.replicate i 0) 0 0 a am b bm = _ := r1
  refine ⟨d, ?_, d2, ?_, d4⟩
  ·conv => lhs; simp only [trivetref01_Mul.l0]
   rw [if_pos (by omega), if_pos (by omega), if_pos (by omega), show ((i : Int)).toNat = i from rfl, r1', t1, Option.bind_some, d1]
   congr 1
   rw [Nat.add_mul]
   omega
  ·rw [d3, t3, r3, U.val_zeros, U.drop_step a i, U.pow_succ]
   simp only [Nat.add_zero, Int.zero_add, List.drop_zero]
   generalize a.getD i 0 = x
   generalize U.val (a.drop (i + 1)) = u
   generalize U.val b = v
   generalize (65536 : Int) ^ i = p
   rw [Int.add_mul, Int.mul_add, Int.add_assoc, Int.mul_comm 65536 p, Int.mul_assoc p 65536, Int.mul_assoc 65536 u]
theorem trivetref01_Mul.num (k : Nat) (x y : Int) (hx : M.abs x < 65536 ^ 32) (hy : M.abs y < 65536 ^ 32) (hk : 6000 ≤ k) : trivetref01_Mul.f k (U.num x).1 (U.num x).2 (U.num y).1 (U.num y).2 = some (U.num (x * y)) := by
 have lx := U.len_dig 32 _ hx
 have ly := U.len_dig 32 _ hy
 have x0 := U.abs_nonneg x
 have y0 := U.abs_nonneg y
 have vx := U.val_dig x0
 have vy := U.val_dig y0
 have hmul : (U.dig (M.abs x)).length * ((U.dig (M.abs y)).length + 2) ≤ 32 * 34 := Nat.mul_le_mul lx (by omega)
 obtain ⟨d, d1, d2, d3, d4⟩ := trivetref01_Mul.loop (U.dig (M.abs x)).length k (U.dig (M.abs x)) (U.dig (M.abs y)) [] 0 (decide (x < 0)) (decide (y < 0)) (U.dig_dg _) (U.dig_dg _) U.Dg.nil (by omega) (by omega) (by omega) (by simp) (by omega)
 have d1' : trivetref01_Mul.l0 k [] 0 (U.dig (M.abs x)) (decide (x < 0)) (U.dig (M.abs y)) (decide (y < 0)) = _ := d1
 show trivetref01_Mul.f k (U.dig (M.abs x)) (decide (x < 0)) (U.dig (M.abs y)) (decide (y < 0)) = _
 unfold trivetref01_Mul.f
 rw [d1', trivetref01_norm.num _ d _ (x * y) d2 (by omega) (by omega)]
 ·rw [d3, List.drop_zero, vx, vy]
  unfold M.abs
  by_cases c : x < 0 <;> by_cases c2 : y < 0 <;> simp [c, c2, U.val, Int.neg_mul, Int.mul_neg]

/-! ### trivetref01_Of: function 15 -/
mutual
def trivetref01_Of.j0 : Nat → Int → Int → Option (List Int × Bool)
 | 0, _, _ => none
 | k + 1, x0, x3 => trivetref01_Of.l0 k x0 x3 ([] : List Int) 0
def trivetref01_Of.l0 : Nat → Int → Int → List Int → Int → Option (List Int × Bool)
 | 0, _, _, _, _ => none
 | k + 1, x0, x3, x4, x5 => if x5 < 4 then (if x4.length < 17592186044416 then (trivetref01_Of.l0 k x0 (IntKind.u64.wrap (Int.tdiv x3 65536)) (x4 ++ [Int.tmod x3 65536]) (wrap64 (x5 + 1))) else (none)) else ((trivetref01_norm.f k x4 (decide (x0 < 0))).bind fun bt183 => (some (bt183.1, bt183.2)))
end
def trivetref01_Of.f (k : Nat) (a0 : Int) : Option (List Int × Bool) := if a0 < 0 then (trivetref01_Of.j0 k a0 (IntKind.u64.wrap ((Go.bits .xor .u64 18446744073709551615 (IntKind.u64.wrap (a0))) + 1))) else (trivetref01_Of.j0 k a0 (IntKind.u64.wrap (a0)))
theorem trivetref01_Of.mono_l : ∀ k, (∀ y0 y1, LeO (trivetref01_Of.j0 k y0 y1) (trivetref01_Of.j0 (k + 1) y0 y1)) ∧ (∀ y0 y1 y2 y3, LeO (trivetref01_Of.l0 k y0 y1 y2 y3) (trivetref01_Of.l0 (k + 1) y0 y1 y2 y3))
 | 0 => ⟨fun _ _ r h => by simp [trivetref01_Of.j0] at h, fun _ _ _ _ r h => by simp [trivetref01_Of.l0] at h⟩
 | k + 1 => by
  obtain ⟨ih0, ih1⟩ := trivetref01_Of.mono_l k
  refine ⟨?_, ?_⟩
  ·intro y0 y1
   unfold trivetref01_Of.j0
   repeat' first
   | (with_reducible exact ih0 _ _)
   | (with_reducible exact ih1 _ _ _ _)
   | (with_reducible exact trivetref01_norm.mono _ _ _)
   | (with_reducible exact LeO.refl _)
   | (with_reducible exact LeO.none _)
   | (with_reducible refine LeO.ite ?_ ?_)
   | (with_reducible refine LeO.bind ?_ (fun _ => ?_))
   | exact ih0 _ _
   | exact ih1 _ _ _ _
   | exact trivetref01_norm.mono _ _ _
   | exact LeO.none _
   | refine LeO.ite ?_ ?_
   | refine LeO.bind ?_ (fun _ => ?_)
  ·intro y0 y1 y2 y3
   unfold trivetref01_Of.l0
   repeat' first
   | (with_reducible exact ih0 _ _)
   | (with_reducible exact ih1 _ _ _ _)
   | (with_reducible exact trivetref01_norm.mono _ _ _)
   | (with_reducible exact LeO.refl _)
   | (with_reducible exact LeO.none _)
   | (with_reducible refine LeO.ite ?_ ?_)
   | (with_reducible refine LeO.bind ?_ (fun _ => ?_))
   | exact ih0 _ _
   | exact ih1 _ _ _ _
   | exact trivetref01_norm.mono _ _ _
   | exact LeO.none _
   | refine LeO.ite ?_ ?_
   | refine LeO.bind ?_ (fun _ => ?_)
theorem trivetref01_Of.mono : ∀ a0 k, LeO (trivetref01_Of.f k a0) (trivetref01_Of.f (k + 1) a0) := by
 intro a0 k
 obtain ⟨ih0, ih1⟩ := trivetref01_Of.mono_l k
 unfold trivetref01_Of.f
 repeat' first
   | (with_reducible exact ih0 _ _)
   | (with_reducible exact ih1 _ _ _ _)
   | (with_reducible exact trivetref01_norm.mono _ _ _)
   | (with_reducible exact LeO.refl _)
   | (with_reducible exact LeO.none _)
   | (with_reducible refine LeO.ite ?_ ?_)
   | (with_reducible refine LeO.bind ?_ (fun _ => ?_))
   | exact ih0 _ _
   | exact ih1 _ _ _ _
   | exact trivetref01_norm.mono _ _ _
   | exact LeO.none _
   | refine LeO.ite ?_ ?_
   | refine LeO.bind ?_ (fun _ => ?_)
set_option maxHeartbeats 8000000 in
set_option maxRecDepth 100000 in
theorem trivetref01_Of.calls (k : Nat) (a0 : Int) (r1 : List Int) (r2 : Bool) (w : World) (h : trivetref01_Of.f k a0 = some (r1, r2)) :
  Calls Try.prog 15 #[.int .i64 a0] w fun e w' => ∃ v0_ : Value, e = .returned (.agg #[v0_, .bool r2]) ∧ Kd.V (Kd.int .u64) 42 w' w.heap.size (fun k_ => (w.heap.size ≤ k_)) v0_ r1 ∧ Below w.heap.size w w' := by
 have hu34 := Try.underlying34
 have HB := ka (Below.refl w.heap.size w)
 have H : (if a0 < 0 then (trivetref01_Of.j0 k a0 (IntKind.u64.wrap ((Go.bits .xor .u64 18446744073709551615 (IntKind.u64.wrap (a0))) + 1))) else (trivetref01_Of.j0 k a0 (IntKind.u64.wrap (a0)))) = some (r1, r2) := h
 clear h
 have HC2 := ka H
 clear H
 go_enter Try.func15, Try.ntmps15
 go_upto_if 9 with (first | ((with_reducible refine gate_dst (N := 2) rfl ?_); refine kx (N := 2) (cs := #[.slice none 0 0, .bool false]) (t := 34) ?_; intro gb179 hg w3 hbox hb; have n0_ := ka (below_step (kw HB.out) hb); have n1_ := ka (hbox); have n2_ := ka ((by rw [hg]; exact (below_size (kw HB.out)) : w.heap.size ≤ gb179)); have n3_ := n2_; clear HB; have HB := n0_; have BK179 := n1_; have GW179 := n2_; have GE179 := n3_; clear n0_ n1_ n2_ n3_; clear hb hbox hg))
 (try simp only [Act.put, List.setIfInBounds_toArray, List.set_cons_zero, List.set_cons_succ])
 go_cut [3] (fun v3 wc => ∃ (kq : Nat) (x3_1 : Int), v3 = .int .u64 x3_1 ∧ Aside0 (trivetref01_Of.j0 kq a0 x3_1 = some (r1, r2)) ∧ Aside0 (kq ≤ k) ∧ Aside0 (wc.heap[gb179]? = some (.cells #[(.slice none 0 0), .bool false] 34 (0, 0))) ∧ Aside0 (Below w.heap.size w wc))
 case first =>
  have H := HC2.out
  clear HC2
  by_cases c4 : a0 < 0
  ·rw [if_pos c4] at H
   have c4b0 : decide (a0 < 0) = true := decide_eq_true c4
   clear c4
   (first | rw [c4b0] | (simp only [i64_w, i32_w]; rw [c4b0]) | skip)
   have H' := ka H
   clear H
   go_wp2
   go_meet
   case rel => exact ⟨_, (IntKind.u64.wrap ((Go.bits .xor .u64 18446744073709551615 (IntKind.u64.wrap (a0))) + 1)), (by first | rfl | (simp; done) | (simp [*]; done)), H', ⟨by first | omega | exact Nat.le_refl _⟩, ⟨by (with_reducible repeat (first | apply kb1 | apply kb2 | apply kb3)); exact BK179.out⟩, ⟨by repeat (first | (with_reducible first | exact HB.out | apply kc1 | apply kc2 | apply kc3 | refine kc4 ?_ GE179.out) | exact HB.out)⟩⟩
  ·rw [if_neg c4] at H
   have c4b0 : decide (a0 < 0) = false := decide_eq_false c4
   clear c4
   (first | rw [c4b0] | (simp only [i64_w, i32_w]; rw [c4b0]) | skip)
   have H' := ka H
   clear H
   go_wp2
   go_meet
   case rel => exact ⟨_, (IntKind.u64.wrap (a0)), (by first | rfl | (simp; done) | (simp [*]; done)), H', ⟨by first | omega | exact Nat.le_refl _⟩, ⟨by (with_reducible repeat (first | apply kb1 | apply kb2 | apply kb3)); exact BK179.out⟩, ⟨by repeat (first | (with_reducible first | exact HB.out | apply kc1 | apply kc2 | apply kc3 | refine kc4 ?_ GE179.out) | exact HB.out)⟩⟩
 case rest =>
  clear HC2
  try clear c1
  try clear p2
  try clear c4
  try clear c4b0
  obtain ⟨kq, x3_1, rfl, HA, HJ1, BK179, HB⟩ := hcut
  cases kq with
  | zero => exact absurd HA.out (by simp [trivetref01_Of.j0])
  | succ kj1 =>
   have H := HA.out
   clear HA
   simp only [trivetref01_Of.j0] at H
   have H' := ka H
   clear H
   go_wp2
   (try simp only [Act.put, List.setIfInBounds_toArray, List.set_cons_zero, List.set_cons_succ])
   go_loopg [3, 4, 5] kj1 (fun kq v3 v4 v5 w' => ∃ (x3_2 : Int) (x4_2 : List Int) (x5_2 : Int), v3 = .int .u64 x3_2 ∧ v5 = .int .i64 x5_2 ∧ Aside0 (trivetref01_Of.l0 kq a0 x3_2 x4_2 x5_2 = some (r1, r2)) ∧ Aside0 (kq ≤ kj1) ∧ Aside0 (Kd.R (Kd.int .u64) 42 w' w.heap.size (fun k_ => (w.heap.size ≤ k_)) v4 x4_2) ∧ Aside0 (w'.heap[gb179]? = some (.cells #[(.slice none 0 0), .bool false] 34 (0, 0))) ∧ Aside0 (Below w.heap.size w w'))
   case atStart => exact ⟨(x3_1), (([] : List Int)), (0), (by first | rfl | (simp; done) | (simp [*]; done)), (by first | rfl | (simp; done) | (simp [*]; done)), H', ⟨Nat.le_refl _⟩, ⟨by first | exact Kd.R_nil _ _ _ _ _ | exact Kd.N_nil _ _ _ _ _ | exact Kd.V_nil _ _ _ _ _ | exact Kd.Q_nil _ _ _ _ _ | exact Kd.S_nil _ _ _ _ _⟩, ⟨by (with_reducible repeat (first | apply kb1 | apply kb2 | apply kb3)); exact BK179.out⟩, ⟨by repeat (first | (with_reducible first | exact HB.out | apply kc1 | apply kc2 | apply kc3 | refine kc4 ?_ GE179.out) | exact HB.out)⟩⟩
   case round =>
    clear H'
    try clear c1
    try clear p2
    try clear c4
    try clear c4b0
    try clear p2
    obtain ⟨x3_2, x4_2, x5_2, rfl, rfl, HA, HK2, HO_4, BK179, HB⟩ := hrel
    cases gk with
    | zero => exact absurd HA.out (by simp [trivetref01_Of.l0])
    | succ k2 =>
     have H := HA.out
     clear HA
     simp only [trivetref01_Of.l0] at H
     by_cases c5 : x5_2 < 4
     ·rw [if_pos c5] at H
      have c5b0 : decide (x5_2 < 4) = true := decide_eq_true c5
      clear c5
      by_cases c6 : x4_2.length < 17592186044416
      ·rw [if_pos c6] at H
       have LMc6 := ka c6
       clear c6
       obtain ⟨y180, hy180⟩ : ∃ y_ : List Int, y_ = (x4_2 ++ [Int.tmod x3_2 65536]) := ⟨_, rfl⟩
       replace H : (trivetref01_Of.l0 k2 a0 (IntKind.u64.wrap (Int.tdiv x3_2 65536)) y180 (wrap64 (x5_2 + 1))) = some (r1, r2) := by first | (rw [hy180]; with_reducible exact H) | (have H2_ := (Option.bind_some _ _).symm.trans H; rw [hy180]; with_reducible exact H2_) | (have H2_ := (Option.bind_some _ _).symm.trans H; with_reducible exact H2_) | with_reducible exact H | (rw [hy180]; exact H) | exact H
       have Ny180 := ka hy180
       clear hy180
       have H' := ka H
       clear H
       go_wp2_with (first | ((with_reducible refine gate_builtin (b := .append) (xs := #[.tmp 17, .tmp 20]) rfl ?_); at_builtin; refine Kd.R_append (Kd.int .u64) (w0 := w) w.heap.size rfl (.tmp 17) (.tmp 20) 32 42 (.int .u64 0) 8 rfl Try.underlying32 info42 rfl (by decide) (by omega) u4 x4_2 (Int.tmod x3_2 65536) [.int .u64 (Int.tmod x3_2 65536)] (fun k_ => (w.heap.size ≤ k_)) (fun _ => False) rfl rfl ?aP (fun _ hk => hk.elim) ?aF ?aO ?aB ?aS ?aL ?_; (case aP => exact rfl); (case aB => exact (kw HB.out)); (case aF => exact (fun k_ hk => (Nat.le_trans (below_size (kw HB.out)) hk))); (case aO => exact (kr HO_4.out)); (case aS => exact (below_size (kw HB.out))); (case aL => have := LMc6.out; omega); intro v181 w7 ho hb hg hat; rw [← Ny180.out] at ho; replace BK179 := ka (blk_grown (g := gb179) (kz BK179.out) hg (Kd.R_ne HO_4.out BK179.out (by decide))); replace HB := ka (hb); have HO182 := ka (ho); clear HO_4; clear ho hb hg hat))
       go_roundg k2
       case measure => have := HJ1.out; have := HK2.out; omega
       case rel => exact ⟨(IntKind.u64.wrap (Int.tdiv x3_2 65536)), (y180), (wrap64 (x5_2 + 1)), (by first | rfl | (simp; done) | (simp [*]; done)), (by first | rfl | (simp; done) | (simp [*]; done)), H', ⟨by have := HJ1.out; have := HK2.out; omega⟩, ⟨kr HO182.out⟩, ⟨by (with_reducible repeat (first | apply kb1 | apply kb2 | apply kb3)); exact BK179.out⟩, ⟨by repeat (first | (with_reducible first | exact HB.out | apply kc1 | apply kc2 | apply kc3 | refine kc4 ?_ GE179.out) | exact HB.out)⟩⟩
      ·rw [if_neg c6] at H
       exact absurd H (by simp)
     ·rw [if_neg c5] at H
      have c5b0 : decide (x5_2 < 4) = false := decide_eq_false c5
      clear c5
      replace H := Option.bind_eq_some_iff.mp H
      obtain ⟨⟨t183, t186⟩, A80, H⟩ := H
      replace H : (some (t183, t186)) = some (r1, r2) := H
      have A8 := ka A80
      clear A80
      simp only [Option.some.injEq, Prod.mk.injEq] at H
      obtain ⟨rfl, rfl⟩ := H
      obtain ⟨Ao9, co9, eo9⟩ := Kd.R_slice HO_4.out
      subst eo9
      go_wp2_with (first | ((with_reducible refine gate_callee (f := 28) rfl ?_); refine kg (some 27) rfl rfl Try.func28 (by kernel_rfl) rfl #[.slice Ao9 x4_2.length co9, .bool (decide (a0 < 0))] rfl ?_; (with_reducible refine (trivetref01_norm.calls k2 (fun k_ => some k_ = (.slice Ao9 x4_2.length co9 : Value).ownBlock) _ _ x4_2 (decide (a0 < 0)) t183 t186 _ ?side1 A8.out).mono ?_); (case side1 => exact Kd.R_V (Kd.R_tight rfl (Kd.R_types (HO_4.out) BK179.out (by decide)))); rintro e w10 ⟨v184, rfl, ho0, hb⟩; refine ⟨_, rfl, ?_⟩; have HO185 := ka (Kd.V_lower (Kd.V_mono (ok' := fun k_ => (w.heap.size ≤ k_) ∧ k_ ≠ gb179) ho0 (fun k_ hk_ => ⟨Or.elim hk_ (fun hs_ => ((Kd.R_types (HO_4.out) BK179.out (by decide)).1 k_ hs_.symm).1) (fun hn_ => (Nat.le_trans (below_size (kw HB.out)) hn_)), Or.elim hk_ (fun hs_ => ((Kd.R_types (HO_4.out) BK179.out (by decide)).1 k_ hs_.symm).2) (fun hn_ => (kf BK179 hn_))⟩)) (below_size (kw HB.out))); replace HO_4 := ka (Kd.R_below (kr HO_4.out) hb); replace BK179 := kbb BK179 hb; replace HB := ka (below_step (kw HB.out) hb); (try clear hb); (try clear hb2); (try clear hk); (try clear hi); (try clear ho0); obtain ⟨Ao11, co11, eo11⟩ := Kd.V_slice HO185.out; subst eo11; have hcz12 := blkAll2 BK179.out))
      refine bodyPost_ret (results_cell_row rfl _ _ gb179 34 #[.slice Ao11 t183.length co11, .bool t186] (0, 0) _ rfl (by (with_reducible repeat (first | apply kb1 | apply kb2 | apply kb3 | apply blkPut2_1 | apply blkPut2_0)); exact BK179.out) Try.underlying34 rfl (by kernel_rfl)) rfl ?_
      exact ⟨_, by first | rfl | (simp [errW_none, errW_some] <;> rfl) | (simp [*, errW_none, errW_some] <;> rfl), by (with_reducible repeat (first | apply Kd.V_alloc | apply Kd.V_drewN | apply Kd.V_drew)); exact Kd.V_mono (Kd.V_far (p := ⟨gb179, 1, none⟩) (Kd.V_far (p := ⟨gb179, 0, none⟩) (Kd.V_mono HO185.out (fun k_ hk => (⟨hk, hk.2⟩ : _ ∧ k_ ≠ gb179))) (fun _ hk => hk.2) (.slice Ao11 t183.length co11)) (fun _ hk => hk.2) (.bool t186)) (fun _ hk => hk.1.1), by repeat (first | (with_reducible first | exact HB.out | apply kc1 | apply kc2 | apply kc3 | refine kc4 ?_ GE179.out) | exact HB.out)⟩

/-! ### trivetref01_Of: function 15, its laws -/
theorem trivetref01_Of.sized (k : Nat) (a u : Int) (hu : 0 ≤ u ∧ u < 18446744073709551616) (ha : u = M.abs a) (hk : 12 ≤ k) : trivetref01_Of.j0 k a u = some (U.num a) := by
 obtain ⟨j, rfl⟩ : ∃ j, k = j + 6 + 6 := ⟨k - 12, by omega⟩
 have d0 := Int.emod_nonneg u (show (65536 : Int) ≠ 0 by decide)
 simp only [trivetref01_Of.j0, trivetref01_Of.l0]
 rw [M.tdivu (show 0 ≤ u by omega), M.tmodu (show 0 ≤ u by omega), M.wrapu_id (n := u / 65536) (by omega) (by omega)]
 rw [M.tdivu (show 0 ≤ u / 65536 by omega), M.tmodu (show 0 ≤ u / 65536 by omega), M.wrapu_id (n := u / 65536 / 65536) (by omega) (by omega)]
 rw [M.tdivu (show 0 ≤ u / 65536 / 65536 by omega), M.tmodu (show 0 ≤ u / 65536 / 65536 by omega), M.wrapu_id (n := u / 65536 / 65536 / 65536) (by omega) (by omega)]
 rw [M.tmodu (show 0 ≤ u / 65536 / 65536 / 65536 by omega)]
 have w1 : wrap64 (0 + 1) = 1 := by unfold wrap64; decide
 have w2 : wrap64 (1 + 1) = 2 := by unfold wrap64; decide
 have w3 : wrap64 (2 + 1) = 3 := by unfold wrap64; decide
 have w4 : wrap64 (3 + 1) = 4 := by unfold wrap64; decide
 simp only [w1, w2, w3, w4]
 rw [if_pos (by decide), if_pos (by simp), if_pos (by decide), if_pos (by simp), if_pos (by decide), if_pos (by simp), if_pos (by decide), if_pos (by simp), if_neg (by decide)]
 rw [trivetref01_norm.num _ _ _ a]
 ·rfl
 ·intro x hx
  simp at hx
  rcases hx with rfl | rfl | rfl | rfl <;> omega
 ·simp
 ·simp
 ·simp only [List.nil_append, List.cons_append, U.val]
  unfold M.abs at ha
  by_cases h : a < 0
  ·rw [if_pos h] at ha; rw [if_pos (decide_eq_true h)]; omega
  ·rw [if_neg h] at ha; rw [if_neg (by simpa using h)]; omega
theorem trivetref01_Of.num (k : Nat) (a : Int) (ha : M.In a) (hk : 12 ≤ k) : trivetref01_Of.f k a = some (U.num a) := by
 unfold M.In at ha
 unfold trivetref01_Of.f
 by_cases h : a < 0
 ·rw [if_pos h]
  have e : IntKind.u64.wrap (Go.bits .xor .u64 18446744073709551615 (IntKind.u64.wrap a) + 1) = -a := by
   have e1 : IntKind.u64.wrap a = a + 18446744073709551616 := by rw [M.wrapu]; omega
   rw [e1, M.xor_all _ (by omega) (by omega), M.wrapu]; omega
  rw [e]
  exact trivetref01_Of.sized k a (-a) (by omega) (by unfold M.abs; rw [if_pos h]) hk
 ·rw [if_neg h, M.wrapu_id (by omega) (by omega)]
  exact trivetref01_Of.sized k a a (by omega) (by unfold M.abs; rw [if_neg h]) hk

/-! ### trivetref01_less: function 29 -/
def trivetref01_less.l0 : Nat → List Int → List Int → Int → Option (Bool)
 | 0, _, _, _ => none
 | k + 1, x0, x1, x5 => if x5 ≥ 0 then (if 0 ≤ x5 then (if x5 < (x0.length : Int) then (if x5 < (x1.length : Int) then (if (rd x0 x5) = (rd x1 x5) then (trivetref01_less.l0 k x0 x1 (wrap64 (x5 - 1))) else (some (decide ((rd x0 x5) < (rd x1 x5))))) else (none)) else (none)) else (none)) else (some false)
def trivetref01_less.f (k : Nat) (l0 : List Int) (l1 : List Int) : Option (Bool) := if (l0.length : Int) = (l1.length : Int) then (trivetref01_less.l0 k l0 l1 (wrap64 ((l0.length : Int) - 1))) else (some (decide ((l0.length : Int) < (l1.length : Int))))
theorem trivetref01_less.mono_l : ∀ k, (∀ y0 y1 y2, LeO (trivetref01_less.l0 k y0 y1 y2) (trivetref01_less.l0 (k + 1) y0 y1 y2))
 | 0 => fun _ _ _ r h => by simp [trivetref01_less.l0] at h
 | k + 1 => by
  have ih0 := trivetref01_less.mono_l k
  ·intro y0 y1 y2
   unfold trivetref01_less.l0
   repeat' first
   | (with_reducible exact ih0 _ _ _)
   | (with_reducible exact LeO.refl _)
   | (with_reducible exact LeO.none _)
   | (with_reducible refine LeO.ite ?_ ?_)
   | (with_reducible refine LeO.bind ?_ (fun _ => ?_))
   | exact ih0 _ _ _
   | exact LeO.none _
   | refine LeO.ite ?_ ?_
   | refine LeO.bind ?_ (fun _ => ?_)
theorem trivetref01_less.mono : ∀ a0 a1 k, LeO (trivetref01_less.f k a0 a1) (trivetref01_less.f (k + 1) a0 a1) := by
 intro a0 a1 k
 have ih0 := trivetref01_less.mono_l k
 unfold trivetref01_less.f
 repeat' first
   | (with_reducible exact ih0 _ _ _)
   | (with_reducible exact LeO.refl _)
   | (with_reducible exact LeO.none _)
   | (with_reducible refine LeO.ite ?_ ?_)
   | (with_reducible refine LeO.bind ?_ (fun _ => ?_))
   | exact ih0 _ _ _
   | exact LeO.none _
   | refine LeO.ite ?_ ?_
   | refine LeO.bind ?_ (fun _ => ?_)
set_option maxHeartbeats 8000000 in
set_option maxRecDepth 100000 in
theorem trivetref01_less.calls (k : Nat) (A0 : Option Addr) (c0 : Nat) (l0 : List Int) (A1 : Option Addr) (c1 : Nat) (l1 : List Int) (r : Bool) (w : World) (hr0 : Kd.C (Kd.int .u64) w A0 l0.length l0) (hc0 : l0.length ≤ c0) (hr1 : Kd.C (Kd.int .u64) w A1 l1.length l1) (hc1 : l1.length ≤ c1) (h : trivetref01_less.f k l0 l1 = some r) :
  Calls Try.prog 29 #[.slice A0 l0.length c0, .slice A1 l1.length c1] w fun e w' => e = .returned (.bool r) ∧ Drawn0 w w' := by
 have HR0 := ka hr0
 have HC0 := ka hc0
 clear hr0 hc0
 have HR1 := ka hr1
 have HC1 := ka hc1
 clear hr1 hc1
 have H : (if (l0.length : Int) = (l1.length : Int) then (trivetref01_less.l0 k l0 l1 (wrap64 ((l0.length : Int) - 1))) else (some (decide ((l0.length : Int) < (l1.length : Int))))) = some r := h
 clear h
 by_cases c3 : (l0.length : Int) = (l1.length : Int)
 ·rw [if_pos c3] at H
  have c3b0 : ((l0.length : Int) == (l1.length : Int)) = true := beq_iff_eq.mpr c3
  have c3b1 : ((l0.length : Int) != (l1.length : Int)) = false := bne_eq_false_iff_eq.mpr c3
  have c3b2 : (l0.length == l1.length) = true := by first | simpa using c3 | (simp at c3 ⊢; omega)
  clear c3
  have H' := ka H
  clear H
  go_enter Try.func29, Try.ntmps29
  go_wp2
  repeat (go_quiet (fail); try go_wp2)
  (try simp only [Act.put, List.setIfInBounds_toArray, List.set_cons_zero, List.set_cons_succ])
  go_loopg [5] k (fun kq v5 w' => ∃ (x5_1 : Int), v5 = .int .i64 x5_1 ∧ Aside0 (trivetref01_less.l0 kq l0 l1 x5_1 = some r) ∧ Aside0 (kq ≤ k) ∧ Drawn0 w w')
  case atStart => exact ⟨(wrap64 ((l0.length : Int) - 1)), (by first | rfl | (simp; done) | (simp [*]; done)), H', ⟨Nat.le_refl _⟩, by repeat (first | exact Drawn0.refl _ | apply Drawn0.step)⟩
  case round =>
   clear H'
   try clear c1
   try clear c2
   try clear p2
   try clear c3
   try clear c3b0
   try clear c3b1
   try clear c3b2
   obtain ⟨x5_1, rfl, HA, HK1, ⟨m1, rfl⟩⟩ := hrel
   cases gk with
   | zero => exact absurd HA.out (by simp [trivetref01_less.l0])
   | succ k1 =>
    have H := HA.out
    clear HA
    simp only [trivetref01_less.l0] at H
    by_cases c4 : x5_1 ≥ 0
    ·rw [if_pos c4] at H
     have c4b0 : decide (0 ≤ x5_1) = true := decide_eq_true c4
     clear c4
     by_cases c5 : 0 ≤ x5_1
     ·rw [if_pos c5] at H
      have c5b0 : decide (0 ≤ x5_1) = true := decide_eq_true c5
      clear c5
      by_cases c6 : x5_1 < (l0.length : Int)
      ·rw [if_pos c6] at H
       have c6b0 : decide (x5_1 < (l0.length : Int)) = true := decide_eq_true c6
       clear c6
       by_cases c7 : x5_1 < (l1.length : Int)
       ·rw [if_pos c7] at H
        have c7b0 : decide (x5_1 < (l1.length : Int)) = true := decide_eq_true c7
        clear c7
        by_cases c8 : (rd l0 x5_1) = (rd l1 x5_1)
        ·rw [if_pos c8] at H
         have c8b0 : ((rd l0 x5_1) == (rd l1 x5_1)) = true := beq_iff_eq.mpr c8
         have c8b1 : ((rd l0 x5_1) != (rd l1 x5_1)) = false := bne_eq_false_iff_eq.mpr c8
         clear c8
         have H' := ka H
         clear H
         have p187 : 0 ≤ (x5_1 : Int) := of_decide_eq_true (by first | (with_reducible assumption) | assumption)
         have q187 : x5_1 < (l0.length : Int) := of_decide_eq_true (by first | (with_reducible assumption) | assumption)
         obtain ⟨ad187, e187, hx187_0⟩ := Kd.at_int HR0.out x5_1 p187 q187
         cases e187
         replace p187 := eq_true p187
         replace q187 := eq_true q187
         have p188 : 0 ≤ (x5_1 : Int) := of_decide_eq_true (by first | (with_reducible assumption) | assumption)
         have q188 : x5_1 < (l1.length : Int) := of_decide_eq_true (by first | (with_reducible assumption) | assumption)
         obtain ⟨ad188, e188, hx188_0⟩ := Kd.at_int HR1.out x5_1 p188 q188
         cases e188
         replace p188 := eq_true p188
         replace q188 := eq_true q188
         go_wp2
         repeat (go_quiet (fail); try go_wp2)
         go_roundg k1
         case measure => have := HK1.out; omega
         case rel => exact ⟨(wrap64 (x5_1 - 1)), (by first | rfl | (simp; done) | (simp [*]; done)), H', ⟨by have := HK1.out; omega⟩, by repeat (first | exact Drawn0.refl _ | apply Drawn0.step)⟩
        ·rw [if_neg c8] at H
         have c8b0 : ((rd l0 x5_1) == (rd l1 x5_1)) = false := beq_eq_false_iff_ne.mpr c8
         have c8b1 : ((rd l0 x5_1) != (rd l1 x5_1)) = true := bne_iff_ne.mpr c8
         obtain rfl := Option.some.inj H
         have p187 : 0 ≤ (x5_1 : Int) := of_decide_eq_true (by first | (with_reducible assumption) | assumption)
         have q187 : x5_1 < (l0.length : Int) := of_decide_eq_true (by first | (with_reducible assumption) | assumption)
         obtain ⟨ad187, e187, hx187_0⟩ := Kd.at_int HR0.out x5_1 p187 q187
         cases e187
         replace p187 := eq_true p187
         replace q187 := eq_true q187
         have p188 : 0 ≤ (x5_1 : Int) := of_decide_eq_true (by first | (with_reducible assumption) | assumption)
         have q188 : x5_1 < (l1.length : Int) := of_decide_eq_true (by first | (with_reducible assumption) | assumption)
         obtain ⟨ad188, e188, hx188_0⟩ := Kd.at_int HR1.out x5_1 p188 q188
         cases e188
         replace p188 := eq_true p188
         replace q188 := eq_true q188
         have p189 : 0 ≤ (x5_1 : Int) := of_decide_eq_true (by first | (with_reducible assumption) | assumption)
         have q189 : x5_1 < (l0.length : Int) := of_decide_eq_true (by first | (with_reducible assumption) | assumption)
         obtain ⟨ad189, e189, hx189_0⟩ := Kd.at_int HR0.out x5_1 p189 q189
         obtain rfl : ad187 = ad189 := (by injection e189)
         replace p189 := eq_true p189
         replace q189 := eq_true q189
         have p190 : 0 ≤ (x5_1 : Int) := of_decide_eq_true (by first | (with_reducible assumption) | assumption)
         have q190 : x5_1 < (l1.length : Int) := of_decide_eq_true (by first | (with_reducible assumption) | assumption)
         obtain ⟨ad190, e190, hx190_0⟩ := Kd.at_int HR1.out x5_1 p190 q190
         obtain rfl : ad188 = ad190 := (by injection e190)
         replace p190 := eq_true p190
         replace q190 := eq_true q190
         go_wp2
         repeat (go_quiet (fail); try go_wp2)
         go_ret
         exact ⟨by first | rfl | (simp; done) | (simp [*]; done), by repeat (first | exact Drawn0.refl _ | apply Drawn0.step)⟩
       ·rw [if_neg c7] at H
        exact absurd H (by simp)
      ·rw [if_neg c6] at H
       exact absurd H (by simp)
     ·rw [if_neg c5] at H
      exact absurd H (by simp)
    ·rw [if_neg c4] at H
     have c4b0 : decide (0 ≤ x5_1) = false := decide_eq_false c4
     clear c4
     obtain rfl := Option.some.inj H
     go_wp2
     repeat (go_quiet (fail); try go_wp2)
     go_ret
     exact ⟨by first | rfl | (simp; done) | (simp [*]; done), by repeat (first | exact Drawn0.refl _ | apply Drawn0.step)⟩
 ·rw [if_neg c3] at H
  have c3b0 : ((l0.length : Int) == (l1.length : Int)) = false := beq_eq_false_iff_ne.mpr c3
  have c3b1 : ((l0.length : Int) != (l1.length : Int)) = true := bne_iff_ne.mpr c3
  have c3b2 : (l0.length == l1.length) = false := by first | simpa using c3 | (simp at c3 ⊢; omega)
  obtain rfl := Option.some.inj H
  go_enter Try.func29, Try.ntmps29
  go_wp2
  repeat (go_quiet (fail); try go_wp2)
  go_ret
  exact ⟨by first | rfl | (simp; done) | (simp [*]; done), by repeat (first | exact Drawn0.refl _ | apply Drawn0.step)⟩

/-! ### trivetref01_less: function 29, its laws -/
theorem trivetref01_less.loop (i : Nat) : ∀ (k : Nat) (a b : List Int), U.Dg a → U.Dg b → a.length = b.length → i ≤ a.length → (i : Int) < 1000000 → i < k → trivetref01_less.l0 k a b ((i : Int) - 1) = some (decide (U.val (a.take i) < U.val (b.take i))) := by
 induction i with
 | zero =>
  intro k a b ha hb hl hi hm hk
  obtain ⟨j, rfl⟩ : ∃ j, k = j + 1 := ⟨k - 1, by omega⟩
  simp only [trivetref01_less.l0]
  rw [if_neg (by omega)]
  simp [U.val]
 | succ i ih =>
  intro k a b ha hb hl hi hm hk
  obtain ⟨j, rfl⟩ : ∃ j, k = j + 1 := ⟨k - 1, by omega⟩
  have ra : rd a ((i + 1 : Nat) - 1 : Int) = a.getD i 0 := by unfold rd; congr 1; omega
  have rb : rd b ((i + 1 : Nat) - 1 : Int) = b.getD i 0 := by unfold rd; congr 1; omega
  have va := U.val_lt (d := a.take i) (fun x hx => ha x (List.mem_of_mem_take hx))
  have vb := U.val_lt (d := b.take i) (fun x hx => hb x (List.mem_of_mem_take hx))
  have va0 := U.val_nonneg (d := a.take i) (fun x hx => ha x (List.mem_of_mem_take hx))
  have vb0 := U.val_nonneg (d := b.take i) (fun x hx => hb x (List.mem_of_mem_take hx))
  rw [List.length_take, show min i a.length = i by omega] at va
  rw [List.length_take, show min i b.length = i by omega] at vb
  have ih' := ih j a b ha hb hl (by omega) (by omega) (by omega)
  simp only [trivetref01_less.l0]
  rw [if_pos (show ((i + 1 : Nat) - 1 : Int) ≥ 0 by omega), if_pos (show 0 ≤ ((i + 1 : Nat) - 1 : Int) by omega), if_pos (show ((i + 1 : Nat) - 1 : Int) < a.length by omega), if_pos (show ((i + 1 : Nat) - 1 : Int) < b.length by omega), ra, rb, U.take_succ a i (by omega), U.take_succ b i (by omega)]
  rw [M.w64_id (n := ((i + 1 : Nat) - 1 : Int) - 1) (by omega) (by omega), show ((i + 1 : Nat) - 1 : Int) - 1 = (i : Int) - 1 by omega, ih']
  generalize a.getD i 0 = x at *
  generalize b.getD i 0 = y at *
  generalize U.val (a.take i) = u at *
  generalize U.val (b.take i) = v at *
  have hp := U.pow_pos i
  generalize (65536 : Int) ^ i = p at *
  by_cases h : x = y
  ·rw [if_pos h, h]; congr 1; apply decide_eq_decide.mpr; omega
  ·rw [if_neg h]
   congr 1
   apply decide_eq_decide.mpr
   constructor
   ·intro hxy
    have h1 := Int.mul_le_mul_of_nonneg_left (show x + 1 ≤ y by omega) (Int.le_of_lt hp)
    rw [Int.mul_add] at h1
    omega
   ·intro hv
    refine Classical.byContradiction fun hn => ?_
    have h1 := Int.mul_le_mul_of_nonneg_left (show y + 1 ≤ x by omega) (Int.le_of_lt hp)
    rw [Int.mul_add] at h1
    omega
theorem trivetref01_less.num (k : Nat) (x y : Int) (hx : 0 ≤ x) (hy : 0 ≤ y) (lx : (U.dig x).length ≤ 1000) (ly : (U.dig y).length ≤ 1000) (hk : (U.dig x).length + 2 ≤ k) : trivetref01_less.f k (U.dig x) (U.dig y) = some (decide (x < y)) := by
 unfold trivetref01_less.f
 have ax := U.val_dig hx
 have ay := U.val_dig hy
 by_cases h : (U.dig x).length = (U.dig y).length
 ·rw [if_pos (by omega)]
  have hw : wrap64 (((U.dig x).length : Int) - 1) = ((U.dig x).length : Int) - 1 := M.w64_id (by omega) (by omega)
  rw [hw, trivetref01_less.loop _ k _ _ (U.dig_dg x) (U.dig_dg y) h (Nat.le_refl _) (by omega) (by omega), List.take_length, h, List.take_length, ax, ay]
 ·rw [if_neg (by omega)]
  congr 1
  apply decide_eq_decide.mpr
  constructor
  ·intro hl
   refine Classical.byContradiction fun hn => ?_
   have h1 := U.val_lt (U.dig_dg x)
   rw [ax] at h1
   have := U.len_dig (U.dig x).length y (by omega)
   omega
  ·intro hl
   refine Classical.byContradiction fun hn => ?_
   have h1 := U.val_lt (U.dig_dg y)
   rw [ay] at h1
   have := U.len_dig (U.dig y).length x (by omega)
   omega

/-! ### trivetref01_minus: function 30 -/
@[go_sem] theorem fieldAgg34_0 (x0 x1 : Value) (w : World) : (Instr.field 34 (.agg #[x0, x1]) 0).run Try.prog w = .ok x0 w := by
 have h1 : (isAgg 32).run Try.prog w = .ok false w := by simp [isAgg, run_underlying Try.underlying32]
 simp [Instr.field, run_underlying Try.underlying34, asAgg, part, h1]
def trivetref01_minus.l0 : Nat → List Int → List Int → List Int → Int → Int → Option (List Int)
 | 0, _, _, _, _, _ => none
 | k + 1, x0, x1, x5, x6, x7 => if x7 < (x0.length : Int) then (if 0 ≤ x7 then ((trivetref01_at.f x1 x7).bind fun t192 => (if x5.length < 17592186044416 then (trivetref01_minus.l0 k x0 x1 (x5 ++ [Int.tmod (IntKind.u64.wrap ((IntKind.u64.wrap ((IntKind.u64.wrap (65536 + (rd x0 x7))) - t192)) - x6)) 65536]) (IntKind.u64.wrap (1 - (IntKind.u64.wrap (Int.tdiv (IntKind.u64.wrap ((IntKind.u64.wrap ((IntKind.u64.wrap (65536 + (rd x0 x7))) - t192)) - x6)) 65536)))) (wrap64 (x7 + 1))) else (none))) else (none)) else ((trivetref01_norm.f k x5 false).bind fun bt196 => (some bt196.1))
def trivetref01_minus.f (k : Nat) (l0 : List Int) (l1 : List Int) : Option (List Int) := trivetref01_minus.l0 k l0 l1 ([] : List Int) 0 0
theorem trivetref01_minus.mono_l : ∀ k, (∀ y0 y1 y2 y3 y4, LeO (trivetref01_minus.l0 k y0 y1 y2 y3 y4) (trivetref01_minus.l0 (k + 1) y0 y1 y2 y3 y4))
 | 0 => fun _ _ _ _ _ r h => by simp [trivetref01_minus.l0] at h
 | k + 1 => by
  have ih0 := trivetref01_minus.mono_l k
  ·intro y0 y1 y2 y3 y4
   unfold trivetref01_minus.l0
   repeat' first
   | (with_reducible exact ih0 _ _ _ _ _)
   | (with_reducible exact trivetref01_norm.mono _ _ _)
   | (with_reducible exact LeO.refl _)
   | (with_reducible exact LeO.none _)
   | (with_reducible refine LeO.ite ?_ ?_)
   | (with_reducible refine LeO.bind ?_ (fun _ => ?_))
   | exact ih0 _ _ _ _ _
   | exact trivetref01_norm.mono _ _ _
   | exact LeO.none _
   | refine LeO.ite ?_ ?_
   | refine LeO.bind ?_ (fun _ => ?_)
theorem trivetref01_minus.mono : ∀ a0 a1 k, LeO (trivetref01_minus.f k a0 a1) (trivetref01_minus.f (k + 1) a0 a1) := by
 intro a0 a1 k
 have ih0 := trivetref01_minus.mono_l k
 unfold trivetref01_minus.f
 repeat' first
   | (with_reducible exact ih0 _ _ _ _ _)
   | (with_reducible exact trivetref01_norm.mono _ _ _)
   | (with_reducible exact LeO.refl _)
   | (with_reducible exact LeO.none _)
   | (with_reducible refine LeO.ite ?_ ?_)
   | (with_reducible refine LeO.bind ?_ (fun _ => ?_))
   | exact ih0 _ _ _ _ _
   | exact trivetref01_norm.mono _ _ _
   | exact LeO.none _
   | refine LeO.ite ?_ ?_
   | refine LeO.bind ?_ (fun _ => ?_)
set_option maxHeartbeats 8000000 in
set_option maxRecDepth 100000 in
theorem trivetref01_minus.calls (k : Nat) (A0 : Option Addr) (c0 : Nat) (l0 : List Int) (A1 : Option Addr) (c1 : Nat) (l1 : List Int) (r : List Int) (w : World) (hr0 : Kd.C (Kd.int .u64) w A0 l0.length l0) (hc0 : l0.length ≤ c0) (hr1 : Kd.C (Kd.int .u64) w A1 l1.length l1) (hc1 : l1.length ≤ c1) (h : trivetref01_minus.f k l0 l1 = some r) :
  Calls Try.prog 30 #[.slice A0 l0.length c0, .slice A1 l1.length c1] w fun e w' => ∃ v0_ : Value, e = .returned (v0_) ∧ Kd.V (Kd.int .u64) 42 w' w.heap.size (fun k_ => (w.heap.size ≤ k_)) v0_ r ∧ Below w.heap.size w w' := by
 have HR0 := ka hr0
 have HC0 := ka hc0
 clear hr0 hc0
 have HR1 := ka hr1
 have HC1 := ka hc1
 clear hr1 hc1
 have HB := ka (Below.refl w.heap.size w)
 have H : (trivetref01_minus.l0 k l0 l1 ([] : List Int) 0 0) = some r := h
 clear h
 have H' := ka H
 clear H
 go_enter Try.func30, Try.ntmps30
 go_wp2
 repeat (go_quiet (fail); try go_wp2)
 (try simp only [Act.put, List.setIfInBounds_toArray, List.set_cons_zero, List.set_cons_succ])
 go_loopg [5, 6, 7] k (fun kq v5 v6 v7 w' => ∃ (x5_1 : List Int) (x6_1 : Int) (x7_1 : Int), v6 = .int .u64 x6_1 ∧ v7 = .int .i64 x7_1 ∧ Aside0 (trivetref01_minus.l0 kq l0 l1 x5_1 x6_1 x7_1 = some r) ∧ Aside0 (kq ≤ k) ∧ Aside0 (Kd.R (Kd.int .u64) 42 w' w.heap.size (fun k_ => (w.heap.size ≤ k_)) v5 x5_1) ∧ Aside0 (Below w.heap.size w w'))
 case atStart => exact ⟨(([] : List Int)), (0), (0), (by first | rfl | (simp; done) | (simp [*]; done)), (by first | rfl | (simp; done) | (simp [*]; done)), H', ⟨Nat.le_refl _⟩, ⟨by first | exact Kd.R_nil _ _ _ _ _ | exact Kd.N_nil _ _ _ _ _ | exact Kd.V_nil _ _ _ _ _ | exact Kd.Q_nil _ _ _ _ _ | exact Kd.S_nil _ _ _ _ _⟩, ⟨by repeat (first | (with_reducible first | exact HB.out | apply kc1 | apply kc2 | apply kc3) | exact HB.out)⟩⟩
 case round =>
  clear H'
  try clear c1
  try clear p2
  obtain ⟨x5_1, x6_1, x7_1, rfl, rfl, HA, HK1, HO_5, HB⟩ := hrel
  cases gk with
  | zero => exact absurd HA.out (by simp [trivetref01_minus.l0])
  | succ k1 =>
   have H := HA.out
   clear HA
   simp only [trivetref01_minus.l0] at H
   by_cases c3 : x7_1 < (l0.length : Int)
   ·rw [if_pos c3] at H
    have c3b0 : decide (x7_1 < (l0.length : Int)) = true := decide_eq_true c3
    clear c3
    by_cases c4 : 0 ≤ x7_1
    ·rw [if_pos c4] at H
     have c4b0 : decide (0 ≤ x7_1) = true := decide_eq_true c4
     clear c4
     replace H := Option.bind_eq_some_iff.mp H
     obtain ⟨t192, A50, H⟩ := H
     replace H : (if x5_1.length < 17592186044416 then (trivetref01_minus.l0 k1 l0 l1 (x5_1 ++ [Int.tmod (IntKind.u64.wrap ((IntKind.u64.wrap ((IntKind.u64.wrap (65536 + (rd l0 x7_1))) - t192)) - x6_1)) 65536]) (IntKind.u64.wrap (1 - (IntKind.u64.wrap (Int.tdiv (IntKind.u64.wrap ((IntKind.u64.wrap ((IntKind.u64.wrap (65536 + (rd l0 x7_1))) - t192)) - x6_1)) 65536)))) (wrap64 (x7_1 + 1))) else (none)) = some r := H
     have A5 := ka A50
     clear A50
     by_cases c6 : x5_1.length < 17592186044416
     ·rw [if_pos c6] at H
      have LMc6 := ka c6
      clear c6
      obtain ⟨y193, hy193⟩ : ∃ y_ : List Int, y_ = (x5_1 ++ [Int.tmod (IntKind.u64.wrap ((IntKind.u64.wrap ((IntKind.u64.wrap (65536 + (rd l0 x7_1))) - t192)) - x6_1)) 65536]) := ⟨_, rfl⟩
      replace H : (trivetref01_minus.l0 k1 l0 l1 y193 (IntKind.u64.wrap (1 - (IntKind.u64.wrap (Int.tdiv (IntKind.u64.wrap ((IntKind.u64.wrap ((IntKind.u64.wrap (65536 + (rd l0 x7_1))) - t192)) - x6_1)) 65536)))) (wrap64 (x7_1 + 1))) = some r := by first | (rw [hy193]; with_reducible exact H) | (have H2_ := (Option.bind_some _ _).symm.trans H; rw [hy193]; with_reducible exact H2_) | (have H2_ := (Option.bind_some _ _).symm.trans H; with_reducible exact H2_) | with_reducible exact H | (rw [hy193]; exact H) | exact H
      have Ny193 := ka hy193
      clear hy193
      have H' := ka H
      clear H
      have p191 : 0 ≤ (x7_1 : Int) := of_decide_eq_true (by first | (with_reducible assumption) | assumption)
      have q191 : x7_1 < (l0.length : Int) := of_decide_eq_true (by first | (with_reducible assumption) | assumption)
      obtain ⟨ad191, e191, hx191_0⟩ := Kd.at_int HR0.out x7_1 p191 q191
      cases e191
      replace hx191_0 := (HB.out.cell (World.block_lt_of_cell? w _ hx191_0)).trans hx191_0
      replace p191 := eq_true p191
      replace q191 := eq_true q191
      go_wp2_with (first | (go_at_call 36; (with_reducible refine (trivetref01_at.calls _ _ l1 x7_1 t192 _ ?side1 ?side2 A5.out).mono ?_); (case side1 => repeat (first | exact (Kd.C_below HR1.out HB.out) | (with_reducible refine Kd.C_alloc ?_ _) | (with_reducible refine Kd.C_drewN ?_ _) | (with_reducible refine Kd.C_drew ?_))); (case side2 => exact HC1.out); rintro e w' ⟨rfl, ⟨nd, rfl⟩⟩; (try first | exact ⟨rfl, _, World.drewN_drewN _ _ _⟩ | exact ⟨rfl, _, Eq.trans (World.drewN_drewN _ _ _) (congrArg (World.drewN _) (Nat.add_assoc _ _ _))⟩)) | ((with_reducible refine gate_builtin (b := .append) (xs := #[.tmp 26, .tmp 29]) rfl ?_); at_builtin; refine Kd.R_append (Kd.int .u64) (w0 := w) w.heap.size rfl (.tmp 26) (.tmp 29) 32 42 (.int .u64 0) 8 rfl Try.underlying32 info42 rfl (by decide) (by omega) u5 x5_1 (Int.tmod (IntKind.u64.wrap ((IntKind.u64.wrap ((IntKind.u64.wrap (65536 + (rd l0 x7_1))) - t192)) - x6_1)) 65536) [.int .u64 (Int.tmod (IntKind.u64.wrap ((IntKind.u64.wrap ((IntKind.u64.wrap (65536 + (rd l0 x7_1))) - t192)) - x6_1)) 65536)] (fun k_ => (w.heap.size ≤ k_)) (fun _ => False) rfl rfl ?aP (fun _ hk => hk.elim) ?aF ?aO ?aB ?aS ?aL ?_; (case aP => exact rfl); (case aB => exact (kw HB.out)); (case aF => exact (fun k_ hk => (Nat.le_trans (below_size (kw HB.out)) hk))); (case aO => exact (kr HO_5.out)); (case aS => exact (below_size (kw HB.out))); (case aL => have := LMc6.out; omega); intro v194 w7 ho hb hg hat; rw [← Ny193.out] at ho; replace HB := ka (hb); have HO195 := ka (ho); clear HO_5; clear ho hb hg hat))
      repeat (go_quiet (first | (go_at_call 36; (with_reducible refine (trivetref01_at.calls _ _ l1 x7_1 t192 _ ?side1 ?side2 A5.out).mono ?_); (case side1 => repeat (first | exact (Kd.C_below HR1.out HB.out) | (with_reducible refine Kd.C_alloc ?_ _) | (with_reducible refine Kd.C_drewN ?_ _) | (with_reducible refine Kd.C_drew ?_))); (case side2 => exact HC1.out); rintro e w' ⟨rfl, ⟨nd, rfl⟩⟩; (try first | exact ⟨rfl, _, World.drewN_drewN _ _ _⟩ | exact ⟨rfl, _, Eq.trans (World.drewN_drewN _ _ _) (congrArg (World.drewN _) (Nat.add_assoc _ _ _))⟩)) | ((with_reducible refine gate_builtin (b := .append) (xs := #[.tmp 26, .tmp 29]) rfl ?_); at_builtin; refine Kd.R_append (Kd.int .u64) (w0 := w) w.heap.size rfl (.tmp 26) (.tmp 29) 32 42 (.int .u64 0) 8 rfl Try.underlying32 info42 rfl (by decide) (by omega) u5 x5_1 (Int.tmod (IntKind.u64.wrap ((IntKind.u64.wrap ((IntKind.u64.wrap (65536 + (rd l0 x7_1))) - t192)) - x6_1)) 65536) [.int .u64 (Int.tmod (IntKind.u64.wrap ((IntKind.u64.wrap ((IntKind.u64.wrap (65536 + (rd l0 x7_1))) - t192)) - x6_1)) 65536)] (fun k_ => (w.heap.size ≤ k_)) (fun _ => False) rfl rfl ?aP (fun _ hk => hk.elim) ?aF ?aO ?aB ?aS ?aL ?_; (case aP => exact rfl); (case aB => exact (kw HB.out)); (case aF => exact (fun k_ hk => (Nat.le_trans (below_size (kw HB.out)) hk))); (case aO => exact (kr HO_5.out)); (case aS => exact (below_size (kw HB.out))); (case aL => have := LMc6.out; omega); intro v194 w7 ho hb hg hat; rw [← Ny193.out] at ho; replace HB := ka (hb); have HO195 := ka (ho); clear HO_5; clear ho hb hg hat)); try go_wp2_with (first | (go_at_call 36; (with_reducible refine (trivetref01_at.calls _ _ l1 x7_1 t192 _ ?side1 ?side2 A5.out).mono ?_); (case side1 => repeat (first | exact (Kd.C_below HR1.out HB.out) | (with_reducible refine Kd.C_alloc ?_ _) | (with_reducible refine Kd.C_drewN ?_ _) | (with_reducible refine Kd.C_drew ?_))); (case side2 => exact HC1.out); rintro e w' ⟨rfl, ⟨nd, rfl⟩⟩; (try first | exact ⟨rfl, _, World.drewN_drewN _ _ _⟩ | exact ⟨rfl, _, Eq.trans (World.drewN_drewN _ _ _) (congrArg (World.drewN _) (Nat.add_assoc _ _ _))⟩)) | ((with_reducible refine gate_builtin (b := .append) (xs := #[.tmp 26, .tmp 29]) rfl ?_); at_builtin; refine Kd.R_append (Kd.int .u64) (w0 := w) w.heap.size rfl (.tmp 26) (.tmp 29) 32 42 (.int .u64 0) 8 rfl Try.underlying32 info42 rfl (by decide) (by omega) u5 x5_1 (Int.tmod (IntKind.u64.wrap ((IntKind.u64.wrap ((IntKind.u64.wrap (65536 + (rd l0 x7_1))) - t192)) - x6_1)) 65536) [.int .u64 (Int.tmod (IntKind.u64.wrap ((IntKind.u64.wrap ((IntKind.u64.wrap (65536 + (rd l0 x7_1))) - t192)) - x6_1)) 65536)] (fun k_ => (w.heap.size ≤ k_)) (fun _ => False) rfl rfl ?aP (fun _ hk => hk.elim) ?aF ?aO ?aB ?aS ?aL ?_; (case aP => exact rfl); (case aB => exact (kw HB.out)); (case aF => exact (fun k_ hk => (Nat.le_trans (below_size (kw HB.out)) hk))); (case aO => exact (kr HO_5.out)); (case aS => exact (below_size (kw HB.out))); (case aL => have := LMc6.out; omega); intro v194 w7 ho hb hg hat; rw [← Ny193.out] at ho; replace HB := ka (hb); have HO195 := ka (ho); clear HO_5; clear ho hb hg hat)))
      go_roundg k1
      case measure => have := HK1.out; omega
      case rel => exact ⟨(y193), (IntKind.u64.wrap (1 - (IntKind.u64.wrap (Int.tdiv (IntKind.u64.wrap ((IntKind.u64.wrap ((IntKind.u64.wrap (65536 + (rd l0 x7_1))) - t192)) - x6_1)) 65536)))), (wrap64 (x7_1 + 1)), (by first | rfl | (simp; done) | (simp [*]; done)), (by first | rfl | (simp; done) | (simp [*]; done)), H', ⟨by have := HK1.out; omega⟩, ⟨kr HO195.out⟩, ⟨by repeat (first | (with_reducible first | exact HB.out | apply kc1 | apply kc2 | apply kc3) | exact HB.out)⟩⟩
     ·rw [if_neg c6] at H
      exact absurd H (by simp)
    ·rw [if_neg c4] at H
     exact absurd H (by simp)
   ·rw [if_neg c3] at H
    have c3b0 : decide (x7_1 < (l0.length : Int)) = false := decide_eq_false c3
    clear c3
    replace H := Option.bind_eq_some_iff.mp H
    obtain ⟨⟨t196, t199⟩, A80, H⟩ := H
    replace H : (some t196) = some r := H
    have A8 := ka A80
    clear A80
    obtain rfl := Option.some.inj H
    obtain ⟨Ao9, co9, eo9⟩ := Kd.R_slice HO_5.out
    subst eo9
    go_wp2_with (first | (go_at_call 28; (with_reducible refine (trivetref01_norm.calls k1 (fun k_ => some k_ = (.slice Ao9 x5_1.length co9 : Value).ownBlock) _ _ x5_1 false t196 t199 _ ?side1 A8.out).mono ?_); (case side1 => exact Kd.R_V (Kd.R_tight rfl (HO_5.out))); rintro e w10 ⟨v197, rfl, ho0, hb⟩; have HO198 := ka (Kd.V_lower (Kd.V_mono (ok' := fun k_ => (w.heap.size ≤ k_)) ho0 (fun k_ hk_ => Or.elim hk_ (fun hs_ => ((HO_5.out).1 k_ hs_.symm)) (fun hn_ => (Nat.le_trans (below_size (kw HB.out)) hn_)))) (below_size (kw HB.out))); replace HO_5 := ka (Kd.R_below (kr HO_5.out) hb); replace HB := ka (below_step (kw HB.out) hb); (try clear hb); (try clear hb2); (try clear hk); (try clear hi); (try clear ho0)))
    repeat (go_quiet (first | (go_at_call 28; (with_reducible refine (trivetref01_norm.calls k1 (fun k_ => some k_ = (.slice Ao9 x5_1.length co9 : Value).ownBlock) _ _ x5_1 false t196 t199 _ ?side1 A8.out).mono ?_); (case side1 => exact Kd.R_V (Kd.R_tight rfl (HO_5.out))); rintro e w10 ⟨v197, rfl, ho0, hb⟩; have HO198 := ka (Kd.V_lower (Kd.V_mono (ok' := fun k_ => (w.heap.size ≤ k_)) ho0 (fun k_ hk_ => Or.elim hk_ (fun hs_ => ((HO_5.out).1 k_ hs_.symm)) (fun hn_ => (Nat.le_trans (below_size (kw HB.out)) hn_)))) (below_size (kw HB.out))); replace HO_5 := ka (Kd.R_below (kr HO_5.out) hb); replace HB := ka (below_step (kw HB.out) hb); (try clear hb); (try clear hb2); (try clear hk); (try clear hi); (try clear ho0))); try go_wp2_with (first | (go_at_call 28; (with_reducible refine (trivetref01_norm.calls k1 (fun k_ => some k_ = (.slice Ao9 x5_1.length co9 : Value).ownBlock) _ _ x5_1 false t196 t199 _ ?side1 A8.out).mono ?_); (case side1 => exact Kd.R_V (Kd.R_tight rfl (HO_5.out))); rintro e w10 ⟨v197, rfl, ho0, hb⟩; have HO198 := ka (Kd.V_lower (Kd.V_mono (ok' := fun k_ => (w.heap.size ≤ k_)) ho0 (fun k_ hk_ => Or.elim hk_ (fun hs_ => ((HO_5.out).1 k_ hs_.symm)) (fun hn_ => (Nat.le_trans (below_size (kw HB.out)) hn_)))) (below_size (kw HB.out))); replace HO_5 := ka (Kd.R_below (kr HO_5.out) hb); replace HB := ka (below_step (kw HB.out) hb); (try clear hb); (try clear hb2); (try clear hk); (try clear hi); (try clear ho0))))
    go_ret
    exact ⟨_, by first | rfl | (simp [errW_none, errW_some] <;> rfl) | (simp [*, errW_none, errW_some] <;> rfl), by (with_reducible repeat (first | apply Kd.V_alloc | apply Kd.V_drewN | apply Kd.V_drew)); exact HO198.out, by repeat (first | (with_reducible first | exact HB.out | apply kc1 | apply kc2 | apply kc3) | exact HB.out)⟩

/-! ### trivetref01_minus: function 30, its laws -/
theorem trivetref01_minus.loop (n : Nat) : ∀ (k : Nat) (a b acc : List Int) (c : Int) (i : Nat), U.Dg a → U.Dg b → U.Dg acc → 0 ≤ c ∧ c ≤ 1 → a.length = i + n → b.length ≤ a.length → acc.length = i → i + n < 500000 → U.val b ≤ U.val a → U.val acc + 65536 ^ i * (U.val (a.drop i) - U.val (b.drop i) - c) = U.val a - U.val b → 2 * n + i + 4 ≤ k →
  trivetref01_minus.l0 k a b acc c i = some (U.dig (U.val a - U.val b)) := by
 induction n with
 | zero =>
  intro k a b acc c i ha hb hacc hc la lb hl hi hv hi2 hk
  obtain ⟨j, rfl⟩ : ∃ j, k = j + 1 := ⟨k - 1, by omega⟩
  rw [List.drop_eq_nil_of_le (by omega), List.drop_eq_nil_of_le (by omega)] at hi2
  simp only [U.val] at hi2
  have hlt := U.val_lt hacc
  have h0 := U.val_nonneg hacc
  rw [hl] at hlt
  have hp := U.pow_pos i
  have ec : c = 0 := by
   refine Classical.byContradiction fun hn => ?_
   have : c = 1 := by omega
   subst this
   have e : (65536 : Int) ^ i * (0 - 0 - 1) = -65536 ^ i := by omega
   rw [e] at hi2
   omega
  subst ec
  have hi3 : U.val acc = U.val a - U.val b := by simpa using hi2
  simp only [trivetref01_minus.l0]
  rw [if_neg (by omega), trivetref01_norm.tells j acc false hacc (by omega) (by omega), hi3]
  rfl
 | succ n ih =>
  intro k a b acc c i ha hb hacc hc la lb hl hi hv hi2 hk
  obtain ⟨j, rfl⟩ : ∃ j, k = j + 1 := ⟨k - 1, by omega⟩
  have ga := ha.get i
  have gb := hb.get i
  have ra : rd a (i : Int) = a.getD i 0 := rfl
  rw [U.drop_step a i, U.drop_step b i] at hi2
  simp only [trivetref01_minus.l0]
  rw [if_pos (by omega), if_pos (by omega), trivetref01_at.num, Option.bind_some, if_pos (by omega), ra]
  have ih' := fun q r => ih j a b (acc ++ [r]) q (i + 1) ha hb
  generalize a.getD i 0 = x at *
  generalize b.getD i 0 = y at *
  rw [M.wrapu_id (n := 65536 + x) (by omega) (by omega), M.wrapu_id (n := 65536 + x - y) (by omega) (by omega), M.wrapu_id (n := 65536 + x - y - c) (by omega) (by omega), M.tdivu (show 0 ≤ 65536 + x - y - c by omega), M.tmodu (show 0 ≤ 65536 + x - y - c by omega), M.wrapu_id (n := (65536 + x - y - c) / 65536) (by omega) (by omega), M.wrapu_id (n := 1 - (65536 + x - y - c) / 65536) (by omega) (by omega), M.w64_id (n := (i : Int) + 1) (by omega) (by omega)]
  refine ih' _ _ (hacc.add (U.Dg.one (by omega))) (by omega) (by omega) lb (by simp; omega) (by omega) hv ?_ (by omega)
  rw [← hi2, U.val_append, U.val_one, hl, U.pow_succ]
  generalize U.val (a.drop (i + 1)) = u
  generalize U.val (b.drop (i + 1)) = v
  have : x + 65536 * u - (y + 65536 * v) - c = (65536 + x - y - c) % 65536 + 65536 * (u - v - (1 - (65536 + x - y - c) / 65536)) := by omega
  rw [this]
  generalize (65536 + x - y - c) % 65536 = r
  generalize u - v - (1 - (65536 + x - y - c) / 65536) = s
  generalize (65536 : Int) ^ i = p
  rw [Int.mul_add, Int.mul_comm 65536 p, Int.mul_assoc, Int.add_assoc]
theorem trivetref01_minus.num (k : Nat) (x y : Int) (hy : 0 ≤ y) (hxy : y ≤ x) (lx : (U.dig x).length ≤ 1000) (hk : 2 * (U.dig x).length + 4 ≤ k) : trivetref01_minus.f k (U.dig x) (U.dig y) = some (U.dig (x - y)) := by
 have ax := U.val_dig (n := x) (by omega)
 have ay := U.val_dig hy
 have ly : (U.dig y).length ≤ (U.dig x).length := by
  have h1 := U.val_lt (U.dig_dg x)
  rw [ax] at h1
  exact U.len_dig (U.dig x).length y (by omega)
 have := trivetref01_minus.loop (U.dig x).length k (U.dig x) (U.dig y) [] 0 0 (U.dig_dg x) (U.dig_dg y) U.Dg.nil (by omega) (by omega) ly rfl (by omega) (by omega) (by simp [U.val]) (by omega)
 rw [ax, ay] at this
 exact this

end Go.Proofs.Ytcpmfdagnchlbaa.P
