import Derived.Test.YtjbdeccohpbegaaVH
import Derived.Test.YtjbdeccohpbegaaVAl
namespace Go.Proofs.Ytjbdeccohpbegaa.Vm
open Go Go.RowKit Go.Proofs Go.Proofs.Ytjbdeccohpbegaa.X
set_option linter.unusedVariables false
set_option linter.unusedSimpArgs false
noncomputable section
/-! VmWorth: bytes put together, the twelve instructions, the law -/
theorem or8 (u b : Int) (hu : 0 ≤ u ∧ u < 72057594037927936) (hb : 0 ≤ b ∧ b < 256) :
    IntKind.u64.wrap (↑(BitVec.ofInt IntKind.u64.bits (IntKind.u64.wrap (u * (2 : Int) ^ min (Int.toNat (8 : Int)) IntKind.u64.bits)) ||| BitVec.ofInt IntKind.u64.bits (IntKind.u64.wrap b)).toNat : Int) = u * 256 + b := by
  obtain ⟨n, rfl⟩ : ∃ n : Nat, u = n := ⟨u.toNat, by omega⟩
  obtain ⟨c, rfl⟩ : ∃ c : Nat, b = c := ⟨b.toNat, by omega⟩
  rw [show (2 : Int) ^ min (Int.toNat (8 : Int)) IntKind.u64.bits = 256 from by decide]
  rw [IntKind.wrap_u64, IntKind.wrap_u64, IntKind.wrap_u64]
  rw [show ((n : Int) * 256) % 18446744073709551616 = ((n * 256 : Nat) : Int) by omega, show ((c : Int)) % 18446744073709551616 = ((c : Nat) : Int) by omega]
  rw [BitVec.ofInt_natCast, BitVec.ofInt_natCast, BitVec.toNat_or, BitVec.toNat_ofNat, BitVec.toNat_ofNat]
  rw [Nat.mod_eq_of_lt (show n * 256 < 2 ^ IntKind.u64.bits from by show n * 256 < 2 ^ 64; omega), Nat.mod_eq_of_lt (show c < 2 ^ IntKind.u64.bits from by show c < 2 ^ 64; omega)]
  have h := Nat.shiftLeft_add_eq_or_of_lt (show c < 2 ^ 8 by omega) n
  rw [Nat.shiftLeft_eq] at h
  rw [show (n * 256 ||| c) = n * 256 + c from h.symm]
  omega
theorem bt_at (v j e : Int) (he : (2 : Int) ^ min (IntKind.i64.wrap (8 * j)).toNat IntKind.i64.bits = e) (h : 0 < e) : bt v j = v / e % 256 := by
  rw [bt, he, Int.fdiv_eq_ediv_of_nonneg _ (by omega), IntKind.wrap_u8]
abbrev WS (o x y : Int) (c : List Int) (u i : Int) : ((Int × Unit) × (Int × Unit) × (Int × Unit) × (List Int × Unit) × (Int × Unit) × (Int × Unit) × Unit) × Unit := (((o, ()), (x, ()), (y, ()), (c, ()), (u, ()), (i, ()), ()), ())
theorem wl {k : Nat} {o x y u b : Int} (c : List Int) (i i' : Int) (hi' : i - 1 = i') (hi : 0 ≤ i ∧ i ≤ 7) (hc : c.length = 8) (hg : ub c i.toNat = b) (hb : 0 ≤ b ∧ b < 256) (hu : 0 ≤ u ∧ u < 72057594037927936) :
    loopN e6_0 (k + 1) (WS o x y c u i) = loopN e6_0 k (WS o x y c (u * 256 + b) i') := by
  subst hi'
  rw [loopN_succ, e6_0]
  simp only []
  rw [cpos hi.1, cpos (by omega), hg, or8 u b hu hb, wrapId (by omega) (by omega)]
theorem back (k : Nat) (o x y v : Int) (hv : -9223372036854775808 ≤ v ∧ v < 9223372036854775808) : ∃ u, IntKind.i64.wrap u = v ∧ loopN e6_0 (k + 60) (WS o x y (by8 v) 0 7) = loopN e6_0 (k + 51 + 1) (WS o x y (by8 v) u (-1)) := by
  have b0 := bt_at v 0 1 (by decide) (by decide)
  have b1 := bt_at v 1 256 (by decide) (by decide)
  have b2 := bt_at v 2 65536 (by decide) (by decide)
  have b3 := bt_at v 3 16777216 (by decide) (by decide)
  have b4 := bt_at v 4 4294967296 (by decide) (by decide)
  have b5 := bt_at v 5 1099511627776 (by decide) (by decide)
  have b6 := bt_at v 6 281474976710656 (by decide) (by decide)
  have b7 := bt_at v 7 72057594037927936 (by decide) (by decide)
  obtain ⟨q1, h1⟩ : ∃ q, q = v / 256 := ⟨_, rfl⟩
  obtain ⟨q2, h2⟩ : ∃ q, q = q1 / 256 := ⟨_, rfl⟩
  obtain ⟨q3, h3⟩ : ∃ q, q = q2 / 256 := ⟨_, rfl⟩
  obtain ⟨q4, h4⟩ : ∃ q, q = q3 / 256 := ⟨_, rfl⟩
  obtain ⟨q5, h5⟩ : ∃ q, q = q4 / 256 := ⟨_, rfl⟩
  obtain ⟨q6, h6⟩ : ∃ q, q = q5 / 256 := ⟨_, rfl⟩
  obtain ⟨q7, h7⟩ : ∃ q, q = q6 / 256 := ⟨_, rfl⟩
  obtain ⟨q8, h8⟩ : ∃ q, q = q7 / 256 := ⟨_, rfl⟩
  have e2 : v / 65536 = q2 := by omega
  have e3 : v / 16777216 = q3 := by rw [h3, ← e2]; omega
  have e4 : v / 4294967296 = q4 := by rw [h4, ← e3]; omega
  have e5 : v / 1099511627776 = q5 := by rw [h5, ← e4]; omega
  have e6 : v / 281474976710656 = q6 := by rw [h6, ← e5]; omega
  have e7 : v / 72057594037927936 = q7 := by rw [h7, ← e6]; omega
  rw [Int.ediv_one] at b0
  rw [← h1] at b1
  rw [e2] at b2
  rw [e3] at b3
  rw [e4] at b4
  rw [e5] at b5
  rw [e6] at b6
  rw [e7] at b7
  generalize hx0 : bt v 0 = x0 at *
  generalize hx1 : bt v 1 = x1 at *
  generalize hx2 : bt v 2 = x2 at *
  generalize hx3 : bt v 3 = x3 at *
  generalize hx4 : bt v 4 = x4 at *
  generalize hx5 : bt v 5 = x5 at *
  generalize hx6 : bt v 6 = x6 at *
  generalize hx7 : bt v 7 = x7 at *
  have hby : by8 v = [x0, x1, x2, x3, x4, x5, x6, x7] := by rw [by8, hx0, hx1, hx2, hx3, hx4, hx5, hx6, hx7]
  rw [hby]
  obtain ⟨C, hC⟩ : ∃ C : List Int, C = [x0, x1, x2, x3, x4, x5, x6, x7] := ⟨_, rfl⟩
  rw [← hC]
  have r1 : q1 * 256 + x0 = v := by omega
  have r2 : q2 * 256 + x1 = q1 := by omega
  have r3 : q3 * 256 + x2 = q2 := by omega
  have r4 : q4 * 256 + x3 = q3 := by omega
  have r5 : q5 * 256 + x4 = q4 := by omega
  have r6 : q6 * 256 + x5 = q5 := by omega
  have r7 : q7 * 256 + x6 = q6 := by omega
  have r8 : q8 * 256 + x7 = q7 := by omega
  have g0 : 0 ≤ x0 ∧ x0 < 256 := by omega
  have g1 : 0 ≤ x1 ∧ x1 < 256 := by omega
  have g2 : 0 ≤ x2 ∧ x2 < 256 := by omega
  have g3 : 0 ≤ x3 ∧ x3 < 256 := by omega
  have g4 : 0 ≤ x4 ∧ x4 < 256 := by omega
  have g5 : 0 ≤ x5 ∧ x5 < 256 := by omega
  have g6 : 0 ≤ x6 ∧ x6 < 256 := by omega
  have g7 : 0 ≤ x7 ∧ x7 < 256 := by omega
  clear b0 b1 b2 b3 b4 b5 b6 b7 h1 h2 h3 h4 h5 h6 h7 h8 e2 e3 e4 e5 e6 e7 hx0 hx1 hx2 hx3 hx4 hx5 hx6 hx7 hby
  have s7 : (0 : Int) * 256 + x7 = x7 := by omega
  refine ⟨((((((x7 * 256 + x6) * 256 + x5) * 256 + x4) * 256 + x3) * 256 + x2) * 256 + x1) * 256 + x0, ?_, ?_⟩
  · rw [IntKind.wrap_i64]
    omega
  show loopN e6_0 (k + 59 + 1) _ = _
  rw [wl C 7 (6) (by decide) (by decide) (by rw [hC]; rfl) (show ub C _ = x7 from by rw [hC]; rfl) g7 (by decide), s7]
  show loopN e6_0 (k + 58 + 1) _ = _
  rw [wl C 6 (5) (by decide) (by decide) (by rw [hC]; rfl) (show ub C _ = x6 from by rw [hC]; rfl) g6 (by omega)]
  show loopN e6_0 (k + 57 + 1) _ = _
  rw [wl C 5 (4) (by decide) (by decide) (by rw [hC]; rfl) (show ub C _ = x5 from by rw [hC]; rfl) g5 (by omega)]
  show loopN e6_0 (k + 56 + 1) _ = _
  rw [wl C 4 (3) (by decide) (by decide) (by rw [hC]; rfl) (show ub C _ = x4 from by rw [hC]; rfl) g4 (by omega)]
  show loopN e6_0 (k + 55 + 1) _ = _
  rw [wl C 3 (2) (by decide) (by decide) (by rw [hC]; rfl) (show ub C _ = x3 from by rw [hC]; rfl) g3 (by omega)]
  show loopN e6_0 (k + 54 + 1) _ = _
  rw [wl C 2 (1) (by decide) (by decide) (by rw [hC]; rfl) (show ub C _ = x2 from by rw [hC]; rfl) g2 (by omega)]
  show loopN e6_0 (k + 53 + 1) _ = _
  rw [wl C 1 (0) (by decide) (by decide) (by rw [hC]; rfl) (show ub C _ = x1 from by rw [hC]; rfl) g1 (by omega)]
  show loopN e6_0 (k + 52 + 1) _ = _
  rw [wl C 0 (-1) (by decide) (by decide) (by rw [hC]; rfl) (show ub C _ = x0 from by rw [hC]; rfl) g0 (by omega)]

theorem ins_eq (k : Nat) (p n : Int) : f19 k (((p, ()), (n, ()), ()), ()) = some ((((p, n), ()), ()), ()) := by kernel_rfl
theorem mod_eq (k : Nat) (c : List (Int × Int)) : f18 k (((c, ()), ()), ()) = some (((((0 : Int), [], one c), ()), ()), ()) := by kernel_rfl
theorem beg_w (k : Nat) (o a b : Int) : f10 (k + 60) ((((), ()), ((0 : Int), ()), ((0 : Int), ()), ((0 : Int), ()), ()), MW o a b, memOf 8 [], [], ()) = some ((((0 : Int), ()), ()), MW o a b, z8, (), [(0, 0, [0, 0, 0], [])], ()) := by kernel_rfl
theorem mem8 (k : Nat) (o a b v : Int) : f13 (k + 60) ((((), ()), ((0 : Int), ()), ((8 : Int), ()), ()), MW o a b, by8 v, [], ()) = some (((by8 v, ()), (true, ()), ()), ()) := by kernel_rfl
theorem okI (k : Nat) (o a b : Int) (ho : 7 ≤ o ∧ o ≤ 18) (p : Nat) (hp : p < (cw o a b).length) : OkI k 8 [] (one (cw o a b)) 0 3 0 ((cw o a b).length : Int) (ca (cw o a b) p) := by
  have no : ∀ x y : Int, (x ≠ 5 ∧ x ≠ 6 ∧ x ≠ 24 ∧ x ≠ 25 ∧ x ≠ 26 ∧ x ≠ 28) → OkI k 8 [] (one (cw o a b)) 0 3 0 ((cw o a b).length : Int) (x, y) := fun x y h => ⟨fun q => by simp only at q; omega, fun q => by simp only at q; omega, fun q => by simp only at q; omega⟩
  have hp6 : p < 6 := hp
  match p, hp6 with
  | 0, _ => exact no 1 0 (by decide)
  | 1, _ => exact no 1 a (by decide)
  | 2, _ => exact no 1 b (by decide)
  | 3, _ => exact no o 0 (by omega)
  | 4, _ => exact no 23 0 (by decide)
  | 5, _ => exact no 27 0 (by decide)
  | p + 6, h => omega
theorem opv_in (op : Int) : 7 ≤ opv op ∧ opv op ≤ 18 := by
  have hx : ∃ n : Nat, (↑(BitVec.ofInt IntKind.i64.bits op &&& BitVec.ofInt IntKind.i64.bits (1023 : Int)).toNat : Int) = n ∧ n < 1024 := by
    refine ⟨_, rfl, ?_⟩
    rw [BitVec.toNat_and]
    exact Nat.lt_of_le_of_lt Nat.and_le_right (by decide)
  obtain ⟨n, hn, hl⟩ := hx
  rw [opv, hn, wrapId (n := (n : Int)) (by omega) (by omega), Int.tmod_eq_emod_of_nonneg (by omega)]
  have h1 : 0 ≤ (n : Int) % 12 := by omega
  have h2 : (n : Int) % 12 < 12 := by omega
  rw [wrapId (by omega) (by omega)]
  omega
theorem law_of (k : Nat) (hk : 2000 ≤ k + 60) (op a b v : Int) (hv : -9223372036854775808 ≤ v ∧ v < 9223372036854775808) (h0 : opv op = 10 ∨ opv op = 11 → b ≠ 0)
    (hc : f20 (k + 60) ((((8, [], one (cw (opv op) a b)), ()), ()), ()) = r20 0 0 0) (h4 : f26 (k + 60) (SW (opv op) a b 3 [0, a, b]) = RW (opv op) a b 4 [0, v])
    (hf : ∀ u, IntKind.i64.wrap u = v → loopN e6_0 (k + 51 + 1) (WS (opv op) a b (by8 v) u (-1)) = some (((true, ()), ()), ())) : f6 (k + 60) (((op, ()), (a, ()), (b, ()), ()), ()) = some (((true, ()), ()), ()) := by
  rw [e6_eq, alive, Option.bind_some]
  simp only []
  rw [Bool.not_true, cond_false]
  rw [ins_eq, Option.bind_some, ins_eq, Option.bind_some, ins_eq, Option.bind_some, ins_eq, Option.bind_some, ins_eq, Option.bind_some, ins_eq, Option.bind_some, mod_eq, Option.bind_some]
  simp only []
  rw [new1 (k + 60) hk 8 [] (cw (opv op) a b) (by decide) (by simp only [List.length_cons, List.length_nil]; omega) hc, Option.bind_some]
  simp only []
  rw [nneg rfl, cond_false, beg_w, Option.bind_some]
  simp only []
  rw [nneg rfl, cond_false, run_worth k _ a b v h4, Option.bind_some]
  simp only []
  obtain ⟨u, hu, hl⟩ := back k (opv op) a b v hv
  have fin := hl.trans (hf u hu)
  by_cases h10 : opv op = 10
  · rw [bpos h10, cond_true, bneg (h0 (.inl h10)), cond_false, mem8, Option.bind_some]
    exact fin
  · rw [bneg h10, cond_false]
    by_cases h11 : opv op = 11
    · rw [bpos h11, cond_true, bneg (h0 (.inr h11)), cond_false, mem8, Option.bind_some]
      exact fin
    · rw [bneg h11, cond_false, mem8, Option.bind_some]
      exact fin
theorem law_zero (k : Nat) (hk : 2000 ≤ k + 60) (op a b : Int) (h0 : opv op = 10 ∨ opv op = 11) (hb : b = 0)
    (hc : f20 (k + 60) ((((8, [], one (cw (opv op) a b)), ()), ()), ()) = r20 0 0 0) (h4 : f26 (k + 60) (SW (opv op) a b 3 [0, a, b]) = some ((), MS 8 [] (one (cw (opv op) a b)) false 0 [] 1, z8, (), [(0, 4, [0, 0, 0], [0])], ())) : f6 (k + 60) (((op, ()), (a, ()), (b, ()), ()), ()) = some (((true, ()), ()), ()) := by
  rw [e6_eq, alive, Option.bind_some]
  simp only []
  rw [Bool.not_true, cond_false]
  rw [ins_eq, Option.bind_some, ins_eq, Option.bind_some, ins_eq, Option.bind_some, ins_eq, Option.bind_some, ins_eq, Option.bind_some, ins_eq, Option.bind_some, mod_eq, Option.bind_some]
  simp only []
  rw [new1 (k + 60) hk 8 [] (cw (opv op) a b) (by decide) (by simp only [List.length_cons, List.length_nil]; omega) hc, Option.bind_some]
  simp only []
  rw [nneg rfl, cond_false, beg_w, Option.bind_some]
  simp only []
  rw [nneg rfl, cond_false, run_zero k _ a b (M := MW 0 0 0) h4, Option.bind_some]
  simp only []
  by_cases h10 : opv op = 10
  · rw [bpos h10, cond_true, bpos hb, cond_true]
    rfl
  · rw [bneg h10, cond_false, bpos (h0.resolve_left h10), cond_true, bpos hb, cond_true]
    rfl

theorem in_wrap (x : Int) : -9223372036854775808 ≤ IntKind.i64.wrap x ∧ IntKind.i64.wrap x < 9223372036854775808 := by
  rw [IntKind.wrap_i64]; omega
theorem in_sh (b : Int) : (0 : Int) ≤ IntKind.u64.wrap (IntKind.i64.wrap (↑(BitVec.ofInt IntKind.i64.bits b &&& BitVec.ofInt IntKind.i64.bits (63 : Int)).toNat : Int)) := by
  rw [IntKind.wrap_u64]; omega
theorem in_fdiv (a : Int) (n : Nat) (ha : -9223372036854775808 ≤ a ∧ a < 9223372036854775808) : -9223372036854775808 ≤ a.fdiv ((2 : Int) ^ n) ∧ a.fdiv ((2 : Int) ^ n) < 9223372036854775808 := by
  have hp : (0 : Int) < (2 : Int) ^ n := Int.pow_pos (by decide)
  rw [Int.fdiv_eq_ediv_of_nonneg _ (by omega)]
  constructor
  · exact Int.le_ediv_of_mul_le hp (by
      have : (-9223372036854775808 : Int) * 2 ^ n ≤ -9223372036854775808 * 1 := Int.mul_le_mul_of_nonpos_left (by decide) (by omega)
      omega)
  · exact Int.ediv_lt_of_lt_mul hp (by
      have : (9223372036854775808 : Int) * 1 ≤ 9223372036854775808 * 2 ^ n := Int.mul_le_mul_of_nonneg_left (by omega) (by decide)
      omega)
theorem in_tmod (a b : Int) (ha : -9223372036854775808 ≤ a ∧ a < 9223372036854775808) : -9223372036854775808 ≤ a.tmod b ∧ a.tmod b < 9223372036854775808 := by
  have h1 : (a.tmod b).natAbs ≤ a.natAbs := by rw [Int.natAbs_tmod]; exact Nat.mod_le _ _
  have h2 : 0 ≤ a → 0 ≤ a.tmod b := fun h => Int.tmod_nonneg b h
  have h3 : a ≤ 0 → 0 ≤ (-a).tmod b := fun h => Int.tmod_nonneg b (by omega)
  rw [Int.neg_tmod] at h3
  omega
theorem law_at (k : Nat) (hk : 2000 ≤ k + 60) (op a b : Int) (ha : -9223372036854775808 ≤ a ∧ a < 9223372036854775808) : f6 (k + 60) (((op, ()), (a, ()), (b, ()), ()), ()) = some (((true, ()), ()), ()) := by
  have hO := opv_in op
  rcases (show opv op = 7 ∨ opv op = 8 ∨ opv op = 9 ∨ opv op = 10 ∨ opv op = 11 ∨ opv op = 12 ∨ opv op = 13 ∨ opv op = 14 ∨ opv op = 15 ∨ opv op = 16 ∨ opv op = 17 ∨ opv op = 18 by omega) with h | h | h | h | h | h | h | h | h | h | h | h
  · have hc : f20 (k + 60) ((((8, [], one (cw 7 a b)), ()), ()), ()) = r20 0 0 0 := check1 (k + 60) hk 8 [] (cw 7 a b) (by decide) (by simp only [List.length_cons, List.length_nil]; omega) (rt7 k a b) (okI (k + 60) 7 a b (by decide)) ⟨_, hh7 k a b⟩
    refine law_of k hk op a b (IntKind.i64.wrap (a + b)) (in_wrap _) (fun q => by omega) (by rw [h]; exact hc) ?_ fun u hu => ?_
    · rw [h, bs7, bo7]
      rfl
    · rw [h]
      refine (tl7 (k + 51) a b u _).trans ?_
      rw [bpos hu]
  · have hc : f20 (k + 60) ((((8, [], one (cw 8 a b)), ()), ()), ()) = r20 0 0 0 := check1 (k + 60) hk 8 [] (cw 8 a b) (by decide) (by simp only [List.length_cons, List.length_nil]; omega) (rt8 k a b) (okI (k + 60) 8 a b (by decide)) ⟨_, hh8 k a b⟩
    refine law_of k hk op a b (IntKind.i64.wrap (a - b)) (in_wrap _) (fun q => by omega) (by rw [h]; exact hc) ?_ fun u hu => ?_
    · rw [h, bs8, bo8]
      rfl
    · rw [h]
      refine (tl8 (k + 51) a b u _).trans ?_
      rw [bpos hu]
  · have hc : f20 (k + 60) ((((8, [], one (cw 9 a b)), ()), ()), ()) = r20 0 0 0 := check1 (k + 60) hk 8 [] (cw 9 a b) (by decide) (by simp only [List.length_cons, List.length_nil]; omega) (rt9 k a b) (okI (k + 60) 9 a b (by decide)) ⟨_, hh9 k a b⟩
    refine law_of k hk op a b (IntKind.i64.wrap (a * b)) (in_wrap _) (fun q => by omega) (by rw [h]; exact hc) ?_ fun u hu => ?_
    · rw [h, bs9, bo9]
      rfl
    · rw [h]
      refine (tl9 (k + 51) a b u _).trans ?_
      rw [bpos hu]
  · have hc : f20 (k + 60) ((((8, [], one (cw 10 a b)), ()), ()), ()) = r20 0 0 0 := check1 (k + 60) hk 8 [] (cw 10 a b) (by decide) (by simp only [List.length_cons, List.length_nil]; omega) (rt10 k a b) (okI (k + 60) 10 a b (by decide)) ⟨_, hh10 k a b⟩
    by_cases hb : b = 0
    · refine law_zero k hk op a b (by omega) hb (by rw [h]; exact hc) ?_
      rw [h, bs10, bo10, bpos hb, cond_true]
      rfl
    · refine law_of k hk op a b (IntKind.i64.wrap (a.tdiv b)) (in_wrap _) (fun _ => hb) (by rw [h]; exact hc) ?_ fun u hu => ?_
      · rw [h, bs10, bo10, bneg hb, cond_false, cpos hb]
        rfl
      · rw [h]
        refine (tl10 (k + 51) a b u _).trans ?_
        rw [cpos hb, bpos hu]
  · have hc : f20 (k + 60) ((((8, [], one (cw 11 a b)), ()), ()), ()) = r20 0 0 0 := check1 (k + 60) hk 8 [] (cw 11 a b) (by decide) (by simp only [List.length_cons, List.length_nil]; omega) (rt11 k a b) (okI (k + 60) 11 a b (by decide)) ⟨_, hh11 k a b⟩
    by_cases hb : b = 0
    · refine law_zero k hk op a b (by omega) hb (by rw [h]; exact hc) ?_
      rw [h, bs11, bo11, bpos hb, cond_true]
      rfl
    · refine law_of k hk op a b (a.tmod b) (in_tmod a b ha) (fun _ => hb) (by rw [h]; exact hc) ?_ fun u hu => ?_
      · rw [h, bs11, bo11, bneg hb, cond_false, cpos hb]
        rfl
      · rw [h]
        refine (tl11 (k + 51) a b u _).trans ?_
        rw [cpos hb, bpos hu]
  · have hc : f20 (k + 60) ((((8, [], one (cw 12 a b)), ()), ()), ()) = r20 0 0 0 := check1 (k + 60) hk 8 [] (cw 12 a b) (by decide) (by simp only [List.length_cons, List.length_nil]; omega) (rt12 k a b) (okI (k + 60) 12 a b (by decide)) ⟨_, hh12 k a b⟩
    refine law_of k hk op a b (IntKind.i64.wrap (↑(BitVec.ofInt IntKind.i64.bits a &&& BitVec.ofInt IntKind.i64.bits b).toNat : Int)) (in_wrap _) (fun q => by omega) (by rw [h]; exact hc) ?_ fun u hu => ?_
    · rw [h, bs12, bo12]
      rfl
    · rw [h]
      refine (tl12 (k + 51) a b u _).trans ?_
      rw [bpos hu]
  · have hc : f20 (k + 60) ((((8, [], one (cw 13 a b)), ()), ()), ()) = r20 0 0 0 := check1 (k + 60) hk 8 [] (cw 13 a b) (by decide) (by simp only [List.length_cons, List.length_nil]; omega) (rt13 k a b) (okI (k + 60) 13 a b (by decide)) ⟨_, hh13 k a b⟩
    refine law_of k hk op a b (IntKind.i64.wrap (↑(BitVec.ofInt IntKind.i64.bits a ||| BitVec.ofInt IntKind.i64.bits b).toNat : Int)) (in_wrap _) (fun q => by omega) (by rw [h]; exact hc) ?_ fun u hu => ?_
    · rw [h, bs13, bo13]
      rfl
    · rw [h]
      refine (tl13 (k + 51) a b u _).trans ?_
      rw [bpos hu]
  · have hc : f20 (k + 60) ((((8, [], one (cw 14 a b)), ()), ()), ()) = r20 0 0 0 := check1 (k + 60) hk 8 [] (cw 14 a b) (by decide) (by simp only [List.length_cons, List.length_nil]; omega) (rt14 k a b) (okI (k + 60) 14 a b (by decide)) ⟨_, hh14 k a b⟩
    refine law_of k hk op a b (IntKind.i64.wrap (↑(BitVec.ofInt IntKind.i64.bits a ^^^ BitVec.ofInt IntKind.i64.bits b).toNat : Int)) (in_wrap _) (fun q => by omega) (by rw [h]; exact hc) ?_ fun u hu => ?_
    · rw [h, bs14, bo14]
      rfl
    · rw [h]
      refine (tl14 (k + 51) a b u _).trans ?_
      rw [bpos hu]
  · have hc : f20 (k + 60) ((((8, [], one (cw 15 a b)), ()), ()), ()) = r20 0 0 0 := check1 (k + 60) hk 8 [] (cw 15 a b) (by decide) (by simp only [List.length_cons, List.length_nil]; omega) (rt15 k a b) (okI (k + 60) 15 a b (by decide)) ⟨_, hh15 k a b⟩
    refine law_of k hk op a b (IntKind.i64.wrap (a * (2 : Int) ^ min (IntKind.u64.wrap (IntKind.i64.wrap (↑(BitVec.ofInt IntKind.i64.bits b &&& BitVec.ofInt IntKind.i64.bits (63 : Int)).toNat : Int))).toNat IntKind.i64.bits)) (in_wrap _) (fun q => by omega) (by rw [h]; exact hc) ?_ fun u hu => ?_
    · rw [h, bs15, bo15, cpos (in_sh b)]
      rfl
    · rw [h]
      refine (tl15 (k + 51) a b u _).trans ?_
      rw [cpos (in_sh b), bpos hu]
  · have hc : f20 (k + 60) ((((8, [], one (cw 16 a b)), ()), ()), ()) = r20 0 0 0 := check1 (k + 60) hk 8 [] (cw 16 a b) (by decide) (by simp only [List.length_cons, List.length_nil]; omega) (rt16 k a b) (okI (k + 60) 16 a b (by decide)) ⟨_, hh16 k a b⟩
    refine law_of k hk op a b (a.fdiv ((2 : Int) ^ min (IntKind.u64.wrap (IntKind.i64.wrap (↑(BitVec.ofInt IntKind.i64.bits b &&& BitVec.ofInt IntKind.i64.bits (63 : Int)).toNat : Int))).toNat IntKind.i64.bits)) (in_fdiv a _ ha) (fun q => by omega) (by rw [h]; exact hc) ?_ fun u hu => ?_
    · rw [h, bs16, bo16, cpos (in_sh b)]
      rfl
    · rw [h]
      refine (tl16 (k + 51) a b u _).trans ?_
      rw [cpos (in_sh b), bpos hu]
  · have hc : f20 (k + 60) ((((8, [], one (cw 17 a b)), ()), ()), ()) = r20 0 0 0 := check1 (k + 60) hk 8 [] (cw 17 a b) (by decide) (by simp only [List.length_cons, List.length_nil]; omega) (rt17 k a b) (okI (k + 60) 17 a b (by decide)) ⟨_, hh17 k a b⟩
    refine law_of k hk op a b (cond (a == b) (1 : Int) 0) (by cases a == b <;> decide) (fun q => by omega) (by rw [h]; exact hc) ?_ fun u hu => ?_
    · rw [h, bs17, bo17]
      rfl
    · rw [h]
      refine (tl17 (k + 51) a b u _).trans ?_
      rw [hu]
      cases a == b <;> rfl
  · have hc : f20 (k + 60) ((((8, [], one (cw 18 a b)), ()), ()), ()) = r20 0 0 0 := check1 (k + 60) hk 8 [] (cw 18 a b) (by decide) (by simp only [List.length_cons, List.length_nil]; omega) (rt18 k a b) (okI (k + 60) 18 a b (by decide)) ⟨_, hh18 k a b⟩
    refine law_of k hk op a b (cond (decide (a < b)) (1 : Int) 0) (by cases decide (a < b) <;> decide) (fun q => by omega) (by rw [h]; exact hc) ?_ fun u hu => ?_
    · rw [h, bs18, bo18]
      rfl
    · rw [h]
      refine (tl18 (k + 51) a b u _).trans ?_
      rw [hu]
      cases decide (a < b) <;> rfl

theorem law6 (k : Nat) : ∀ e ∈ [Fm.entry Try.prog F8 8 (f8 k), Fm.entry Try.prog F19 19 (f19 k), Fm.entry Try.prog F18 18 (f18 k), Fm.entry Try.prog F9 9 (f9 k), Fm.entry Try.prog F10 10 (f10 k), Fm.entry Try.prog F16 16 (f16 k), Fm.entry Try.prog F13 13 (f13 k)], EGood Try.prog e := goods_cons (g8 k) (goods_cons (g19 k) (goods_cons (g18 k) (goods_cons (g9 k) (goods_cons (g10 k) (goods_cons (g16 k) (goods_cons (g13 k) goods_nil))))))
theorem i64_of {n : Int} (h : (Lit.int .i64 n).wf = true) : -9223372036854775808 ≤ n ∧ n < 9223372036854775808 := by
  have h' : (decide (IntKind.i64.min ≤ n) && decide (n ≤ IntKind.i64.max)) = true := h
  rw [Bool.and_eq_true, decide_eq_true_eq, decide_eq_true_eq, show IntKind.i64.min = -9223372036854775808 from by decide, show IntKind.i64.max = 9223372036854775807 from by decide] at h'
  omega
theorem vmWorth (op a b : Int) (ha : (Lit.int .i64 a).wf = true) : f6 (2000 + 60) (((op, ()), (a, ()), (b, ()), ()), ()) = some (((true, ()), ()), ()) :=
  law_at 2000 (by decide) op a b (i64_of ha)
end
end Go.Proofs.Ytjbdeccohpbegaa.Vm
