import Derived.Test.YtopnjcclbepdoaaKH
namespace Go.Proofs.Ytopnjcclbepdoaa.Caps
open Go Go.RowKit Go.Proofs Go.Proofs.Ytopnjcclbepdoaa.X
set_option linter.unusedVariables false
set_option linter.unusedSimpArgs false
noncomputable section
/-! A style and a cell are taken just if they may be -/
theorem agg_arg {w : World} {s : Sh} {x : s.T} {v : Value} (hne : s.sz ≠ 1) (h : LR (R1 w (low w)) (s.dv x) v.cells.toList) : VA (fun _ => False) [] (fun _ => none) w (.v (.agg (s.avs x))) v := by
  have hl := h.length
  rw [dv_len] at hl
  have h2 : LR (R1 w (A (fun _ => False) [] (fun _ => none) w)) (s.dv x) v.cells.toList := LR.imp (fun d u hr => hr.mono (fun _ _ => rfl) fun k hk => ⟨hk, fun ⟨l, p, h, _⟩ => by simp [Heap.at, AO.isLive] at h, fun hf => hf⟩) h
  cases v with
  | agg cs => exact ⟨cs, rfl, V1_of_R1 s x _ h2⟩
  | _ => exact absurd hl hne
theorem e23_eq (k : Nat) (a : Int) : f23 k (((a, ()), ()), ()) = bif decide (a ≥ (0 : Int)) then
  bif decide (a ≤ (256 : Int)) then some (((true, ()), ()), ())
  else
    bif decide (a ≥ (16777216 : Int)) then some (((decide (a < (33554432 : Int)), ()), ()), ())
    else some (((false, ()), ()), ())
else
  bif decide (a ≥ (16777216 : Int)) then some (((decide (a < (33554432 : Int)), ()), ()), ())
  else some (((false, ()), ()), ()) := by kernel_rfl
theorem col2_ok (k : Nat) (a : Int) : f23 k (((a, ()), ()), ()) = some (((colB a, ()), ()), ()) := by
  rw [e23_eq]
  unfold colB
  simp only [ge_iff_le]
  by_cases h : 0 ≤ a <;> by_cases h2 : a ≤ 256 <;> by_cases h3 : 16777216 ≤ a <;> by_cases h4 : a < 33554432 <;> simp [h, h2, h3, h4]
theorem low5 (a : BitVec 64) : (a &&& ~~~(31#64)) = 0#64 ↔ a.toNat < 32 := by
  constructor
  · intro h
    refine Nat.lt_pow_two_of_testBit (n := 5) _ fun i hi => ?_
    have hb := congrArg (fun z => BitVec.getLsbD z i) h
    simp only [BitVec.getLsbD_and, BitVec.getLsbD_not, BitVec.getLsbD_zero] at hb
    have h31 : (31#64).getLsbD i = false := by
      show Nat.testBit 31 i = false
      exact Nat.testBit_lt_two_pow (Nat.lt_of_lt_of_le (by decide : 31 < 2 ^ 5) (Nat.pow_le_pow_right (by decide) hi))
    rw [h31] at hb
    by_cases h64 : i < 64
    · show a.getLsbD i = false
      rw [decide_eq_true h64] at hb
      simpa only [Bool.and_true, Bool.not_false, Bool.true_and] using hb
    · exact Nat.testBit_lt_two_pow (Nat.lt_of_lt_of_le a.isLt (Nat.pow_le_pow_right (by decide) (by omega)))
  · intro h
    apply BitVec.eq_of_getLsbD_eq
    intro i hi
    simp only [BitVec.getLsbD_and, BitVec.getLsbD_not, BitVec.getLsbD_zero, Bool.and_eq_false_iff]
    by_cases h5 : i < 5
    · right
      have : i = 0 ∨ i = 1 ∨ i = 2 ∨ i = 3 ∨ i = 4 := by omega
      rcases this with rfl | rfl | rfl | rfl | rfl <;> decide
    · left
      exact Nat.testBit_lt_two_pow (Nat.lt_of_lt_of_le h (Nat.pow_le_pow_right (n := 2) (by decide) (by omega : 5 ≤ i)))
theorem attr_ok (n : Int) (h0 : -9223372036854775808 ≤ n) (h1 : n < 9223372036854775808) : (IntKind.i64.wrap ((BitVec.ofInt IntKind.i64.bits n &&& ~~~BitVec.ofInt IntKind.i64.bits 31).toNat : Int) == 0) = decide (0 ≤ n ∧ n < 32) := by
  have hx := low5 (BitVec.ofInt 64 n)
  have hn : (BitVec.ofInt 64 n).toNat = (n % 18446744073709551616).toNat := BitVec.toNat_ofInt ..
  have e31 : (31#64) = BitVec.ofInt 64 31 := rfl
  rw [e31] at hx
  have h0' : (IntKind.i64.wrap ((BitVec.ofInt 64 n &&& ~~~BitVec.ofInt 64 31).toNat : Int) = 0) ↔ (BitVec.ofInt 64 n &&& ~~~BitVec.ofInt 64 31) = 0#64 := by
    constructor
    · intro hh
      have := congrArg (BitVec.ofInt 64) hh
      rw [ofInt_wrap] at this
      exact this
    · intro hh; rw [hh]; rfl
  have : (IntKind.i64.wrap ((BitVec.ofInt 64 n &&& ~~~BitVec.ofInt 64 31).toNat : Int) = 0) ↔ (0 ≤ n ∧ n < 32) := by
    rw [h0', hx, hn]; omega
  show (IntKind.i64.wrap ((BitVec.ofInt 64 n &&& ~~~BitVec.ofInt 64 31).toNat : Int) == 0) = _
  by_cases hq : 0 ≤ n ∧ n < 32
  · rw [decide_eq_true hq]; exact beq_iff_eq.mpr (this.2 hq)
  · rw [decide_eq_false hq]; exact beq_eq_false_iff_ne.mpr (fun hh => hq (this.1 hh))
theorem style_ok (k : Nat) (a b n : Int) (h0 : -9223372036854775808 ≤ n) (h1 : n < 9223372036854775808) : f48 k ((((a, b, n), ()), ()), ()) = some (((colB a && (colB b && decide (0 ≤ n ∧ n < 32)), ()), ()), ()) := by
  rw [e48_eq, col_ok, Option.bind_some, col_ok, Option.bind_some, attr_ok n h0 h1]
  cases colB a <;> cases colB b <;> rfl
abbrev E3 : Option (((CT × Unit) × (Int × Unit) × Unit) × Unit) := some (((c0 0 0, ()), (-3, ()), ()), ())
def may (x y c : Int) : Bool := (decide (0 ≤ x ∧ x ≤ 199) && decide (0 ≤ y ∧ y ≤ 199)) && (decide (0 ≤ c ∧ c ≤ 1114111) && (width (IntKind.i32.wrap c) == 1))
theorem ask0 (k : Nat) (x y c : Int) (hk : 20 ≤ k) : f19 k (((1, ()), (0, ()), ([x, y, c], ()), ([], ()), ()), ()) = bif may x y c then some ((((0, 0, x, y, 0, IntKind.i32.wrap c, (0, 0, 0), []), ()), (0, ()), ()), ()) else E3 := by
  rw [ask_ok, if_pos (by omega), if_pos (show cnt 0 = (([x, y, c] : List Int).length : Int) from rfl), if_pos (show and64 1 (need 0) = need 0 by decide), in0, rd0, side_ok, Option.bind_some, in_ok, Option.bind_some, width_ok k _ hk, Option.bind_some]
  unfold may
  cases (decide (0 ≤ x ∧ x ≤ 199) && decide (0 ≤ y ∧ y ≤ 199))
  · rfl
  · cases decide ((0 : Int) ≤ c ∧ c ≤ 1114111)
    · rfl
    · simp only [bne]
      cases (width (IntKind.i32.wrap c) == 1) <;> rfl
theorem ask1 (k : Nat) (a b n : Int) (h0 : -9223372036854775808 ≤ n) (h1 : n < 9223372036854775808) : f19 k (((1, ()), (1, ()), ([a, b, n], ()), ([], ()), ()), ()) = bif colB a && (colB b && decide (0 ≤ n ∧ n < 32)) then some ((((1, 0, 0, 0, 0, 0, (a, b, n), []), ()), (0, ()), ()), ()) else E3 := by
  rw [ask_ok, if_pos (by omega), if_pos (show cnt 1 = (([a, b, n] : List Int).length : Int) from rfl), if_pos (show and64 1 (need 1) = need 1 by decide), in1, rd1, style_ok k a b n h0 h1, Option.bind_some]
  cases (colB a && (colB b && decide (0 ≤ n ∧ n < 32))) <;> rfl
theorem e108_eq (k : Nat) (x : Int) (y : Int) (c : Int) (fg : Int) (bg : Int) (at_ : Int) : f108 k (((x, ()), (y, ()), (c, ()), ((fg, bg, at_), ()), ()), ()) = (f18 k ((), ())).bind fun v =>
  bif !v.1.1.1 then some (((false, ()), ()), ())
  else
    (f19 k ((((1 : Int), ()), ((0 : Int), ()), ([x, y, c], ()), ([], ()), ()), ())).bind fun v_1 =>
      (f19 k ((((1 : Int), ()), ((1 : Int), ()), ([fg, bg, at_], ()), ([], ()), ()), ())).bind fun v_2 =>
        ((f23 k (((fg, ()), ()), ())).bind fun v_3 =>
              bif v_3.1.1.1 then
                (f23 k (((bg, ()), ()), ())).bind fun v =>
                  bif v.1.1.1 then
                    bif decide (at_ ≥ (0 : Int)) then
                      some
                        (Sum.inl
                          (((x, ()), (y, ()), (c, ()), ((), ()), ((), ()), (v_1.1.2.1.1, ()), ((), ()),
                              (v_2.1.2.1.1, ()), (decide (at_ < (32 : Int)), ()), ()),
                            ((fg, bg, at_), ()),
                            ((v_1.1.1.1.1, v_1.1.1.1.2.1, v_1.1.1.1.2.2.1, v_1.1.1.1.2.2.2.1, v_1.1.1.1.2.2.2.2.1,
                                v_1.1.1.1.2.2.2.2.2.1,
                                (v_1.1.1.1.2.2.2.2.2.2.1.1, v_1.1.1.1.2.2.2.2.2.2.1.2.1, v_1.1.1.1.2.2.2.2.2.2.1.2.2),
                                v_1.1.1.1.2.2.2.2.2.2.2),
                              ()),
                            ((v_2.1.1.1.1, v_2.1.1.1.2.1, v_2.1.1.1.2.2.1, v_2.1.1.1.2.2.2.1, v_2.1.1.1.2.2.2.2.1,
                                v_2.1.1.1.2.2.2.2.2.1,
                                (v_2.1.1.1.2.2.2.2.2.2.1.1, v_2.1.1.1.2.2.2.2.2.2.1.2.1, v_2.1.1.1.2.2.2.2.2.2.1.2.2),
                                v_2.1.1.1.2.2.2.2.2.2.2),
                              ()),
                            ()))
                    else
                      some
                        (Sum.inl
                          (((x, ()), (y, ()), (c, ()), ((), ()), ((), ()), (v_1.1.2.1.1, ()), ((), ()),
                              (v_2.1.2.1.1, ()), (false, ()), ()),
                            ((fg, bg, at_), ()),
                            ((v_1.1.1.1.1, v_1.1.1.1.2.1, v_1.1.1.1.2.2.1, v_1.1.1.1.2.2.2.1, v_1.1.1.1.2.2.2.2.1,
                                v_1.1.1.1.2.2.2.2.2.1,
                                (v_1.1.1.1.2.2.2.2.2.2.1.1, v_1.1.1.1.2.2.2.2.2.2.1.2.1, v_1.1.1.1.2.2.2.2.2.2.1.2.2),
                                v_1.1.1.1.2.2.2.2.2.2.2),
                              ()),
                            ((v_2.1.1.1.1, v_2.1.1.1.2.1, v_2.1.1.1.2.2.1, v_2.1.1.1.2.2.2.1, v_2.1.1.1.2.2.2.2.1,
                                v_2.1.1.1.2.2.2.2.2.1,
                                (v_2.1.1.1.2.2.2.2.2.2.1.1, v_2.1.1.1.2.2.2.2.2.2.1.2.1, v_2.1.1.1.2.2.2.2.2.2.1.2.2),
                                v_2.1.1.1.2.2.2.2.2.2.2),
                              ()),
                            ()))
                  else
                    some
                      (Sum.inl
                        (((x, ()), (y, ()), (c, ()), ((), ()), ((), ()), (v_1.1.2.1.1, ()), ((), ()), (v_2.1.2.1.1, ()),
                            (false, ()), ()),
                          ((fg, bg, at_), ()),
                          ((v_1.1.1.1.1, v_1.1.1.1.2.1, v_1.1.1.1.2.2.1, v_1.1.1.1.2.2.2.1, v_1.1.1.1.2.2.2.2.1,
                              v_1.1.1.1.2.2.2.2.2.1,
                              (v_1.1.1.1.2.2.2.2.2.2.1.1, v_1.1.1.1.2.2.2.2.2.2.1.2.1, v_1.1.1.1.2.2.2.2.2.2.1.2.2),
                              v_1.1.1.1.2.2.2.2.2.2.2),
                            ()),
                          ((v_2.1.1.1.1, v_2.1.1.1.2.1, v_2.1.1.1.2.2.1, v_2.1.1.1.2.2.2.1, v_2.1.1.1.2.2.2.2.1,
                              v_2.1.1.1.2.2.2.2.2.1,
                              (v_2.1.1.1.2.2.2.2.2.2.1.1, v_2.1.1.1.2.2.2.2.2.2.1.2.1, v_2.1.1.1.2.2.2.2.2.2.1.2.2),
                              v_2.1.1.1.2.2.2.2.2.2.2),
                            ()),
                          ()))
              else
                some
                  (Sum.inl
                    (((x, ()), (y, ()), (c, ()), ((), ()), ((), ()), (v_1.1.2.1.1, ()), ((), ()), (v_2.1.2.1.1, ()),
                        (false, ()), ()),
                      ((fg, bg, at_), ()),
                      ((v_1.1.1.1.1, v_1.1.1.1.2.1, v_1.1.1.1.2.2.1, v_1.1.1.1.2.2.2.1, v_1.1.1.1.2.2.2.2.1,
                          v_1.1.1.1.2.2.2.2.2.1,
                          (v_1.1.1.1.2.2.2.2.2.2.1.1, v_1.1.1.1.2.2.2.2.2.2.1.2.1, v_1.1.1.1.2.2.2.2.2.2.1.2.2),
                          v_1.1.1.1.2.2.2.2.2.2.2),
                        ()),
                      ((v_2.1.1.1.1, v_2.1.1.1.2.1, v_2.1.1.1.2.2.1, v_2.1.1.1.2.2.2.1, v_2.1.1.1.2.2.2.2.1,
                          v_2.1.1.1.2.2.2.2.2.1,
                          (v_2.1.1.1.2.2.2.2.2.2.1.1, v_2.1.1.1.2.2.2.2.2.2.1.2.1, v_2.1.1.1.2.2.2.2.2.2.1.2.2),
                          v_2.1.1.1.2.2.2.2.2.2.2),
                        ()),
                      ()))).bind
          fun v =>
          Sum.elim
            (fun q =>
              Option.bind
                (bif decide (q.1.1.1 ≥ (0 : Int)) then
                  bif decide (q.1.1.1 < (200 : Int)) then
                    bif decide (q.1.2.1.1 ≥ (0 : Int)) then
                      bif decide (q.1.2.1.1 < (200 : Int)) then
                        bif decide (q.1.2.2.1.1 ≥ (0 : Int)) then
                          bif decide (q.1.2.2.1.1 ≤ (1114111 : Int)) then
                            (f124 k (((IntKind.i32.wrap q.1.2.2.1.1, ()), ()), ())).bind fun v =>
                              some
                                (Sum.inl
                                  (((q.1.2.2.1.1, ()), ((), ()), ((), ()), (q.1.2.2.2.2.2.1.1, ()), ((), ()),
                                      (q.1.2.2.2.2.2.2.2.1.1, ()), (q.1.2.2.2.2.2.2.2.2.1.1, ()),
                                      (v.1.1.1 == (1 : Int), ()), ()),
                                    ((q.2.1.1.1, q.2.1.1.2.1, q.2.1.1.2.2), ()),
                                    ((q.2.2.1.1.1, q.2.2.1.1.2.1, q.2.2.1.1.2.2.1, q.2.2.1.1.2.2.2.1,
                                        q.2.2.1.1.2.2.2.2.1, q.2.2.1.1.2.2.2.2.2.1,
                                        (q.2.2.1.1.2.2.2.2.2.2.1.1, q.2.2.1.1.2.2.2.2.2.2.1.2.1,
                                          q.2.2.1.1.2.2.2.2.2.2.1.2.2),
                                        q.2.2.1.1.2.2.2.2.2.2.2),
                                      ()),
                                    ((q.2.2.2.1.1.1, q.2.2.2.1.1.2.1, q.2.2.2.1.1.2.2.1, q.2.2.2.1.1.2.2.2.1,
                                        q.2.2.2.1.1.2.2.2.2.1, q.2.2.2.1.1.2.2.2.2.2.1,
                                        (q.2.2.2.1.1.2.2.2.2.2.2.1.1, q.2.2.2.1.1.2.2.2.2.2.2.1.2.1,
                                          q.2.2.2.1.1.2.2.2.2.2.2.1.2.2),
                                        q.2.2.2.1.1.2.2.2.2.2.2.2),
                                      ()),
                                    ()))
                          else
                            some
                              (Sum.inl
                                (((q.1.2.2.1.1, ()), ((), ()), ((), ()), (q.1.2.2.2.2.2.1.1, ()), ((), ()),
                                    (q.1.2.2.2.2.2.2.2.1.1, ()), (q.1.2.2.2.2.2.2.2.2.1.1, ()), (false, ()), ()),
                                  ((q.2.1.1.1, q.2.1.1.2.1, q.2.1.1.2.2), ()),
                                  ((q.2.2.1.1.1, q.2.2.1.1.2.1, q.2.2.1.1.2.2.1, q.2.2.1.1.2.2.2.1, q.2.2.1.1.2.2.2.2.1,
                                      q.2.2.1.1.2.2.2.2.2.1,
                                      (q.2.2.1.1.2.2.2.2.2.2.1.1, q.2.2.1.1.2.2.2.2.2.2.1.2.1,
                                        q.2.2.1.1.2.2.2.2.2.2.1.2.2),
                                      q.2.2.1.1.2.2.2.2.2.2.2),
                                    ()),
                                  ((q.2.2.2.1.1.1, q.2.2.2.1.1.2.1, q.2.2.2.1.1.2.2.1, q.2.2.2.1.1.2.2.2.1,
                                      q.2.2.2.1.1.2.2.2.2.1, q.2.2.2.1.1.2.2.2.2.2.1,
                                      (q.2.2.2.1.1.2.2.2.2.2.2.1.1, q.2.2.2.1.1.2.2.2.2.2.2.1.2.1,
                                        q.2.2.2.1.1.2.2.2.2.2.2.1.2.2),
                                      q.2.2.2.1.1.2.2.2.2.2.2.2),
                                    ()),
                                  ()))
                        else
                          some
                            (Sum.inl
                              (((q.1.2.2.1.1, ()), ((), ()), ((), ()), (q.1.2.2.2.2.2.1.1, ()), ((), ()),
                                  (q.1.2.2.2.2.2.2.2.1.1, ()), (q.1.2.2.2.2.2.2.2.2.1.1, ()), (false, ()), ()),
                                ((q.2.1.1.1, q.2.1.1.2.1, q.2.1.1.2.2), ()),
                                ((q.2.2.1.1.1, q.2.2.1.1.2.1, q.2.2.1.1.2.2.1, q.2.2.1.1.2.2.2.1, q.2.2.1.1.2.2.2.2.1,
                                    q.2.2.1.1.2.2.2.2.2.1,
                                    (q.2.2.1.1.2.2.2.2.2.2.1.1, q.2.2.1.1.2.2.2.2.2.2.1.2.1,
                                      q.2.2.1.1.2.2.2.2.2.2.1.2.2),
                                    q.2.2.1.1.2.2.2.2.2.2.2),
                                  ()),
                                ((q.2.2.2.1.1.1, q.2.2.2.1.1.2.1, q.2.2.2.1.1.2.2.1, q.2.2.2.1.1.2.2.2.1,
                                    q.2.2.2.1.1.2.2.2.2.1, q.2.2.2.1.1.2.2.2.2.2.1,
                                    (q.2.2.2.1.1.2.2.2.2.2.2.1.1, q.2.2.2.1.1.2.2.2.2.2.2.1.2.1,
                                      q.2.2.2.1.1.2.2.2.2.2.2.1.2.2),
                                    q.2.2.2.1.1.2.2.2.2.2.2.2),
                                  ()),
                                ()))
                      else
                        some
                          (Sum.inl
                            (((q.1.2.2.1.1, ()), ((), ()), ((), ()), (q.1.2.2.2.2.2.1.1, ()), ((), ()),
                                (q.1.2.2.2.2.2.2.2.1.1, ()), (q.1.2.2.2.2.2.2.2.2.1.1, ()), (false, ()), ()),
                              ((q.2.1.1.1, q.2.1.1.2.1, q.2.1.1.2.2), ()),
                              ((q.2.2.1.1.1, q.2.2.1.1.2.1, q.2.2.1.1.2.2.1, q.2.2.1.1.2.2.2.1, q.2.2.1.1.2.2.2.2.1,
                                  q.2.2.1.1.2.2.2.2.2.1,
                                  (q.2.2.1.1.2.2.2.2.2.2.1.1, q.2.2.1.1.2.2.2.2.2.2.1.2.1, q.2.2.1.1.2.2.2.2.2.2.1.2.2),
                                  q.2.2.1.1.2.2.2.2.2.2.2),
                                ()),
                              ((q.2.2.2.1.1.1, q.2.2.2.1.1.2.1, q.2.2.2.1.1.2.2.1, q.2.2.2.1.1.2.2.2.1,
                                  q.2.2.2.1.1.2.2.2.2.1, q.2.2.2.1.1.2.2.2.2.2.1,
                                  (q.2.2.2.1.1.2.2.2.2.2.2.1.1, q.2.2.2.1.1.2.2.2.2.2.2.1.2.1,
                                    q.2.2.2.1.1.2.2.2.2.2.2.1.2.2),
                                  q.2.2.2.1.1.2.2.2.2.2.2.2),
                                ()),
                              ()))
                    else
                      some
                        (Sum.inl
                          (((q.1.2.2.1.1, ()), ((), ()), ((), ()), (q.1.2.2.2.2.2.1.1, ()), ((), ()),
                              (q.1.2.2.2.2.2.2.2.1.1, ()), (q.1.2.2.2.2.2.2.2.2.1.1, ()), (false, ()), ()),
                            ((q.2.1.1.1, q.2.1.1.2.1, q.2.1.1.2.2), ()),
                            ((q.2.2.1.1.1, q.2.2.1.1.2.1, q.2.2.1.1.2.2.1, q.2.2.1.1.2.2.2.1, q.2.2.1.1.2.2.2.2.1,
                                q.2.2.1.1.2.2.2.2.2.1,
                                (q.2.2.1.1.2.2.2.2.2.2.1.1, q.2.2.1.1.2.2.2.2.2.2.1.2.1, q.2.2.1.1.2.2.2.2.2.2.1.2.2),
                                q.2.2.1.1.2.2.2.2.2.2.2),
                              ()),
                            ((q.2.2.2.1.1.1, q.2.2.2.1.1.2.1, q.2.2.2.1.1.2.2.1, q.2.2.2.1.1.2.2.2.1,
                                q.2.2.2.1.1.2.2.2.2.1, q.2.2.2.1.1.2.2.2.2.2.1,
                                (q.2.2.2.1.1.2.2.2.2.2.2.1.1, q.2.2.2.1.1.2.2.2.2.2.2.1.2.1,
                                  q.2.2.2.1.1.2.2.2.2.2.2.1.2.2),
                                q.2.2.2.1.1.2.2.2.2.2.2.2),
                              ()),
                            ()))
                  else
                    some
                      (Sum.inl
                        (((q.1.2.2.1.1, ()), ((), ()), ((), ()), (q.1.2.2.2.2.2.1.1, ()), ((), ()),
                            (q.1.2.2.2.2.2.2.2.1.1, ()), (q.1.2.2.2.2.2.2.2.2.1.1, ()), (false, ()), ()),
                          ((q.2.1.1.1, q.2.1.1.2.1, q.2.1.1.2.2), ()),
                          ((q.2.2.1.1.1, q.2.2.1.1.2.1, q.2.2.1.1.2.2.1, q.2.2.1.1.2.2.2.1, q.2.2.1.1.2.2.2.2.1,
                              q.2.2.1.1.2.2.2.2.2.1,
                              (q.2.2.1.1.2.2.2.2.2.2.1.1, q.2.2.1.1.2.2.2.2.2.2.1.2.1, q.2.2.1.1.2.2.2.2.2.2.1.2.2),
                              q.2.2.1.1.2.2.2.2.2.2.2),
                            ()),
                          ((q.2.2.2.1.1.1, q.2.2.2.1.1.2.1, q.2.2.2.1.1.2.2.1, q.2.2.2.1.1.2.2.2.1,
                              q.2.2.2.1.1.2.2.2.2.1, q.2.2.2.1.1.2.2.2.2.2.1,
                              (q.2.2.2.1.1.2.2.2.2.2.2.1.1, q.2.2.2.1.1.2.2.2.2.2.2.1.2.1,
                                q.2.2.2.1.1.2.2.2.2.2.2.1.2.2),
                              q.2.2.2.1.1.2.2.2.2.2.2.2),
                            ()),
                          ()))
                else
                  some
                    (Sum.inl
                      (((q.1.2.2.1.1, ()), ((), ()), ((), ()), (q.1.2.2.2.2.2.1.1, ()), ((), ()),
                          (q.1.2.2.2.2.2.2.2.1.1, ()), (q.1.2.2.2.2.2.2.2.2.1.1, ()), (false, ()), ()),
                        ((q.2.1.1.1, q.2.1.1.2.1, q.2.1.1.2.2), ()),
                        ((q.2.2.1.1.1, q.2.2.1.1.2.1, q.2.2.1.1.2.2.1, q.2.2.1.1.2.2.2.1, q.2.2.1.1.2.2.2.2.1,
                            q.2.2.1.1.2.2.2.2.2.1,
                            (q.2.2.1.1.2.2.2.2.2.2.1.1, q.2.2.1.1.2.2.2.2.2.2.1.2.1, q.2.2.1.1.2.2.2.2.2.2.1.2.2),
                            q.2.2.1.1.2.2.2.2.2.2.2),
                          ()),
                        ((q.2.2.2.1.1.1, q.2.2.2.1.1.2.1, q.2.2.2.1.1.2.2.1, q.2.2.2.1.1.2.2.2.1, q.2.2.2.1.1.2.2.2.2.1,
                            q.2.2.2.1.1.2.2.2.2.2.1,
                            (q.2.2.2.1.1.2.2.2.2.2.2.1.1, q.2.2.2.1.1.2.2.2.2.2.2.1.2.1, q.2.2.2.1.1.2.2.2.2.2.2.1.2.2),
                            q.2.2.2.1.1.2.2.2.2.2.2.2),
                          ()),
                        ())))
                fun v =>
                Sum.elim
                  (fun q =>
                    bif (q.1.2.2.2.1.1 == (0 : Int)) == q.1.2.2.2.2.2.2.2.1.1 then
                      bif q.1.2.2.2.1.1 == (0 : Int) then
                        bif (q.1.2.2.2.2.2.1.1 == (0 : Int)) == q.1.2.2.2.2.2.2.1.1 then
                          bif q.1.2.2.2.2.2.1.1 == (0 : Int) then
                            bif !q.1.2.2.2.2.2.2.2.1.1 then
                              bif !q.1.2.2.2.2.2.2.1.1 then some (((true, ()), ()), ())
                              else
                                some
                                  (((q.2.2.2.1.1.2.2.2.2.2.2.1.1 == q.2.1.1.1 &&
                                          (q.2.2.2.1.1.2.2.2.2.2.2.1.2.1 == q.2.1.1.2.1 &&
                                            (q.2.2.2.1.1.2.2.2.2.2.2.1.2.2 == q.2.1.1.2.2 && true)),
                                        ()),
                                      ()),
                                    ())
                            else
                              bif q.2.2.1.1.2.2.2.2.2.1 == IntKind.i32.wrap q.1.1.1 then
                                bif !q.1.2.2.2.2.2.2.1.1 then some (((true, ()), ()), ())
                                else
                                  some
                                    (((q.2.2.2.1.1.2.2.2.2.2.2.1.1 == q.2.1.1.1 &&
                                            (q.2.2.2.1.1.2.2.2.2.2.2.1.2.1 == q.2.1.1.2.1 &&
                                              (q.2.2.2.1.1.2.2.2.2.2.2.1.2.2 == q.2.1.1.2.2 && true)),
                                          ()),
                                        ()),
                                      ())
                              else some (((false, ()), ()), ())
                          else
                            bif q.1.2.2.2.2.2.1.1 == (-3 : Int) then
                              bif !q.1.2.2.2.2.2.2.2.1.1 then
                                bif !q.1.2.2.2.2.2.2.1.1 then some (((true, ()), ()), ())
                                else
                                  some
                                    (((q.2.2.2.1.1.2.2.2.2.2.2.1.1 == q.2.1.1.1 &&
                                            (q.2.2.2.1.1.2.2.2.2.2.2.1.2.1 == q.2.1.1.2.1 &&
                                              (q.2.2.2.1.1.2.2.2.2.2.2.1.2.2 == q.2.1.1.2.2 && true)),
                                          ()),
                                        ()),
                                      ())
                              else
                                bif q.2.2.1.1.2.2.2.2.2.1 == IntKind.i32.wrap q.1.1.1 then
                                  bif !q.1.2.2.2.2.2.2.1.1 then some (((true, ()), ()), ())
                                  else
                                    some
                                      (((q.2.2.2.1.1.2.2.2.2.2.2.1.1 == q.2.1.1.1 &&
                                              (q.2.2.2.1.1.2.2.2.2.2.2.1.2.1 == q.2.1.1.2.1 &&
                                                (q.2.2.2.1.1.2.2.2.2.2.2.1.2.2 == q.2.1.1.2.2 && true)),
                                            ()),
                                          ()),
                                        ())
                                else some (((false, ()), ()), ())
                            else some (((false, ()), ()), ())
                        else some (((false, ()), ()), ())
                      else
                        bif q.1.2.2.2.1.1 == (-3 : Int) then
                          bif (q.1.2.2.2.2.2.1.1 == (0 : Int)) == q.1.2.2.2.2.2.2.1.1 then
                            bif q.1.2.2.2.2.2.1.1 == (0 : Int) then
                              bif !q.1.2.2.2.2.2.2.2.1.1 then
                                bif !q.1.2.2.2.2.2.2.1.1 then some (((true, ()), ()), ())
                                else
                                  some
                                    (((q.2.2.2.1.1.2.2.2.2.2.2.1.1 == q.2.1.1.1 &&
                                            (q.2.2.2.1.1.2.2.2.2.2.2.1.2.1 == q.2.1.1.2.1 &&
                                              (q.2.2.2.1.1.2.2.2.2.2.2.1.2.2 == q.2.1.1.2.2 && true)),
                                          ()),
                                        ()),
                                      ())
                              else
                                bif q.2.2.1.1.2.2.2.2.2.1 == IntKind.i32.wrap q.1.1.1 then
                                  bif !q.1.2.2.2.2.2.2.1.1 then some (((true, ()), ()), ())
                                  else
                                    some
                                      (((q.2.2.2.1.1.2.2.2.2.2.2.1.1 == q.2.1.1.1 &&
                                              (q.2.2.2.1.1.2.2.2.2.2.2.1.2.1 == q.2.1.1.2.1 &&
                                                (q.2.2.2.1.1.2.2.2.2.2.2.1.2.2 == q.2.1.1.2.2 && true)),
                                            ()),
                                          ()),
                                        ())
                                else some (((false, ()), ()), ())
                            else
                              bif q.1.2.2.2.2.2.1.1 == (-3 : Int) then
                                bif !q.1.2.2.2.2.2.2.2.1.1 then
                                  bif !q.1.2.2.2.2.2.2.1.1 then some (((true, ()), ()), ())
                                  else
                                    some
                                      (((q.2.2.2.1.1.2.2.2.2.2.2.1.1 == q.2.1.1.1 &&
                                              (q.2.2.2.1.1.2.2.2.2.2.2.1.2.1 == q.2.1.1.2.1 &&
                                                (q.2.2.2.1.1.2.2.2.2.2.2.1.2.2 == q.2.1.1.2.2 && true)),
                                            ()),
                                          ()),
                                        ())
                                else
                                  bif q.2.2.1.1.2.2.2.2.2.1 == IntKind.i32.wrap q.1.1.1 then
                                    bif !q.1.2.2.2.2.2.2.1.1 then some (((true, ()), ()), ())
                                    else
                                      some
                                        (((q.2.2.2.1.1.2.2.2.2.2.2.1.1 == q.2.1.1.1 &&
                                                (q.2.2.2.1.1.2.2.2.2.2.2.1.2.1 == q.2.1.1.2.1 &&
                                                  (q.2.2.2.1.1.2.2.2.2.2.2.1.2.2 == q.2.1.1.2.2 && true)),
                                              ()),
                                            ()),
                                          ())
                                  else some (((false, ()), ()), ())
                              else some (((false, ()), ()), ())
                          else some (((false, ()), ()), ())
                        else some (((false, ()), ()), ())
                    else some (((false, ()), ()), ()))
                  (fun q => some q) v)
            (fun q => some q) v := by kernel_rfl
theorem dpos {p : Prop} {hd : Decidable p} (h : p) : @decide p hd = true := decide_eq_true h
theorem dneg {p : Prop} {hd : Decidable p} (h : ¬ p) : @decide p hd = false := decide_eq_false h
set_option maxHeartbeats 8000000 in
theorem capsStyles (x y c : Int) (s : Int × Int × Int) (hs : (Lit.int .i64 s.1).wf = true ∧ (Lit.int .i64 s.2.1).wf = true ∧ (Lit.int .i64 s.2.2).wf = true) : f108 (100 + 20) (((x, ()), (y, ()), (c, ()), (s, ()), ()), ()) = some (((true, ()), ()), ()) := by
  obtain ⟨fg, bg, n⟩ := s
  have hn : -9223372036854775808 ≤ n ∧ n < 9223372036854775808 := by
    have h := hs.2.2
    simp only [Lit.wf, Bool.and_eq_true, decide_eq_true_eq] at h
    have h2 : n ≤ 9223372036854775807 := h.2
    exact ⟨h.1, by omega⟩
  rw [e108_eq, alive, Option.bind_some, ask0 _ x y c (by omega), ask1 _ fg bg n hn.1 hn.2, col2_ok, col2_ok]
  have hw : ∀ c : Int, 0 ≤ c ∧ c ≤ 0x10ffff → IntKind.i32.wrap c = c := fun c h => by rw [IntKind.wrap_i32]; omega
  generalize colB fg = B1
  generalize colB bg = B2
  have hR : (n < 0) ∨ (0 ≤ n ∧ 32 ≤ n) ∨ (0 ≤ n ∧ n < 32) := by omega
  have hM : (x < 0) ∨ (0 ≤ x ∧ 200 ≤ x) ∨ (0 ≤ x ∧ x < 200 ∧ y < 0) ∨ (0 ≤ x ∧ x < 200 ∧ 0 ≤ y ∧ 200 ≤ y) ∨ (0 ≤ x ∧ x < 200 ∧ 0 ≤ y ∧ y < 200 ∧ c < 0) ∨ (0 ≤ x ∧ x < 200 ∧ 0 ≤ y ∧ y < 200 ∧ 0 ≤ c ∧ 1114111 < c) ∨ (0 ≤ x ∧ x < 200 ∧ 0 ≤ y ∧ y < 200 ∧ 0 ≤ c ∧ c ≤ 1114111) := by omega
  have hf : 0 ≤ c ∧ c ≤ 1114111 → f124 (100 + 20) (((IntKind.i32.wrap c, ()), ()), ()) = some (((width (IntKind.i32.wrap c), ()), ()), ()) := fun h => wref_ok _ _ (by rw [hw c h]; exact h)
  have b3 : ((-3 : Int) == 0) = false := rfl
  have b1 : (true == false) = false := rfl
  rcases hR with r1 | ⟨r1, r2⟩ | ⟨r1, r2⟩
  all_goals cases B1
  all_goals cases B2
  all_goals rcases hM with m1 | ⟨m1, m2⟩ | ⟨m1, m2, m3⟩ | ⟨m1, m2, m3, m4⟩ | ⟨m1, m2, m3, m4, m5⟩ | ⟨m1, m2, m3, m4, m5, m6⟩ | ⟨m1, m2, m3, m4, m5, m6⟩
  all_goals first
    | (have := m6; simp (disch := omega) only [may, b3, b1, cpos, cneg, dpos, dneg, Bool.and_true, Bool.true_and, Bool.false_and, Bool.and_false, Bool.not_true, Bool.not_false, cond_true, cond_false, beq_self_eq_true, Option.bind_some, Sum.elim_inl, Sum.elim_inr, Bool.and_self, decide_true, decide_false]; rw [hf ⟨by omega, by omega⟩]; cases hwd : (width (IntKind.i32.wrap c) == 1) <;> simp (disch := omega) only [may, b3, b1, cpos, cneg, dpos, dneg, Bool.and_true, Bool.true_and, Bool.false_and, Bool.and_false, Bool.not_true, Bool.not_false, cond_true, cond_false, beq_self_eq_true, Option.bind_some, Sum.elim_inl, Sum.elim_inr, Bool.and_self, decide_true, decide_false, hwd]; done)
    | (simp (disch := omega) only [may, b3, b1, cpos, cneg, dpos, dneg, Bool.and_true, Bool.true_and, Bool.false_and, Bool.and_false, Bool.not_true, Bool.not_false, cond_true, cond_false, beq_self_eq_true, Option.bind_some, Sum.elim_inl, Sum.elim_inr, Bool.and_self, decide_true, decide_false]; done)
    | skip
end
end Go.Proofs.Ytopnjcclbepdoaa.Caps
