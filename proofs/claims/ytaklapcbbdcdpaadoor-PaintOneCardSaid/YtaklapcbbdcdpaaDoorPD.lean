import Derived.Test.YtaklapcbbdcdpaaDoorPC
namespace Go.Proofs.YtaklapcbbdcdpaaDoor.Pt
open Go Go.RowKit Go.Proofs Go.Proofs.YtaklapcbbdcdpaaDoor.X
set_option linter.unusedVariables false
set_option linter.unusedSimpArgs false
noncomputable section
/-! Cells, rows, screens: which are right, which are the same -/
abbrev V1 (b : Bool) : Option (((Bool × Unit) × Unit) × Unit) := some (((b, ()), ()), ())
theorem gtx {s : Sh} {xs : List s.T} {i : Nat} (h : i < xs.length) : gt s xs i = xs[i] := by simp [gt, h]
theorem tn0 (i : Nat) : (i : Int).toNat = i := Int.toNat_natCast i
theorem tn1 (i : Nat) : ((i : Int) + 1).toNat = i + 1 := by omega
theorem tn2 (i : Nat) : ((i : Int) + 1 - 1).toNat = i := by omega
theorem tnm (i : Nat) (h : 1 ≤ i) : ((i : Int) - 1).toNat = i - 1 := by omega
def ceq (x y : Cel) : Bool := x.1 == y.1 && (x.2.1 == y.2.1 && (x.2.2.1 == y.2.2.1 && (x.2.2.2 == y.2.2.2 && true)) && true)
theorem ceq_is (x y : Cel) : ceq x y = decide (x = y) := by
  obtain ⟨a, b, c, d⟩ := x
  obtain ⟨a', b', c', d'⟩ := y
  simp only [ceq, Prod.mk.injEq, Bool.and_true]
  by_cases h1 : a = a' <;> by_cases h2 : b = b' <;> by_cases h3 : c = c' <;> by_cases h4 : d = d' <;> simp [h1, h2, h3, h4]
def seq (x y : Sty) : Bool := x.1 == y.1 && (x.2.1 == y.2.1 && (x.2.2 == y.2.2 && true))
theorem seq_is (x y : Sty) : seq x y = decide (x = y) := by
  obtain ⟨b, c, d⟩ := x
  obtain ⟨b', c', d'⟩ := y
  simp only [seq, Prod.mk.injEq, Bool.and_true]
  by_cases h2 : b = b' <;> by_cases h3 : c = c' <;> by_cases h4 : d = d' <;> simp [h2, h3, h4]
/-! colours and styles -/
def colB (a : Int) : Bool := (decide (0 ≤ a) && decide (a ≤ 256)) || (decide (16777216 ≤ a) && decide (a < 33554432))
theorem col1_ok (k : Nat) (a : Int) : f67 k (((a, ()), ()), ()) = V1 (colB a) := by
  rw [e67_eq]
  unfold colB
  simp only [ge_iff_le]
  by_cases h : 0 ≤ a <;> by_cases h2 : a ≤ 256 <;> by_cases h3 : 16777216 ≤ a <;> by_cases h4 : a < 33554432 <;> simp [h, h2, h3, h4]
theorem col2_ok (k : Nat) (a : Int) : f57 k (((a, ()), ()), ()) = V1 (colB a) := by
  rw [e57_eq]
  unfold colB
  simp only [ge_iff_le]
  by_cases h : 0 ≤ a <;> by_cases h2 : a ≤ 256 <;> by_cases h3 : 16777216 ≤ a <;> by_cases h4 : a < 33554432 <;> simp [h, h2, h3, h4]
theorem low5 (a : BitVec 64) : (a &&& ~~~(31#64)) = 0#64 ↔ a.toNat < 32 := by
  constructor
  · intro h
    refine Nat.lt_pow_two_of_testBit (n := 5) _ fun i hi => ?_
    have hb := congrArg (fun z => BitVec.getLsbD z i) h
    simp only [BitVec.getLsbD_and, BitVec.getLsbD_not, BitVec.getLsbD_zero] at hb
    have h31 : (31#64).getLsbD i = false := by
      show Nat.testBit 31 i = false
      exact Nat.testBit_lt_two_pow (Nat.lt_of_lt_of_le (by decide : 31 < 2 ^ 5) (Nat.pow_le_pow_right (by decide) hi))
    rw [h31] at hb
    by_cases h64 : i < 64
    · show a.getLsbD i = false
      rw [decide_eq_true h64] at hb
      simpa only [Bool.and_true, Bool.not_false, Bool.true_and] using hb
    · exact Nat.testBit_lt_two_pow (Nat.lt_of_lt_of_le a.isLt (Nat.pow_le_pow_right (by decide) (by omega)))
  · intro h
    apply BitVec.eq_of_getLsbD_eq
    intro i hi
    simp only [BitVec.getLsbD_and, BitVec.getLsbD_not, BitVec.getLsbD_zero, Bool.and_eq_false_iff]
    by_cases h5 : i < 5
    · right
      have : i = 0 ∨ i = 1 ∨ i = 2 ∨ i = 3 ∨ i = 4 := by omega
      rcases this with rfl | rfl | rfl | rfl | rfl <;> decide
    · left
      exact Nat.testBit_lt_two_pow (Nat.lt_of_lt_of_le h (Nat.pow_le_pow_right (n := 2) (by decide) (by omega : 5 ≤ i)))
theorem ofInt_wrap (x : BitVec 64) : BitVec.ofInt 64 (IntKind.i64.wrap (x.toNat : Int)) = x := by
  apply BitVec.eq_of_toNat_eq
  rw [BitVec.toNat_ofInt, IntKind.wrap_i64]
  have := x.isLt
  omega
theorem bq (x y : Int) : (x == y) = decide (x = y) := by
  by_cases h : x = y <;> simp [h]
theorem attr_ok (n : Int) (h0 : -9223372036854775808 ≤ n) (h1 : n < 9223372036854775808) : (IntKind.i64.wrap ((BitVec.ofInt IntKind.i64.bits n &&& ~~~BitVec.ofInt IntKind.i64.bits 31).toNat : Int) == 0) = decide (0 ≤ n ∧ n < 32) := by
  have hx := low5 (BitVec.ofInt 64 n)
  have hn : (BitVec.ofInt 64 n).toNat = (n % 18446744073709551616).toNat := BitVec.toNat_ofInt ..
  have e31 : (31#64) = BitVec.ofInt 64 31 := rfl
  rw [e31] at hx
  have h0' : (IntKind.i64.wrap ((BitVec.ofInt 64 n &&& ~~~BitVec.ofInt 64 31).toNat : Int) = 0) ↔ (BitVec.ofInt 64 n &&& ~~~BitVec.ofInt 64 31) = 0#64 := by
    constructor
    · intro hh
      have := congrArg (BitVec.ofInt 64) hh
      rw [ofInt_wrap] at this
      exact this
    · intro hh; rw [hh]; rfl
  have : (IntKind.i64.wrap ((BitVec.ofInt 64 n &&& ~~~BitVec.ofInt 64 31).toNat : Int) = 0) ↔ (0 ≤ n ∧ n < 32) := by
    rw [h0', hx, hn]; omega
  show (IntKind.i64.wrap ((BitVec.ofInt 64 n &&& ~~~BitVec.ofInt 64 31).toNat : Int) == 0) = _
  by_cases hq : 0 ≤ n ∧ n < 32
  · rw [decide_eq_true hq]; exact beq_iff_eq.mpr (this.2 hq)
  · rw [decide_eq_false hq]; exact beq_eq_false_iff_ne.mpr (fun hh => hq (this.1 hh))
abbrev I64 (n : Int) : Prop := -9223372036854775808 ≤ n ∧ n < 9223372036854775808
abbrev I32 (n : Int) : Prop := -2147483648 ≤ n ∧ n < 2147483648
def sty (s : Sty) : Bool := colB s.1 && (colB s.2.1 && decide (0 ≤ s.2.2 ∧ s.2.2 < 32))
theorem sty1_ok (k : Nat) (a b c : Int) (h : I64 c) : f55 k ((((a, b, c), ()), ()), ()) = V1 (sty (a, b, c)) := by
  rw [e55_eq, col1_ok, col1_ok, attr_ok c h.1 h.2]
  simp only [Option.bind_some, sty]
  cases colB a <;> cases colB b <;> rfl
theorem sty2_ok (k : Nat) (a b c : Int) : f40 k ((((a, b, c), ()), ()), ()) = V1 (sty (a, b, c)) := by
  rw [e40_eq, col2_ok, col2_ok]
  simp only [Option.bind_some, sty, ge_iff_le]
  cases colB a <;> cases colB b <;> by_cases h1 : 0 ≤ c <;> by_cases h2 : c < 32 <;> simp [h1, h2]
/-! rows that are the same -/
theorem row1_ok (k : Nat) (xs ys : List Cel) (hl : xs.length ≤ 140737488355328) (hk : xs.length + 1 ≤ k) : f20 k (((xs, ()), (ys, ()), ()), ()) = V1 (decide (xs = ys)) := by
  rw [e20_eq]
  by_cases hle : xs.length = ys.length
  · have loop : ∀ (j k' i : Nat), i + j = xs.length → j + 1 ≤ k' → xs.take i = ys.take i → loopN e20_0 k' (((xs, ()), (ys, ()), ((i : Int), ()), ()), ()) = V1 (decide (xs = ys)) := by
      intro j
      induction j with
      | zero =>
        intro k' i hi hk ht
        obtain ⟨k', rfl⟩ : ∃ k2, k' = k2 + 1 := ⟨k' - 1, by omega⟩
        simp only [loopN_succ, e20_0]
        rw [cneg (by omega)]
        rw [List.take_of_length_le (by omega), List.take_of_length_le (by omega)] at ht
        rw [decide_eq_true ht]
      | succ j ih =>
        intro k' i hi hk ht
        obtain ⟨k', rfl⟩ : ∃ k2, k' = k2 + 1 := ⟨k' - 1, by omega⟩
        have h1 : i < xs.length := by omega
        have h2 : i < ys.length := by omega
        simp only [loopN_succ, e20_0]
        rw [cpos (by omega), cpos (by omega), cpos (by omega), tn0, gtx (s := S43) h1, gtx (s := S43) h2]
        have hc : ceq xs[i] ys[i] = decide (xs[i] = ys[i]) := ceq_is _ _
        unfold ceq at hc
        rw [hc]
        by_cases he : xs[i] = ys[i]
        · rw [decide_eq_true he, Bool.not_true, cond_false, wrapId (n := (i : Int) + 1) (by omega) (by omega), show ((i : Int) + 1) = ((i + 1 : Nat) : Int) by omega]
          refine ih k' (i + 1) (by omega) (by omega) ?_
          rw [List.take_add_one, List.take_add_one, ht, List.getElem?_eq_getElem h1, List.getElem?_eq_getElem h2, he]
        · rw [decide_eq_false he, Bool.not_false, cond_true, decide_eq_false (fun h => he (by subst h; rfl))]
    have h := loop xs.length k 0 (by omega) (by omega) rfl
    rw [show ((xs.length : Int) != (ys.length : Int)) = false by simp [hle], cond_false]
    exact h
  · rw [show ((xs.length : Int) != (ys.length : Int)) = true by simp; omega, cond_true, decide_eq_false (fun h => hle (by rw [h]))]
theorem row2_ok (k : Nat) (xs ys : List Cel) (hl : xs.length ≤ 140737488355328) (hk : xs.length + 1 ≤ k) : f43 k (((xs, ()), (ys, ()), ()), ()) = V1 (decide (xs = ys)) := by
  rw [e43_eq]
  by_cases hle : xs.length = ys.length
  · have loop : ∀ (j k' i : Nat), i + j = xs.length → j + 1 ≤ k' → xs.take i = ys.take i → loopN e43_0 k' (((xs, ()), (ys, ()), ((xs.length : Int), ()), ((i : Int), ()), ()), ()) = V1 (decide (xs = ys)) := by
      intro j
      induction j with
      | zero =>
        intro k' i hi hk ht
        obtain ⟨k', rfl⟩ : ∃ k2, k' = k2 + 1 := ⟨k' - 1, by omega⟩
        simp only [loopN_succ, e43_0]
        rw [cneg (by omega)]
        rw [List.take_of_length_le (by omega), List.take_of_length_le (by omega)] at ht
        rw [decide_eq_true ht]
      | succ j ih =>
        intro k' i hi hk ht
        obtain ⟨k', rfl⟩ : ∃ k2, k' = k2 + 1 := ⟨k' - 1, by omega⟩
        have h1 : i < xs.length := by omega
        have h2 : i < ys.length := by omega
        simp only [loopN_succ, e43_0]
        rw [cpos (by omega), cpos (by omega), cpos (by omega), tn0, gtx (s := S43) h1, gtx (s := S43) h2]
        have hc : ceq xs[i] ys[i] = decide (xs[i] = ys[i]) := ceq_is _ _
        unfold ceq at hc
        rw [hc]
        by_cases he : xs[i] = ys[i]
        · rw [decide_eq_true he, Bool.not_true, cond_false, wrapId (n := (i : Int) + 1) (by omega) (by omega), show ((i : Int) + 1) = ((i + 1 : Nat) : Int) by omega]
          refine ih k' (i + 1) (by omega) (by omega) ?_
          rw [List.take_add_one, List.take_add_one, ht, List.getElem?_eq_getElem h1, List.getElem?_eq_getElem h2, he]
        · rw [decide_eq_false he, Bool.not_false, cond_true, decide_eq_false (fun h => he (by subst h; rfl))]
    have h := loop xs.length k 0 (by omega) (by omega) rfl
    rw [show ((xs.length : Int) != (ys.length : Int)) = false by simp [hle], cond_false]
    exact h
  · rw [show ((xs.length : Int) != (ys.length : Int)) = true by simp; omega, cond_true, decide_eq_false (fun h => hle (by rw [h]))]
theorem rows2_ok (k : Nat) (xs ys : List (List Cel)) (hl : xs.length ≤ 140737488355328) (hr : ∀ r ∈ xs, r.length ≤ 140737488355328 ∧ r.length + 1 ≤ k) (hk : xs.length + 1 ≤ k) (hle : xs.length = ys.length) : loopN (e42_0 k xs ys) k (((ys, ()), ((), ()), (xs, ()), ((xs.length : Int), ()), ((0 : Int), ()), ()), ()) = V1 (decide (xs = ys)) := by
  have loop : ∀ (j k' i : Nat), i + j = xs.length → j + 1 ≤ k' → xs.take i = ys.take i → loopN (e42_0 k xs ys) k' (((ys, ()), ((), ()), (xs, ()), ((xs.length : Int), ()), ((i : Int), ()), ()), ()) = V1 (decide (xs = ys)) := by
    intro j
    induction j with
    | zero =>
      intro k' i hi hk ht
      obtain ⟨k', rfl⟩ : ∃ k2, k' = k2 + 1 := ⟨k' - 1, by omega⟩
      simp only [loopN_succ, e42_0]
      rw [cneg (by omega)]
      rw [List.take_of_length_le (by omega), List.take_of_length_le (by omega)] at ht
      rw [decide_eq_true ht]
    | succ j ih =>
      intro k' i hi hk ht
      obtain ⟨k', rfl⟩ : ∃ k2, k' = k2 + 1 := ⟨k' - 1, by omega⟩
      have h1 : i < xs.length := by omega
      have h2 : i < ys.length := by omega
      simp only [loopN_succ, e42_0]
      rw [cpos (by omega), cpos (by omega), cpos (by omega), tn0, gtx (s := S43.sl) h1, gtx (s := S43.sl) h2, row2_ok k _ _ (hr _ (List.getElem_mem _)).1 (hr _ (List.getElem_mem _)).2]
      simp only [Option.bind_some]
      by_cases he : xs[i] = ys[i]
      · rw [decide_eq_true he, Bool.not_true, cond_false, wrapId (n := (i : Int) + 1) (by omega) (by omega), show ((i : Int) + 1) = ((i + 1 : Nat) : Int) by omega]
        refine ih k' (i + 1) (by omega) (by omega) ?_
        rw [List.take_add_one, List.take_add_one, ht, List.getElem?_eq_getElem h1, List.getElem?_eq_getElem h2, he]
      · rw [decide_eq_false he, Bool.not_false, cond_true, decide_eq_false (fun h => he (by subst h; rfl))]
  exact loop xs.length k 0 (by omega) (by omega) rfl
theorem rows1_ok (k : Nat) (a b : Int) (xs : List (List Cel)) (d e : Int) (g : Bool) (h i0 : Int) (ys : List (List Cel)) (l m : Int) (n : Bool) (hl : xs.length ≤ 140737488355328) (hr : ∀ r ∈ xs, r.length ≤ 140737488355328 ∧ r.length + 1 ≤ k) (hk : xs.length + 1 ≤ k) (hle : xs.length = ys.length) : loopN (e11_0 k a b xs d e g h i0 ys l m n) k ((((), ()), ((), ()), ((xs.length : Int), ()), ((0 : Int), ()), ()), ((a, b, xs, d, e, g), ()), ((h, i0, ys, l, m, n), ()), ()) = V1 (decide (xs = ys)) := by
  have loop : ∀ (j k' i : Nat), i + j = xs.length → j + 1 ≤ k' → xs.take i = ys.take i → loopN (e11_0 k a b xs d e g h i0 ys l m n) k' ((((), ()), ((), ()), ((xs.length : Int), ()), ((i : Int), ()), ()), ((a, b, xs, d, e, g), ()), ((h, i0, ys, l, m, n), ()), ()) = V1 (decide (xs = ys)) := by
    intro j
    induction j with
    | zero =>
      intro k' i hi hk ht
      obtain ⟨k', rfl⟩ : ∃ k2, k' = k2 + 1 := ⟨k' - 1, by omega⟩
      simp only [loopN_succ, e11_0]
      rw [cneg (by omega)]
      rw [List.take_of_length_le (by omega), List.take_of_length_le (by omega)] at ht
      rw [decide_eq_true ht]
    | succ j ih =>
      intro k' i hi hk ht
      obtain ⟨k', rfl⟩ : ∃ k2, k' = k2 + 1 := ⟨k' - 1, by omega⟩
      have h1 : i < xs.length := by omega
      have h2 : i < ys.length := by omega
      simp only [loopN_succ, e11_0]
      rw [cpos (by omega), cpos (by omega), cpos (by omega), tn0, gtx (s := S43.sl) h1, gtx (s := S43.sl) h2, row1_ok k _ _ (hr _ (List.getElem_mem _)).1 (hr _ (List.getElem_mem _)).2]
      simp only [Option.bind_some]
      by_cases he : xs[i] = ys[i]
      · rw [decide_eq_true he, Bool.not_true, cond_false, wrapId (n := (i : Int) + 1) (by omega) (by omega), show ((i : Int) + 1) = ((i + 1 : Nat) : Int) by omega]
        refine ih k' (i + 1) (by omega) (by omega) ?_
        rw [List.take_add_one, List.take_add_one, ht, List.getElem?_eq_getElem h1, List.getElem?_eq_getElem h2, he]
      · rw [decide_eq_false he, Bool.not_false, cond_true, decide_eq_false (fun h => he (by subst h; rfl))]
  exact loop xs.length k 0 (by omega) (by omega) rfl
theorem same2_ok (k : Nat) (a b : Int) (c : List (List Cel)) (d e : Int) (g : Bool) (h i : Int) (j : List (List Cel)) (l m : Int) (n : Bool) (hl : c.length ≤ 140737488355328) (hr : ∀ r ∈ c, r.length ≤ 140737488355328 ∧ r.length + 1 ≤ k) (hk : c.length + 1 ≤ k) :
    f16 k ((((a, b, c, d, e, g), ()), ((h, i, j, l, m, n), ()), ()), ()) = V1 (decide (a = h) && (decide (b = i) && (decide (d = l) && (decide (e = m) && (decide (g = n) && decide (c = j)))))) := by
  rw [e16_eq, e42_eq]
  by_cases h6 : c.length = j.length
  · rw [rows2_ok k c j hl hr hk h6]
    have h7 : ((c.length : Int) != (j.length : Int)) = false := by simp [h6]
    rw [h7]
    by_cases h1 : a = h <;> by_cases h2 : b = i <;> by_cases h3 : d = l <;> by_cases h4 : e = m <;> cases g <;> cases n <;> simp [h1, h2, h3, h4, bne, bq]
  · have h8 : ¬ c = j := fun q => h6 (by rw [q])
    have h7 : ((c.length : Int) != (j.length : Int)) = true := by simp; omega
    rw [h7]
    by_cases h1 : a = h <;> by_cases h2 : b = i <;> by_cases h3 : d = l <;> by_cases h4 : e = m <;> cases g <;> cases n <;> simp [h1, h2, h3, h4, h8, bne, bq]
theorem same1_ok (k : Nat) (a b : Int) (c : List (List Cel)) (d e : Int) (g : Bool) (h i : Int) (j : List (List Cel)) (l m : Int) (n : Bool) (hl : c.length ≤ 140737488355328) (hr : ∀ r ∈ c, r.length ≤ 140737488355328 ∧ r.length + 1 ≤ k) (hk : c.length + 1 ≤ k) :
    f11 k ((((a, b, c, d, e, g), ()), ((h, i, j, l, m, n), ()), ()), ()) = V1 (decide (a = h) && (decide (b = i) && (decide (d = l) && (decide (e = m) && (decide (g = n) && decide (c = j)))))) := by
  rw [e11_eq]
  by_cases h6 : c.length = j.length
  · rw [rows1_ok k a b c d e g h i j l m n hl hr hk h6]
    have h7 : ((c.length : Int) != (j.length : Int)) = false := by simp [h6]
    rw [h7]
    by_cases h1 : a = h <;> by_cases h2 : b = i <;> by_cases h3 : d = l <;> by_cases h4 : e = m <;> cases g <;> cases n <;> simp [h1, h2, h3, h4, bne, bq]
  · have h8 : ¬ c = j := fun q => h6 (by rw [q])
    have h7 : ((c.length : Int) != (j.length : Int)) = true := by simp; omega
    rw [h7]
    by_cases h1 : a = h <;> by_cases h2 : b = i <;> by_cases h3 : d = l <;> by_cases h4 : e = m <;> cases g <;> cases n <;> simp [h1, h2, h3, h4, h8, bne, bq]
end
end Go.Proofs.YtaklapcbbdcdpaaDoor.Pt
