import Derived.Test.YtopnjcclbepdoaaKB
namespace Go.Proofs.Ytopnjcclbepdoaa.Caps
open Go Go.RowKit Go.Proofs Go.Proofs.Ytopnjcclbepdoaa.X
set_option linter.unusedVariables false
set_option linter.unusedSimpArgs false
noncomputable section
/-! What any call is answered -/
theorem e50_eq (k : Nat) (n : Int) : f50 k (((n, ()), ()), ()) = bif decide (n < (0 : Int)) then some ((((-1 : Int), ()), ()), ())
else
  bif decide (n ≥ (12 : Int)) then some ((((-1 : Int), ()), ()), ())
  else
    bif decide ((0 : Int) ≤ n ∧ n < (↑(12 : Nat) : Int)) then
      bif
          decide
            ((0 : Nat) + n.toNat * (1 : Nat) <
              [(3 : Int), (3 : Int), (0 : Int), (1 : Int), (1 : Int), (3 : Int), (1 : Int), (0 : Int), (1 : Int),
                  (3 : Int), (0 : Int), (2 : Int)].length) then
        some
          ((([(3 : Int), (3 : Int), (0 : Int), (1 : Int), (1 : Int), (3 : Int), (1 : Int), (0 : Int), (1 : Int),
                      (3 : Int), (0 : Int), (2 : Int)].getD
                  ((0 : Nat) + n.toNat * (1 : Nat)) (0 : Int),
                ()),
              ()),
            ())
      else none
    else none := by kernel_rfl
theorem e21_eq (k : Nat) (n : Int) : f21 k (((n, ()), ()), ()) = bif decide (n < (0 : Int)) then some ((((0 : Int), ()), ()), ())
else
  bif decide (n ≥ (10 : Int)) then some ((((0 : Int), ()), ()), ())
  else
    bif decide ((0 : Int) ≤ n ∧ n < (↑(10 : Nat) : Int)) then
      bif
          decide
            ((0 : Nat) + n.toNat * (1 : Nat) <
              [(1 : Int), (1 : Int), (1 : Int), (2 : Int), (2 : Int), (4 : Int), (8 : Int), (16 : Int), (16 : Int),
                  (32 : Int)].length) then
        some
          ((([(1 : Int), (1 : Int), (1 : Int), (2 : Int), (2 : Int), (4 : Int), (8 : Int), (16 : Int), (16 : Int),
                      (32 : Int)].getD
                  ((0 : Nat) + n.toNat * (1 : Nat)) (0 : Int),
                ()),
              ()),
            ())
      else none
    else none := by kernel_rfl
theorem e45_eq (k : Nat) (a : Int) (b : Int) : f45 k (((a, ()), (b, ()), ()), ()) = (f46 k (((a, ()), ((0 : Int), ()), ((199 : Int), ()), ()), ())).bind fun v =>
  bif v.1.1.1 then
    (f46 k (((b, ()), ((0 : Int), ()), ((199 : Int), ()), ()), ())).bind fun v => some (((v.1.1.1, ()), ()), ())
  else some (((false, ()), ()), ()) := by kernel_rfl
theorem e53_eq (k : Nat) (a : Int) : f53 k (((a, ()), ()), ()) = bif decide (a ≥ (0 : Int)) then
  bif decide (a ≤ (256 : Int)) then some (((true, ()), ()), ())
  else
    bif decide (a ≥ (16777216 : Int)) then some (((decide (a < (33554432 : Int)), ()), ()), ())
    else some (((false, ()), ()), ())
else
  bif decide (a ≥ (16777216 : Int)) then some (((decide (a < (33554432 : Int)), ()), ()), ())
  else some (((false, ()), ()), ()) := by kernel_rfl
theorem e48_eq (k : Nat) (a : Int) (b : Int) (c : Int) : f48 k ((((a, b, c), ()), ()), ()) = (f53 k (((a, ()), ()), ())).bind fun v =>
  bif v.1.1.1 then
    (f53 k (((b, ()), ()), ())).bind fun v =>
      bif v.1.1.1 then
        some
          (((IntKind.i64.wrap
                    (↑(BitVec.ofInt IntKind.i64.bits c &&& ~~~BitVec.ofInt IntKind.i64.bits (31 : Int)).toNat : Int) ==
                  (0 : Int),
                ()),
              ()),
            ())
      else some (((false, ()), ()), ())
  else some (((false, ()), ()), ()) := by kernel_rfl
def e57_0 (k : Nat) (l : List (Int × Int)) (n : Int) (g : ((List (Int × Int) × PUnit) × (PUnit × PUnit) × (Int × PUnit) × (Int × PUnit) × PUnit) × PUnit) (L : ((List (Int × Int) × PUnit) × (PUnit × PUnit) × (Int × PUnit) × (Int × PUnit) × PUnit) × PUnit →
  Option (((Int × PUnit) × PUnit) × PUnit)) : Option (((Int × PUnit) × PUnit) × PUnit) := bif decide (g.1.2.2.2.1.1 < g.1.2.2.1.1) then
  bif decide ((0 : Int) ≤ g.1.2.2.2.1.1 ∧ g.1.2.2.2.1.1 < (↑g.1.1.1.length : Int)) then
    (f56 k
          (((((gt S103 g.1.1.1 g.1.2.2.2.1.1.toNat).1, (gt S103 g.1.1.1 g.1.2.2.2.1.1.toNat).2), ()), ((), ()), ()),
            (n, ()), ())).bind
      fun v =>
      bif v.1.1.1 then some (((g.1.2.2.2.1.1, ()), ()), ())
      else L (((g.1.1.1, ()), ((), ()), (g.1.2.2.1.1, ()), (IntKind.i64.wrap (g.1.2.2.2.1.1 + (1 : Int)), ()), ()), ())
  else none
else some ((((-1 : Int), ()), ()), ())
theorem e57_eq (k : Nat) (n : Int) (l : List (Int × Int)) : f57 k (((l, ()), ((), ()), ()), (n, ()), ()) = loopN (e57_0 k l n) k (((l, ()), ((), ()), ((↑l.length : Int), ()), ((0 : Int), ()), ()), ()) := by kernel_rfl
theorem e54_eq (k : Nat) (n : Int) (l : List (Int × Int)) : f54 k (((n, ()), (l, ()), ()), ()) = (f55 k (((l, ()), ((), ()), ()), (n, ()), ())).bind fun v => some (((v.1.1.1, ()), ()), ()) := by kernel_rfl
theorem e51_eq (k : Nat) (n : Int) : f51 k (((n, ()), ()), ()) = (f54 k
      (((n, ()),
          ([((-2147483648 : Int), (31 : Int)), ((127 : Int), (159 : Int)), ((768 : Int), (879 : Int)),
              ((8203 : Int), (8207 : Int)), ((55296 : Int), (57343 : Int)), ((65024 : Int), (65039 : Int)),
              ((1114112 : Int), (2147483647 : Int))],
            ()),
          ()),
        ())).bind
  fun v => some (((v.1.1.1, ()), ()), ()) := by kernel_rfl
theorem e52_eq (k : Nat) (n : Int) : f52 k (((n, ()), ()), ()) = (f54 k
      (((n, ()),
          ([((4352 : Int), (4447 : Int)), ((11904 : Int), (12350 : Int)), ((12353 : Int), (42191 : Int)),
              ((44032 : Int), (55203 : Int)), ((63744 : Int), (64255 : Int)), ((65072 : Int), (65135 : Int)),
              ((65280 : Int), (65376 : Int)), ((65504 : Int), (65510 : Int)), ((127744 : Int), (128591 : Int)),
              ((129280 : Int), (129535 : Int)), ((131072 : Int), (262141 : Int))],
            ()),
          ()),
        ())).bind
  fun v => some (((v.1.1.1, ()), ()), ()) := by kernel_rfl
theorem e47_eq (k : Nat) (n : Int) : f47 k (((n, ()), ()), ()) = bif decide (n ≥ (32 : Int)) then
  bif decide (n < (127 : Int)) then some ((((1 : Int), ()), ()), ())
  else
    (f51 k (((n, ()), ()), ())).bind fun v =>
      bif v.1.1.1 then some ((((0 : Int), ()), ()), ())
      else
        (f52 k (((n, ()), ()), ())).bind fun v =>
          bif v.1.1.1 then some ((((2 : Int), ()), ()), ()) else some ((((1 : Int), ()), ()), ())
else
  (f51 k (((n, ()), ()), ())).bind fun v =>
    bif v.1.1.1 then some ((((0 : Int), ()), ()), ())
    else
      (f52 k (((n, ()), ()), ())).bind fun v =>
        bif v.1.1.1 then some ((((2 : Int), ()), ()), ()) else some ((((1 : Int), ()), ()), ()) := by kernel_rfl
theorem e56_eq (k : Nat) (a : Int) (b : Int) (n : Int) : f56 k ((((a, b), ()), ((), ()), ()), (n, ()), ()) = bif decide (n ≥ a) then some (((decide (n ≤ b), ()), ()), ()) else some (((false, ()), ()), ()) := by kernel_rfl
theorem e55_eq (k : Nat) (n : Int) (l : List (Int × Int)) : f55 k (((l, ()), ((), ()), ()), (n, ()), ()) = (f57 k (((l, ()), ((), ()), ()), (n, ()), ())).bind fun v => some (((decide (v.1.1.1 ≥ 0), ()), ()), ()) := by kernel_rfl
theorem e44 (k : Nat) (n : Int) : f44 k (((((0 : Int), [], List.replicate (Int.toNat (1 : Int)) ((0 : Int), (0 : Int), (0 : Int), [])), ()), ((0 : Int), ()), (((28 : Int), n), ()), ()), ()) =
    (f50 k (((n, ()), ()), ())).bind fun v => bif decide (v.1.1.1 ≥ 0) then some (((v.1.1.1, ()), (1, ()), (true, ()), ()), ()) else some (((0, ()), (0, ()), (false, ()), ()), ()) := by kernel_rfl
theorem e37_eq (k : Nat) (n : Int) : f37 k (((n, ()), ()), ()) = (f44 k
      (((((0 : Int), [], List.replicate (Int.toNat (1 : Int)) ((0 : Int), (0 : Int), (0 : Int), [])), ()),
          ((0 : Int), ()), (((28 : Int), n), ()), ()),
        ())).bind
  fun v => some (((v.1.1.1, ()), (v.1.2.2.1.1, ()), ()), ()) := by kernel_rfl
def TT : List Int := [3, 3, 0, 1, 1, 3, 1, 0, 1, 3, 0, 2]
def NN : List Int := [1, 1, 1, 2, 2, 4, 8, 16, 16, 32]
theorem small {n : Int} {m : Nat} (h : 0 ≤ n ∧ n < (m : Int)) : ∃ i : Nat, n = i ∧ i < m := by
  obtain ⟨i, rfl⟩ := Int.eq_ofNat_of_zero_le h.1
  exact ⟨i, rfl, by omega⟩
def cnt (n : Int) : Int := TT.getD n.toNat 0
def need (n : Int) : Int := if 0 ≤ n ∧ n < 10 then NN.getD n.toNat 0 else 0
theorem cnt_ge (n : Int) : 0 ≤ cnt n := by
  unfold cnt TT
  have : ∀ i : Nat, 0 ≤ [(3 : Int), 3, 0, 1, 1, 3, 1, 0, 1, 3, 0, 2].getD i 0 := by
    intro i
    by_cases h : i < 12
    · have : ∀ i : Fin 12, 0 ≤ [(3 : Int), 3, 0, 1, 1, 3, 1, 0, 1, 3, 0, 2].getD i.1 0 := by decide
      exact this ⟨i, h⟩
    · rw [List.getD_eq_getElem?_getD, List.getElem?_eq_none (by simp; omega)]; decide
  exact this _
theorem host_ok (k : Nat) (n : Int) : f50 k (((n, ()), ()), ()) = some (((if 0 ≤ n ∧ n < 12 then cnt n else -1, ()), ()), ()) := by
  rw [e50_eq]
  by_cases h : n < 0
  · rw [cpos h, if_neg (by omega)]
  rw [cneg h]
  by_cases h2 : n ≥ 12
  · rw [cpos h2, if_neg (by omega)]
  rw [cneg h2, cpos (by omega), cpos (by simp; omega), if_pos (by omega)]
  simp only [Nat.zero_add, Nat.mul_one]
  rfl
theorem needs_ok (k : Nat) (n : Int) : f21 k (((n, ()), ()), ()) = some (((need n, ()), ()), ()) := by
  rw [e21_eq]
  unfold need
  by_cases h : n < 0
  · rw [cpos h, if_neg (by omega)]
  rw [cneg h]
  by_cases h2 : n ≥ 10
  · rw [cpos h2, if_neg (by omega)]
  rw [cneg h2, cpos (by omega), cpos (by simp; omega), if_pos (by omega)]
  simp only [Nat.zero_add, Nat.mul_one]
  rfl
theorem takes_ok (k : Nat) (n : Int) : f37 k (((n, ()), ()), ()) = if 0 ≤ n ∧ n < 12 then some (((cnt n, ()), (true, ()), ()), ()) else some (((0, ()), (false, ()), ()), ()) := by
  rw [e37_eq, e44, host_ok, Option.bind_some]
  by_cases h : 0 ≤ n ∧ n < 12
  · simp only [if_pos h]
    rw [cpos (cnt_ge n)]; rfl
  · simp only [if_neg h]
    rfl
/-- behind what a call may, and how many arguments it has -/
def inner (k : Nat) (n : Int) (ar m : List Int) (v : ((Int × PUnit) × (Bool × PUnit) × PUnit) × PUnit) : Option (((CT × Unit) × (Int × Unit) × Unit) × Unit) := (f38 k
                ((((), ()), (ar, ()), ()),
                  ((n, (0 : Int), (0 : Int), (0 : Int), (0 : Int), (0 : Int), ((0 : Int), (0 : Int), (0 : Int)), []),
                    ()),
                  ())).bind
            fun v_2 =>
            bif !v_2.1.1.1 then
              some
                (((((0 : Int), (0 : Int), (0 : Int), (0 : Int), (0 : Int), (0 : Int), ((0 : Int), (0 : Int), (0 : Int)),
                        []),
                      ()),
                    ((-3 : Int), ()), ()),
                  ())
            else
              bif n == (5 : Int) then
                bif
                    decide
                      ((0 : Int) ≤ IntKind.i64.wrap (v.1.1.1 - (2 : Int)) ∧
                        IntKind.i64.wrap (v.1.1.1 - (2 : Int)) < (↑ar.length : Int)) then
                  bif
                      decide
                        ((0 : Int) ≤ IntKind.i64.wrap (v.1.1.1 - (1 : Int)) ∧
                          IntKind.i64.wrap (v.1.1.1 - (1 : Int)) < (↑ar.length : Int)) then
                    bif decide (gt is ar (IntKind.i64.wrap (v.1.1.1 - (2 : Int))).toNat < (0 : Int)) then
                      some
                        (((((0 : Int), (0 : Int), (0 : Int), (0 : Int), (0 : Int), (0 : Int),
                                ((0 : Int), (0 : Int), (0 : Int)), []),
                              ()),
                            ((-4 : Int), ()), ()),
                          ())
                    else
                      bif decide (gt is ar (IntKind.i64.wrap (v.1.1.1 - (2 : Int))).toNat > (↑m.length : Int)) then
                        some
                          (((((0 : Int), (0 : Int), (0 : Int), (0 : Int), (0 : Int), (0 : Int),
                                  ((0 : Int), (0 : Int), (0 : Int)), []),
                                ()),
                              ((-4 : Int), ()), ()),
                            ())
                      else
                        bif
                            decide
                              (gt is ar (IntKind.i64.wrap (v.1.1.1 - (1 : Int))).toNat >
                                IntKind.i64.wrap
                                  ((↑m.length : Int) - gt is ar (IntKind.i64.wrap (v.1.1.1 - (2 : Int))).toNat)) then
                          some
                            (((((0 : Int), (0 : Int), (0 : Int), (0 : Int), (0 : Int), (0 : Int),
                                    ((0 : Int), (0 : Int), (0 : Int)), []),
                                  ()),
                                ((-4 : Int), ()), ()),
                              ())
                        else
                          bif
                              decide
                                ((0 : Int) ≤ gt is ar (IntKind.i64.wrap (v.1.1.1 - (2 : Int))).toNat ∧
                                  gt is ar (IntKind.i64.wrap (v.1.1.1 - (2 : Int))).toNat ≤
                                      IntKind.i64.wrap
                                        (gt is ar (IntKind.i64.wrap (v.1.1.1 - (2 : Int))).toNat +
                                          gt is ar (IntKind.i64.wrap (v.1.1.1 - (1 : Int))).toNat) ∧
                                    IntKind.i64.wrap
                                          (gt is ar (IntKind.i64.wrap (v.1.1.1 - (2 : Int))).toNat +
                                            gt is ar (IntKind.i64.wrap (v.1.1.1 - (1 : Int))).toNat) ≤
                                        IntKind.i64.wrap
                                          (gt is ar (IntKind.i64.wrap (v.1.1.1 - (2 : Int))).toNat +
                                            gt is ar (IntKind.i64.wrap (v.1.1.1 - (1 : Int))).toNat) ∧
                                      IntKind.i64.wrap
                                          (gt is ar (IntKind.i64.wrap (v.1.1.1 - (2 : Int))).toNat +
                                            gt is ar (IntKind.i64.wrap (v.1.1.1 - (1 : Int))).toNat) ≤
                                        (↑m.length : Int)) then
                            (f39 k
                                  (((List.drop (Int.toNat (gt is ar (IntKind.i64.wrap (v.1.1.1 - (2 : Int))).toNat))
                                          (List.take
                                            (IntKind.i64.wrap
                                                (gt is ar (IntKind.i64.wrap (v.1.1.1 - (2 : Int))).toNat +
                                                  gt is ar (IntKind.i64.wrap (v.1.1.1 - (1 : Int))).toNat)).toNat
                                            m),
                                        ()),
                                      ()),
                                    ())).bind
                              fun v =>
                              some
                                ((((v_2.2.1.1.1, v_2.2.1.1.2.1, v_2.2.1.1.2.2.1, v_2.2.1.1.2.2.2.1, v_2.2.1.1.2.2.2.2.1,
                                        v_2.2.1.1.2.2.2.2.2.1,
                                        (v_2.2.1.1.2.2.2.2.2.2.1.1, v_2.2.1.1.2.2.2.2.2.2.1.2.1,
                                          v_2.2.1.1.2.2.2.2.2.2.1.2.2),
                                        v.1.1.1),
                                      ()),
                                    ((0 : Int), ()), ()),
                                  ())
                          else none
                  else none
                else none
              else
                bif n == (11 : Int) then
                  bif
                      decide
                        ((0 : Int) ≤ IntKind.i64.wrap (v.1.1.1 - (2 : Int)) ∧
                          IntKind.i64.wrap (v.1.1.1 - (2 : Int)) < (↑ar.length : Int)) then
                    bif
                        decide
                          ((0 : Int) ≤ IntKind.i64.wrap (v.1.1.1 - (1 : Int)) ∧
                            IntKind.i64.wrap (v.1.1.1 - (1 : Int)) < (↑ar.length : Int)) then
                      bif decide (gt is ar (IntKind.i64.wrap (v.1.1.1 - (2 : Int))).toNat < (0 : Int)) then
                        some
                          (((((0 : Int), (0 : Int), (0 : Int), (0 : Int), (0 : Int), (0 : Int),
                                  ((0 : Int), (0 : Int), (0 : Int)), []),
                                ()),
                              ((-4 : Int), ()), ()),
                            ())
                      else
                        bif decide (gt is ar (IntKind.i64.wrap (v.1.1.1 - (2 : Int))).toNat > (↑m.length : Int)) then
                          some
                            (((((0 : Int), (0 : Int), (0 : Int), (0 : Int), (0 : Int), (0 : Int),
                                    ((0 : Int), (0 : Int), (0 : Int)), []),
                                  ()),
                                ((-4 : Int), ()), ()),
                              ())
                        else
                          bif
                              decide
                                (gt is ar (IntKind.i64.wrap (v.1.1.1 - (1 : Int))).toNat >
                                  IntKind.i64.wrap
                                    ((↑m.length : Int) - gt is ar (IntKind.i64.wrap (v.1.1.1 - (2 : Int))).toNat)) then
                            some
                              (((((0 : Int), (0 : Int), (0 : Int), (0 : Int), (0 : Int), (0 : Int),
                                      ((0 : Int), (0 : Int), (0 : Int)), []),
                                    ()),
                                  ((-4 : Int), ()), ()),
                                ())
                          else
                            bif
                                decide
                                  ((0 : Int) ≤ gt is ar (IntKind.i64.wrap (v.1.1.1 - (2 : Int))).toNat ∧
                                    gt is ar (IntKind.i64.wrap (v.1.1.1 - (2 : Int))).toNat ≤
                                        IntKind.i64.wrap
                                          (gt is ar (IntKind.i64.wrap (v.1.1.1 - (2 : Int))).toNat +
                                            gt is ar (IntKind.i64.wrap (v.1.1.1 - (1 : Int))).toNat) ∧
                                      IntKind.i64.wrap
                                            (gt is ar (IntKind.i64.wrap (v.1.1.1 - (2 : Int))).toNat +
                                              gt is ar (IntKind.i64.wrap (v.1.1.1 - (1 : Int))).toNat) ≤
                                          IntKind.i64.wrap
                                            (gt is ar (IntKind.i64.wrap (v.1.1.1 - (2 : Int))).toNat +
                                              gt is ar (IntKind.i64.wrap (v.1.1.1 - (1 : Int))).toNat) ∧
                                        IntKind.i64.wrap
                                            (gt is ar (IntKind.i64.wrap (v.1.1.1 - (2 : Int))).toNat +
                                              gt is ar (IntKind.i64.wrap (v.1.1.1 - (1 : Int))).toNat) ≤
                                          (↑m.length : Int)) then
                              (f39 k
                                    (((List.drop (Int.toNat (gt is ar (IntKind.i64.wrap (v.1.1.1 - (2 : Int))).toNat))
                                            (List.take
                                              (IntKind.i64.wrap
                                                  (gt is ar (IntKind.i64.wrap (v.1.1.1 - (2 : Int))).toNat +
                                                    gt is ar (IntKind.i64.wrap (v.1.1.1 - (1 : Int))).toNat)).toNat
                                              m),
                                          ()),
                                        ()),
                                      ())).bind
                                fun v =>
                                some
                                  ((((v_2.2.1.1.1, v_2.2.1.1.2.1, v_2.2.1.1.2.2.1, v_2.2.1.1.2.2.2.1,
                                          v_2.2.1.1.2.2.2.2.1, v_2.2.1.1.2.2.2.2.2.1,
                                          (v_2.2.1.1.2.2.2.2.2.2.1.1, v_2.2.1.1.2.2.2.2.2.2.1.2.1,
                                            v_2.2.1.1.2.2.2.2.2.2.1.2.2),
                                          v.1.1.1),
                                        ()),
                                      ((0 : Int), ()), ()),
                                    ())
                            else none
                    else none
                  else none
                else
                  some
                    ((((v_2.2.1.1.1, v_2.2.1.1.2.1, v_2.2.1.1.2.2.1, v_2.2.1.1.2.2.2.1, v_2.2.1.1.2.2.2.2.1,
                            v_2.2.1.1.2.2.2.2.2.1,
                            (v_2.2.1.1.2.2.2.2.2.2.1.1, v_2.2.1.1.2.2.2.2.2.2.1.2.1, v_2.2.1.1.2.2.2.2.2.2.1.2.2),
                            v_2.2.1.1.2.2.2.2.2.2.2),
                          ()),
                        ((0 : Int), ()), ()),
                      ())
theorem ask_eq (k : Nat) (hv : Int) (n : Int) (ar : List Int) (m : List Int) : f19 k (((hv, ()), (n, ()), (ar, ()), (m, ()), ()), ()) = (f37 k (((n, ()), ()), ())).bind fun v =>
  (f21 k (((n, ()), ()), ())).bind fun v_1 =>
    bif !v.1.2.1.1 then
      some
        (((((0 : Int), (0 : Int), (0 : Int), (0 : Int), (0 : Int), (0 : Int), ((0 : Int), (0 : Int), (0 : Int)), []),
              ()),
            ((-1 : Int), ()), ()),
          ())
    else
      bif v.1.1.1 != (↑ar.length : Int) then
        some
          (((((0 : Int), (0 : Int), (0 : Int), (0 : Int), (0 : Int), (0 : Int), ((0 : Int), (0 : Int), (0 : Int)), []),
                ()),
              ((-1 : Int), ()), ()),
            ())
      else
        bif
            IntKind.i64.wrap
                (↑(BitVec.ofInt IntKind.i64.bits hv &&& BitVec.ofInt IntKind.i64.bits v_1.1.1.1).toNat : Int) !=
              v_1.1.1.1 then
          some
            (((((0 : Int), (0 : Int), (0 : Int), (0 : Int), (0 : Int), (0 : Int), ((0 : Int), (0 : Int), (0 : Int)),
                    []),
                  ()),
                ((-2 : Int), ()), ()),
              ())
        else
          inner k n ar m v := by kernel_rfl
/-! the width of a rune -/
def inS (l : List (Int × Int)) (n : Int) : Bool := l.any fun s => decide (s.1 ≤ n ∧ n ≤ s.2)
theorem span_ok (k : Nat) (a b n : Int) : f56 k ((((a, b), ()), ((), ()), ()), (n, ()), ()) = some (((decide (a ≤ n ∧ n ≤ b), ()), ()), ()) := by
  rw [e56_eq]
  by_cases h : n ≥ a
  · rw [cpos h]
    by_cases h2 : n ≤ b
    · rw [decide_eq_true h2, decide_eq_true ⟨h, h2⟩]
    · rw [decide_eq_false h2, decide_eq_false (fun hh => h2 hh.2)]
  · rw [cneg h, decide_eq_false (fun hh => h hh.1)]
theorem any_ok (k : Nat) (n : Int) (l : List (Int × Int)) (hl : l.length ≤ 1000) (hk : l.length + 1 ≤ k) : ∃ r : Int, f57 k (((l, ()), ((), ()), ()), (n, ()), ()) = some (((r, ()), ()), ()) ∧ decide (r ≥ 0) = inS l n := by
  rw [e57_eq]
  have loop : ∀ (j k' i : Nat), i + j = l.length → j + 1 ≤ k' → ∃ r : Int, loopN (e57_0 k l n) k' (((l, ()), ((), ()), ((l.length : Int), ()), ((i : Int), ()), ()), ()) = some (((r, ()), ()), ()) ∧ decide (r ≥ 0) = inS (l.drop i) n := by
    intro j
    induction j with
    | zero =>
      intro k' i hi hk
      obtain ⟨k', rfl⟩ : ∃ k2, k' = k2 + 1 := ⟨k' - 1, by omega⟩
      simp only [loopN_succ, e57_0]
      rw [cneg (by omega)]
      refine ⟨-1, rfl, ?_⟩
      rw [List.drop_eq_nil_of_le (by omega)]; rfl
    | succ j ih =>
      intro k' i hi hk
      obtain ⟨k', rfl⟩ : ∃ k2, k' = k2 + 1 := ⟨k' - 1, by omega⟩
      have hlt : i < l.length := by omega
      have hg : gt S103 l i = l[i] := by simp [gt, hlt]
      simp only [loopN_succ, e57_0]
      rw [cpos (by omega), cpos (by omega), Int.toNat_natCast, hg, span_ok, Option.bind_some]
      simp only []
      obtain ⟨r, h1, h2⟩ := ih k' (i + 1) (by omega) (by omega)
      have hd : inS (l.drop i) n = (decide (l[i].1 ≤ n ∧ n ≤ l[i].2) || inS (l.drop (i + 1)) n) := by
        unfold inS; rw [List.drop_eq_getElem_cons hlt, List.any_cons]
      rw [hd]
      by_cases hs : l[i].1 ≤ n ∧ n ≤ l[i].2
      · rw [cpos hs]
        exact ⟨i, rfl, by rw [decide_eq_true hs, decide_eq_true (by omega)]; rfl⟩
      · rw [cneg hs, wrapId (n := (i : Int) + 1) (by omega) (by omega), show ((i : Int) + 1) = ((i + 1 : Nat) : Int) by omega, h1]
        exact ⟨r, rfl, by rw [h2, decide_eq_false hs]; rfl⟩
  obtain ⟨r, h1, h2⟩ := loop l.length k 0 (by omega) (by omega)
  exact ⟨r, h1, h2⟩
theorem insp_ok (k : Nat) (n : Int) (l : List (Int × Int)) (hl : l.length ≤ 1000) (hk : l.length + 1 ≤ k) : f54 k (((n, ()), (l, ()), ()), ()) = some (((inS l n, ()), ()), ()) := by
  obtain ⟨r, h1, h2⟩ := any_ok k n l hl hk
  rw [e54_eq, e55_eq, h1, Option.bind_some, Option.bind_some]
  simp only [h2]
def noneL : List (Int × Int) := [(-2147483648, 31), (127, 159), (768, 879), (8203, 8207), (55296, 57343), (65024, 65039), (1114112, 2147483647)]
def twoL : List (Int × Int) := [(0x1100, 0x115f), (0x2e80, 0x303e), (0x3041, 0xa4cf), (0xac00, 0xd7a3), (0xf900, 0xfaff), (0xfe30, 0xfe6f), (0xff00, 0xff60), (0xffe0, 0xffe6), (0x1f300, 0x1f64f), (0x1f900, 0x1f9ff), (0x20000, 0x3fffd)]
def width (n : Int) : Int := if 32 ≤ n ∧ n < 127 then 1 else if inS noneL n then 0 else if inS twoL n then 2 else 1
theorem none_ok (k : Nat) (n : Int) (hk : 20 ≤ k) : f51 k (((n, ()), ()), ()) = some (((inS noneL n, ()), ()), ()) := by
  rw [e51_eq]
  have := insp_ok k n noneL (by decide) (by simp [noneL]; omega)
  unfold noneL at this ⊢
  rw [this]; rfl
theorem two_ok (k : Nat) (n : Int) (hk : 20 ≤ k) : f52 k (((n, ()), ()), ()) = some (((inS twoL n, ()), ()), ()) := by
  rw [e52_eq]
  have := insp_ok k n twoL (by decide) (by simp [twoL]; omega)
  unfold twoL at this ⊢
  rw [this]; rfl
theorem width_ok (k : Nat) (n : Int) (hk : 20 ≤ k) : f47 k (((n, ()), ()), ()) = some (((width n, ()), ()), ()) := by
  rw [e47_eq, none_ok k n hk, two_ok k n hk]
  unfold width
  simp only [Option.bind_some]
  by_cases h : n ≥ 32
  · rw [cpos h]
    by_cases h2 : n < 127
    · rw [cpos h2, if_pos (by omega)]
    · rw [cneg h2, if_neg (by omega)]
      cases inS noneL n <;> cases inS twoL n <;> rfl
  · rw [cneg h, if_neg (by omega)]
    cases inS noneL n <;> cases inS twoL n <;> rfl
end
end Go.Proofs.Ytopnjcclbepdoaa.Caps
