import Derived.Test.YtopnjcclbepdoaaKB
namespace Go.Proofs.Ytopnjcclbepdoaa.Caps
open Go Go.RowKit Go.Proofs Go.Proofs.Ytopnjcclbepdoaa.X
set_option linter.unusedVariables false
set_option linter.unusedSimpArgs false
noncomputable section
/-! A write and a log are about just the bytes at their place -/
theorem e7_eq (k : Nat) (m : List Int) (a : Int) (n : Int) : f7 k (((m, ()), (a, ()), (n, ()), ()), ()) = (f18 k ((), ())).bind fun v =>
  bif !v.1.1.1 then some (((false, ()), ()), ())
  else
    (f19 k ((((4 : Int), ()), ((5 : Int), ()), ([(7 : Int), a, n], ()), (m, ()), ()), ())).bind fun v_1 =>
      (f19 k ((((0 : Int), ()), ((11 : Int), ()), ([a, n], ()), (m, ()), ()), ())).bind fun v_2 =>
        bif v_1.1.2.1.1 != v_2.1.2.1.1 then some (((false, ()), ()), ())
        else
          bif (↑(List.length v_1.1.1.1.2.2.2.2.2.2.2) : Int) != (↑(List.length v_2.1.1.1.2.2.2.2.2.2.2) : Int) then
            some (((false, ()), ()), ())
          else
            bif decide (n < (0 : Int)) then some (((v_1.1.2.1.1 == (-3 : Int), ()), ()), ())
            else
              bif decide (n > (64 : Int)) then some (((v_1.1.2.1.1 == (-3 : Int), ()), ()), ())
              else
                bif decide (a < (0 : Int)) then some (((v_1.1.2.1.1 == (-4 : Int), ()), ()), ())
                else
                  bif decide (a > (↑m.length : Int)) then some (((v_1.1.2.1.1 == (-4 : Int), ()), ()), ())
                  else
                    bif decide (n > IntKind.i64.wrap ((↑m.length : Int) - a)) then
                      some (((v_1.1.2.1.1 == (-4 : Int), ()), ()), ())
                    else
                      bif v_1.1.2.1.1 == (0 : Int) then
                        bif v_1.1.1.1.1 == (5 : Int) then
                          bif v_1.1.1.1.2.1 == (7 : Int) then
                            bif v_2.1.1.1.1 == (11 : Int) then
                              bif
                                  decide
                                    ((0 : Int) ≤ a ∧
                                      a ≤ IntKind.i64.wrap (a + n) ∧
                                        IntKind.i64.wrap (a + n) ≤ IntKind.i64.wrap (a + n) ∧
                                          IntKind.i64.wrap (a + n) ≤ (↑m.length : Int)) then
                                (f22 k
                                      (((v_1.1.1.1.2.2.2.2.2.2.2, ()),
                                          (List.drop a.toNat (List.take (IntKind.i64.wrap (a + n)).toNat m), ()), ()),
                                        ())).bind
                                  fun v_3 =>
                                  bif v_3.1.1.1 then
                                    bif
                                        decide
                                          ((0 : Int) ≤ a ∧
                                            a ≤ IntKind.i64.wrap (a + n) ∧
                                              IntKind.i64.wrap (a + n) ≤ IntKind.i64.wrap (a + n) ∧
                                                IntKind.i64.wrap (a + n) ≤ (↑m.length : Int)) then
                                      (f22 k
                                            (((v_2.1.1.1.2.2.2.2.2.2.2, ()),
                                                (List.drop a.toNat (List.take (IntKind.i64.wrap (a + n)).toNat m), ()),
                                                ()),
                                              ())).bind
                                        fun v => some (((v.1.1.1, ()), ()), ())
                                    else none
                                  else some (((false, ()), ()), ())
                              else none
                            else some (((false, ()), ()), ())
                          else some (((false, ()), ()), ())
                        else some (((false, ()), ()), ())
                      else some (((false, ()), ()), ()) := by kernel_rfl
theorem capsBytes (m : List Int) (a n : Int) (hm : m.length * 1 ≤ 140737488351232) : f7 (100 + 20) (((m, ()), (a, ()), (n, ()), ()), ()) = some (((true, ()), ()), ()) := by
  rw [e7_eq, alive, Option.bind_some]
  simp only [Bool.not_true, cond_false]
  rw [ask5 _ a n m (by omega), ask11 _ a n m (by omega)]
  unfold askR
  by_cases h : 0 ≤ n ∧ n ≤ 64
  · rw [if_pos h]
    by_cases g : 0 ≤ a ∧ a + n ≤ (m.length : Int)
    · rw [if_pos g, if_pos h, if_pos g]
      simp only [Option.bind_some, bne_self_eq_false, cond_false, beq_self_eq_true, cond_true]
      rw [cneg (by omega), cneg (by omega), cneg (by omega), cneg (by omega), wrapId (n := (m.length : Int) - a) (by omega) (by omega), cneg (by omega), wrapId (n := a + n) (by omega) (by omega), cpos (by omega), same_ok _ _ (by simp; omega) (by simp; omega), Option.bind_some]
      simp only [cond_true]
      rw [cpos (by omega)]
      rfl
    · rw [if_neg g, if_pos h, if_neg g]
      simp only [Option.bind_some, bne_self_eq_false, cond_false, beq_self_eq_true, cond_true]
      rw [cneg (by omega), cneg (by omega)]
      by_cases g0 : a < 0
      · rw [cpos g0]
      rw [cneg g0]
      by_cases g1 : a > (m.length : Int)
      · rw [cpos g1]
      rw [cneg g1, wrapId (n := (m.length : Int) - a) (by omega) (by omega), cpos (by omega)]
  · rw [if_neg h, if_neg h]
    simp only [Option.bind_some, bne_self_eq_false, cond_false, beq_self_eq_true, cond_true]
    by_cases g0 : n < 0
    · rw [cpos g0]
    · rw [cneg g0, cpos (by omega)]
theorem law7 (k : Nat) : ∀ e ∈ [Fm.entry Try.prog F18 18 (f18 k), Fm.entry Try.prog F19 19 (f19 k), Fm.entry Try.prog F22 22 (f22 k)], EGood Try.prog e := (goods_cons (g18 k) (goods_cons (g19 k) (goods_cons (g22 k) goods_nil)))
end
end Go.Proofs.Ytopnjcclbepdoaa.Caps
