import Derived.Test.YtjdbamenbgfcjaaDoorGF
namespace Go.Proofs.YtjdbamenbgfcjaaDoor.Gl
open Go Go.RowKit Go.Proofs Go.Proofs.YtjdbamenbgfcjaaDoor.X
set_option linter.unusedVariables false
set_option linter.unusedSimpArgs false
noncomputable section
/-! Widths add up -/
theorem e10_eq (k : Nat) (a : List Int) (b : List Int) (w : Int) : f10 k (((a, ()), (b, ()), (w, ()), ()), ()) = (f11 k ((), ())).bind fun v =>
  bif !v.1.1.1 then some (((false, ()), ()), ())
  else
    bif ((([] : List Int).length + a.length) * (4 : Nat)).ble (140737488355328 : Nat) then
      bif ((([] ++ a).length + b.length) * (4 : Nat)).ble (140737488355328 : Nat) then
        (f25 k ((([] ++ a ++ b, ()), ()), ())).bind fun v_1 =>
          (f25 k (((a, ()), ()), ())).bind fun v_2 =>
            (f25 k (((b, ()), ()), ())).bind fun v_3 =>
              bif v_1.1.1.1 != IntKind.i64.wrap (v_2.1.1.1 + v_3.1.1.1) then some (((false, ()), ()), ())
              else
                (f25 k ((([] ++ a ++ b, ()), ()), ())).bind fun v_4 =>
                  bif decide (v_4.1.1.1 > IntKind.i64.wrap ((2 : Int) * (↑([] ++ a ++ b).length : Int))) then
                    some (((false, ()), ()), ())
                  else
                    (f27 k ((([] ++ a ++ b, ()), (w, ()), ()), ())).bind fun v_5 =>
                      bif
                          decide
                            ((0 : Int) ≤ (↑(List.length v_5.2.1) : Int) ∧
                              (↑(List.length v_5.2.1) : Int) ≤ (↑([] ++ a ++ b).length : Int) ∧
                                (↑([] ++ a ++ b).length : Int) ≤ (↑([] ++ a ++ b).length : Int) ∧
                                  (↑([] ++ a ++ b).length : Int) ≤ (↑([] ++ a ++ b).length : Int)) then
                        (f25 k
                              (((List.take ((↑([] ++ a ++ b).length : Int).toNat - (↑(List.length v_5.2.1) : Int).toNat)
                                      (List.drop (↑(List.length v_5.2.1) : Int).toNat ([] ++ a ++ b)),
                                    ()),
                                  ()),
                                ())).bind
                          fun v_6 =>
                          (f25 k ((([] ++ a ++ b, ()), ()), ())).bind fun v =>
                            bif IntKind.i64.wrap (v_5.1.2.1.1 + v_6.1.1.1) == v.1.1.1 then
                              bif decide (w < (0 : Int)) then some (((decide (v_5.1.2.1.1 ≥ (0 : Int)), ()), ()), ())
                              else
                                bif decide (v_5.1.2.1.1 ≤ w) then
                                  some (((decide (v_5.1.2.1.1 ≥ (0 : Int)), ()), ()), ())
                                else some (((false, ()), ()), ())
                            else some (((false, ()), ()), ())
                      else none
      else none
    else none := by kernel_rfl

theorem glyphSums (a b : List Int) (w : Int) (_ha : ∀ x ∈ a, (Lit.int .i32 x).wf = true) (ha : a.length ≤ 1048576) (_hb : ∀ x ∈ b, (Lit.int .i32 x).wf = true) (hb : b.length ≤ 1048576) (hw0 : (Lit.int .i64 w).wf = true) : f10 (a.length + b.length + 20 + 20) (((a, ()), (b, ()), (w, ()), ()), ()) = some (((true, ()), ()), ()) := by
  have hw := i64_of hw0
  generalize hK : a.length + b.length + 20 = K
  have hall : (a ++ b).length = a.length + b.length := List.length_append
  have ta := total_ok (K + 20) a (by omega) (by omega)
  have tb := total_ok (K + 20) b (by omega) (by omega)
  have tab := total_ok (K + 20) (a ++ b) (by omega) (by omega)
  have hc := cut_ok (K + 20) (a ++ b) w hw (by omega) (by omega)
  have hfit := cutAt_fits (a ++ b) w 0 (by omega)
  have hcl := cutAt_le (a ++ b) w 0
  have la := total_le a
  have lb := total_le b
  have happ := total_app a b
  rw [e10_eq, alive, Option.bind_some]
  simp only [Bool.not_true, cond_false, List.nil_append, List.length_nil, Nat.zero_add]
  rw [show (a.length * 4).ble 140737488355328 = true by rw [Nat.ble_eq]; omega, cond_true, show ((a.length + b.length) * 4).ble 140737488355328 = true by rw [Nat.ble_eq]; omega, cond_true, tab, Option.bind_some, ta, Option.bind_some, tb, Option.bind_some]
  simp only []
  rw [wrapId (n := total a + total b) (by omega) (by omega), show (total (a ++ b) != total a + total b) = false by simp [happ], cond_false, Option.bind_some]
  simp only []
  have h2l : IntKind.i64.wrap (2 * ((a ++ b).length : Int)) = 2 * ((a ++ b).length : Int) := wrapId (by omega) (by omega)
  rw [cneg (p := total (a ++ b) > IntKind.i64.wrap (2 * ((a ++ b).length : Int))) (by rw [h2l]; omega), hc, Option.bind_some]
  simp only []
  generalize hcc : cutAt (a ++ b) w 0 = c at *
  have htl : ((a ++ b).take c).length = c := by rw [List.length_take]; omega
  rw [htl, cpos (by omega), show ((c : Int)).toNat = c from Int.toNat_natCast c, show (((a ++ b).length : Int)).toNat = (a ++ b).length from Int.toNat_natCast _, List.take_of_length_le (by rw [List.length_drop]; omega)]
  rw [total_ok (K + 20) ((a ++ b).drop c) (by rw [List.length_drop]; omega) (by rw [List.length_drop]; omega), Option.bind_some, Option.bind_some]
  simp only []
  have hsum : total ((a ++ b).take c) + total ((a ++ b).drop c) = total (a ++ b) := by rw [← total_app, List.take_append_drop]
  have l1 := total_le ((a ++ b).take c)
  have l2 := total_le ((a ++ b).drop c)
  have l3 : ((a ++ b).take c).length ≤ 2097152 := by rw [List.length_take]; omega
  have l4 : ((a ++ b).drop c).length ≤ 2097152 := by rw [List.length_drop]; omega
  rw [wrapId (n := total ((a ++ b).take c) + total ((a ++ b).drop c)) (by omega) (by omega), hsum, beq_self_eq_true, cond_true]
  have hge : decide (total ((a ++ b).take c) ≥ 0) = true := decide_eq_true (by omega)
  by_cases h1 : w < 0
  · rw [cpos h1, hge]
  · have hle : total ((a ++ b).take c) ≤ w := by
      rw [Int.zero_add] at hfit
      rcases hfit with h | h | h
      · omega
      · exact h
      · rw [h, List.take_zero, total_nil]; omega
    rw [cneg h1, cpos hle, hge]
end
end Go.Proofs.YtjdbamenbgfcjaaDoor.Gl
