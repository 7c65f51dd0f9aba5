import Derived.Test.YtjbdeccohpbegaaVE
namespace Go.Proofs.Ytjbdeccohpbegaa.Vm
open Go Go.RowKit Go.Proofs Go.Proofs.Ytjbdeccohpbegaa.X
set_option linter.unusedVariables false
set_option linter.unusedSimpArgs false
noncomputable section
/-! A module of one function: its bytes, its check, its machine -/
def e9_0 (k : Nat) (m : Int) (d : List Int) (l : Fs) (g : ((Unit × Unit) × (Fs × Unit) × (Int × Unit) × (Int × Unit) × Unit) × (Int × List Int × Unit × Unit × Unit × (Bool × Int × List Int × Int) × Unit) × List Int × List (Int × Int × List Int × List Int) × Fs × Unit) (L : ((Unit × Unit) × (Fs × Unit) × (Int × Unit) × (Int × Unit) × Unit) × (Int × List Int × Unit × Unit × Unit × (Bool × Int × List Int × Int) × Unit) × List Int × List (Int × Int × List Int × List Int) × Fs × Unit → Option (((Unit × Unit) × (Int × Unit) × Unit) × ((Int × List Int × Fs) × Unit × Unit × (Bool × Int × List Int × Int) × Unit) × List Int × List (Int × Int × List Int × List Int) × Unit)) : Option (((Unit × Unit) × (Int × Unit) × Unit) × ((Int × List Int × Fs) × Unit × Unit × (Bool × Int × List Int × Int) × Unit) × List Int × List (Int × Int × List Int × List Int) × Unit) := bif decide (g.1.2.2.2.1.1 < g.1.2.2.1.1) then bif decide ((0 : Int) ≤ g.1.2.2.2.1.1 ∧ g.1.2.2.2.1.1 < (↑g.1.2.1.1.length : Int)) then Option.bind (bif ((([] : List Int).length + List.length (fa g.1.2.1.1 g.1.2.2.2.1.1.toNat).2.2.2) * (16 : Nat)).ble (140737488355328 : Nat) then some ((((fa g.1.2.1.1 g.1.2.2.2.1.1.toNat).2.2.2, ()), ()), ()) else none) fun v => bif ((g.2.2.2.2.1.length + [((fa g.1.2.1.1 g.1.2.2.2.1.1.toNat).1, (fa g.1.2.1.1 g.1.2.2.2.1.1.toNat).2.1, (fa g.1.2.1.1 g.1.2.2.2.1.1.toNat).2.2.1, v.1.1.1)].length) * (48 : Nat)).ble (140737488355328 : Nat) then L ((((), ()), (g.1.2.1.1, ()), (g.1.2.2.1.1, ()), (IntKind.i64.wrap (g.1.2.2.2.1.1 + (1 : Int)), ()), ()), (g.2.1.1, g.2.1.2.1, (), (), (), (g.2.1.2.2.2.2.2.1.1, g.2.1.2.2.2.2.2.1.2.1, g.2.1.2.2.2.2.2.1.2.2.1, g.2.1.2.2.2.2.2.1.2.2.2), ()), g.2.2.1, g.2.2.2.1, g.2.2.2.2.1 ++ [((fa g.1.2.1.1 g.1.2.2.2.1.1.toNat).1, (fa g.1.2.1.1 g.1.2.2.2.1.1.toNat).2.1, (fa g.1.2.1.1 g.1.2.2.2.1.1.toNat).2.2.1, v.1.1.1)], ()) else none else none else some ((((), ()), ((0 : Int), ()), ()), ((g.2.1.1, g.2.1.2.1, g.2.2.2.2.1), (), (), (g.2.1.2.2.2.2.2.1.1, g.2.1.2.2.2.2.2.1.2.1, g.2.1.2.2.2.2.2.1.2.2.1, g.2.1.2.2.2.2.2.1.2.2.2), ()), g.2.2.1, g.2.2.2.1, ())
theorem e9_eq (k : Nat) (m : Int) (d : List Int) (l : Fs) : f9 k ((((m, d, l), ()), ()), ()) = (f20 k ((((m, d, l), ()), ()), ())).bind fun v => bif !(v.1.1.1.1 == (0 : Int) && (v.1.1.1.2.1 == (0 : Int) && (v.1.1.1.2.2 == (0 : Int) && true))) then none else bif decide ((0 : Int) ≤ m ∧ m ≤ m) && ((m.toNat * (1 : Nat)).ble (140737488355328 : Nat) && m.toNat.ble (1152921504606846976 : Nat)) then loopN (e9_0 k m d l) k ((((), ()), (l, ()), ((↑l.length : Int), ()), ((0 : Int), ()), ()), (m, [], (), (), (), (false, (0 : Int), [], (0 : Int)), ()), List.take (0 : Nat) (List.replicate m.toNat (0 : Int)) ++ List.take (d.length.min (List.replicate m.toNat (0 : Int)).length) d ++ List.drop ((0 : Nat) + d.length.min (List.replicate m.toNat (0 : Int)).length) (List.replicate m.toNat (0 : Int)), [], [], ()) else none := by kernel_rfl

/-- the module of one function with three Params -/
abbrev one (c : List (Int × Int)) : Fs := [(3, 0, 0, c)]
theorem num_at (k : Nat) (hk : 1000 ≤ k) (m : Int) (d : List Int) (c : List (Int × Int)) (hd : d.length ≤ 200) (hc : c.length ≤ 40)
    (hr : f37 k ((((m, d, one c), ()), ()), ()) = some (((true, ()), ()), ())) : ∃ b, f28 k ((((m, d, one c), ()), ()), ()) = some ((((), ()), ((0 : Int), ()), ()), b, ()) := by
  rw [e28_eq, hr, Option.bind_some]
  simp only []
  rw [Bool.not_true, cond_false, blt (by simp only [List.length_cons, List.length_nil]; omega), blt (by simp only [List.length_append, List.length_cons, List.length_nil]; omega)]
  have h3 : ∀ B : List Int, B.length ≤ 300 → ∃ b, loopN (e28_1 k m d (one c)) k ((((), ()), (one c, ()), (((one c).length : Int), ()), ((0 : Int), ()), ()), B, ()) = some ((((), ()), ((0 : Int), ()), ()), b, ()) := fun B hB => by
    obtain ⟨k', hk'⟩ : ∃ k2, k = k2 + 1 + 1 := ⟨k - 2, by omega⟩
    have hF : fa (one c) 0 = (3, 0, 0, c) := rfl
    rw [show loopN (e28_1 k m d (one c)) k = loopN (e28_1 k m d (one c)) (k' + 1 + 1) from by rw [← hk'], loopN_succ, e28_1]
    simp only []
    have hl : ((one c).length : Int) = 1 := rfl
    rw [hl, cpos (by decide), cpos (by decide), Int.toNat_zero, hF]
    simp only []
    rw [blt (by simp only [List.length_cons, List.length_nil]; omega)]
    obtain ⟨b', q1, q2⟩ := enc_in k hk m d (one c) (loopN (e28_1 k m d (one c)) (k' + 1)) (one c) 1 0 c (by omega) (by omega) 40 0 k (B ++ [IntKind.u8.wrap 3, IntKind.u8.wrap 0, IntKind.u8.wrap 0, IntKind.u8.wrap (↑c.length : Int), IntKind.u8.wrap ((↑c.length : Int).fdiv ((2 : Int) ^ min (Int.toNat (8 : Int)) IntKind.i64.bits))]) (by omega) (by omega) (by omega) (by simp only [List.length_append, List.length_cons, List.length_nil]; omega)
    simp only [List.length_append, List.length_cons, List.length_nil] at q2
    refine ⟨b', q1.trans ?_⟩
    rw [loopN_succ, e28_1]
    simp only []
    rw [cneg (by decide), cneg (by omega)]
  exact h3 _ (by simp only [List.length_append, List.length_cons, List.length_nil]; omega)
theorem check1 (k : Nat) (hk : 2000 ≤ k) (m : Int) (d : List Int) (c : List (Int × Int)) (hd : d.length ≤ 200) (hc : c.length ≤ 40)
    (hr : f37 k ((((m, d, one c), ()), ()), ()) = some (((true, ()), ()), ())) (hI : ∀ p, p < c.length → OkI k m d (one c) 0 3 0 (c.length : Int) (ca c p))
    (hh : ∃ r, f30 k ((((m, d, one c), ()), ((0 : Int), ()), ()), ()) = R21 true r) : f20 k ((((m, d, one c), ()), ()), ()) = r20 0 0 0 := by
  obtain ⟨b, hb⟩ := num_at k (by omega) m d c hd hc hr
  obtain ⟨b1, q1, q2⟩ := right_tot k (by omega) m d (one c)
  have hM : MOk m d (one c) := q2 (by rw [hr] at q1; simp only [Option.some.injEq, Prod.mk.injEq, and_true] at q1; exact q1.symm)
  refine check_good k hk m d (one c) ⟨hM, rfl, rfl, fun g hg => ?_⟩ hb
  have hg0 : g = 0 := by have : (one c).length = 1 := rfl; omega
  subst hg0
  exact ⟨hI, hh⟩
abbrev memOf (m : Int) (d : List Int) : List Int := List.take (0 : Nat) (List.replicate m.toNat (0 : Int)) ++ List.take (d.length.min (List.replicate m.toNat (0 : Int)).length) d ++ List.drop ((0 : Nat) + d.length.min (List.replicate m.toNat (0 : Int)).length) (List.replicate m.toNat (0 : Int))
theorem new1 (k : Nat) (hk : 2000 ≤ k) (m : Int) (d : List Int) (c : List (Int × Int)) (hm : 0 ≤ m ∧ m ≤ 1024) (hc : c.length ≤ 400)
    (h : f20 k ((((m, d, one c), ()), ()), ()) = r20 0 0 0) : f9 k ((((m, d, one c), ()), ()), ()) = some ((((), ()), ((0 : Int), ()), ()), ((m, [], one c), (), (), (false, (0 : Int), [], (0 : Int)), ()), memOf m d, [], ()) := by
  rw [e9_eq, h, Option.bind_some]
  simp only []
  obtain ⟨k', rfl⟩ : ∃ k2, k = k2 + 1 + 1 := ⟨k - 2, by omega⟩
  have hl : ((one c).length : Int) = 1 := rfl
  have hF : fa (one c) 0 = (3, 0, 0, c) := rfl
  rw [show decide ((0 : Int) ≤ m ∧ m ≤ m) = true from by simp; omega, show (m.toNat * (1 : Nat)).ble (140737488355328 : Nat) = true from Nat.ble_eq_true_of_le (by omega), show m.toNat.ble (1152921504606846976 : Nat) = true from Nat.ble_eq_true_of_le (by omega)]
  simp only [beq_self_eq_true, Bool.and_self, Bool.not_true, cond_false, cond_true]
  rw [loopN_succ, e9_0]
  simp only []
  rw [hl, cpos (by decide), cpos (by decide), Int.toNat_zero, hF]
  simp only []
  rw [blt (by simp only [List.length_nil]; omega), Option.bind_some]
  simp only []
  rw [blt (by simp only [List.length_cons, List.length_nil]; omega), loopN_succ, e9_0]
  simp only []
  rw [cneg (by decide)]
  rfl
end
end Go.Proofs.Ytjbdeccohpbegaa.Vm
