import Derived.Test.YtjbdeccohpbegaaVB
namespace Go.Proofs.Ytjbdeccohpbegaa.Vm
open Go Go.RowKit Go.Proofs Go.Proofs.Ytjbdeccohpbegaa.X
set_option linter.unusedVariables false
set_option linter.unusedSimpArgs false
noncomputable section
/-! Effects, static faults, heights -/
theorem e41_eq (k : Nat) (m : Int) (d : List Int) (l : Fs) (n : Int) : f41 k ((((m, d, l), ()), (n, ()), ()), ()) = bif decide (n ≥ (0 : Int)) then some (((decide (n < (↑l.length : Int)), ()), ()), ()) else some (((false, ()), ()), ()) := by kernel_rfl
theorem e42_eq (k : Nat) (n : Int) : f42 k (((n, ()), ()), ()) = bif decide (n < (0 : Int)) then some ((((-1 : Int), ()), ()), ()) else bif decide (n ≥ (12 : Int)) then some ((((-1 : Int), ()), ()), ()) else bif decide ((0 : Int) ≤ n ∧ n < (↑(12 : Nat) : Int)) then bif decide ((0 : Nat) + n.toNat * (1 : Nat) < [(3 : Int), (3 : Int), (0 : Int), (1 : Int), (1 : Int), (3 : Int), (1 : Int), (0 : Int), (1 : Int), (3 : Int), (0 : Int), (2 : Int)].length) then some ((([(3 : Int), (3 : Int), (0 : Int), (1 : Int), (1 : Int), (3 : Int), (1 : Int), (0 : Int), (1 : Int), (3 : Int), (0 : Int), (2 : Int)].getD ((0 : Nat) + n.toNat * (1 : Nat)) (0 : Int), ()), ()), ()) else none else none := by kernel_rfl
theorem e31_eq (k : Nat) (m : Int) (d : List Int) (l : Fs) (f : Int) (op : Int) (n : Int) : f31 k ((((m, d, l), ()), (f, ()), ((op, n), ()), ()), ()) = (f41 k ((((m, d, l), ()), (f, ()), ()), ())).bind fun v => bif !v.1.1.1 then some ((((0 : Int), ()), ((0 : Int), ()), (false, ()), ()), ()) else bif op == (0 : Int) then some ((((0 : Int), ()), ((0 : Int), ()), (true, ()), ()), ()) else bif op == (24 : Int) then some ((((0 : Int), ()), ((0 : Int), ()), (true, ()), ()), ()) else bif op == (29 : Int) then some ((((0 : Int), ()), ((0 : Int), ()), (true, ()), ()), ()) else bif op == (1 : Int) then some ((((0 : Int), ()), ((1 : Int), ()), (true, ()), ()), ()) else bif op == (5 : Int) then some ((((0 : Int), ()), ((1 : Int), ()), (true, ()), ()), ()) else bif op == (2 : Int) then some ((((1 : Int), ()), ((0 : Int), ()), (true, ()), ()), ()) else bif op == (6 : Int) then some ((((1 : Int), ()), ((0 : Int), ()), (true, ()), ()), ()) else bif op == (25 : Int) then some ((((1 : Int), ()), ((0 : Int), ()), (true, ()), ()), ()) else bif op == (3 : Int) then some ((((1 : Int), ()), ((2 : Int), ()), (true, ()), ()), ()) else bif op == (4 : Int) then some ((((2 : Int), ()), ((2 : Int), ()), (true, ()), ()), ()) else bif op == (19 : Int) then some ((((1 : Int), ()), ((1 : Int), ()), (true, ()), ()), ()) else bif op == (20 : Int) then some ((((1 : Int), ()), ((1 : Int), ()), (true, ()), ()), ()) else bif op == (22 : Int) then some ((((1 : Int), ()), ((1 : Int), ()), (true, ()), ()), ()) else bif op == (21 : Int) then some ((((2 : Int), ()), ((0 : Int), ()), (true, ()), ()), ()) else bif op == (23 : Int) then some ((((2 : Int), ()), ((0 : Int), ()), (true, ()), ()), ()) else bif op == (27 : Int) then bif decide ((0 : Int) ≤ f ∧ f < (↑l.length : Int)) then some ((((fa l f.toNat).2.1, ()), ((0 : Int), ()), (true, ()), ()), ()) else none else bif op == (26 : Int) then (f41 k ((((m, d, l), ()), (n, ()), ()), ())).bind fun v => bif v.1.1.1 then bif decide ((0 : Int) ≤ n ∧ n < (↑l.length : Int)) then bif decide ((0 : Int) ≤ n ∧ n < (↑l.length : Int)) then some ((((fa l n.toNat).1, ()), ((fa l n.toNat).2.1, ()), (true, ()), ()), ()) else none else none else some ((((0 : Int), ()), ((0 : Int), ()), (false, ()), ()), ()) else bif op == (28 : Int) then (f42 k (((n, ()), ()), ())).bind fun v => bif decide (v.1.1.1 ≥ (0 : Int)) then some (((v.1.1.1, ()), ((1 : Int), ()), (true, ()), ()), ()) else some ((((0 : Int), ()), ((0 : Int), ()), (false, ()), ()), ()) else bif decide (op ≥ (7 : Int)) then bif decide (op ≤ (18 : Int)) then some ((((2 : Int), ()), ((1 : Int), ()), (true, ()), ()), ()) else some ((((0 : Int), ()), ((0 : Int), ()), (false, ()), ()), ()) else some ((((0 : Int), ()), ((0 : Int), ()), (false, ()), ()), ()) := by kernel_rfl
theorem e40_eq (k : Nat) (at_ : Int) (op : Int) (n : Int) : f40 k (((at_, ()), ((op, n), ()), ()), ()) = bif op == (27 : Int) then some ((((), ()), ()), [], ()) else bif op == (29 : Int) then some ((((), ()), ()), [], ()) else bif op == (24 : Int) then some ((((), ()), ()), [n], ()) else bif op == (25 : Int) then some ((((), ()), ()), [n, IntKind.i64.wrap (at_ + (1 : Int))], ()) else some ((((), ()), ()), [IntKind.i64.wrap (at_ + (1 : Int))], ()) := by kernel_rfl
theorem host_tot (k : Nat) (n : Int) : ∃ v : Int, f42 k (((n, ()), ()), ()) = some (((v, ()), ()), ()) ∧ -1 ≤ v ∧ v ≤ 3 := by
  rw [e42_eq]
  by_cases h1 : n < 0
  · rw [cpos h1]; exact ⟨-1, rfl, by decide, by decide⟩
  rw [cneg h1]
  by_cases h2 : n ≥ 12
  · rw [cpos h2]; exact ⟨-1, rfl, by decide, by decide⟩
  have hz : ∀ i, i < 12 → -1 ≤ [(3 : Int), (3 : Int), (0 : Int), (1 : Int), (1 : Int), (3 : Int), (1 : Int), (0 : Int), (1 : Int), (3 : Int), (0 : Int), (2 : Int)].getD i (0 : Int) ∧ [(3 : Int), (3 : Int), (0 : Int), (1 : Int), (1 : Int), (3 : Int), (1 : Int), (0 : Int), (1 : Int), (3 : Int), (0 : Int), (2 : Int)].getD i (0 : Int) ≤ 3 := by decide
  rw [cneg h2, cpos (by omega), cpos (by simp only [List.length_cons, List.length_nil]; omega)]
  exact ⟨_, rfl, (hz _ (by omega)).1, (hz _ (by omega)).2⟩
abbrev V14 : Type := Option (((Int × Unit) × (Int × Unit) × (Bool × Unit) × Unit) × Unit)
abbrev E31 (k : Nat) (m : Int) (d : List Int) (l : Fs) (f : Int) (c : Int × Int) : V14 := f31 k ((((m, d, l), ()), (f, ()), ((c.1, c.2), ()), ()), ())
abbrev r31 (T P : Int) (b : Bool) : V14 := some (((T, ()), (P, ()), (b, ()), ()), ())
theorem eff_tot (k : Nat) (m : Int) (d : List Int) (l : Fs) (hf : ∀ i, i < l.length → FnOk (fa l i)) (f : Int) (h0 : 0 ≤ f) (h1 : f < (l.length : Int)) (c : Int × Int) :
    ∃ T P b, E31 k m d l f c = r31 T P b ∧ (0 ≤ T ∧ T ≤ 8) ∧ (0 ≤ P ∧ P ≤ 8) := by
  obtain ⟨op, n⟩ := c
  have fin : ∀ (T P : Int) (b : Bool), 0 ≤ T → T ≤ 8 → 0 ≤ P → P ≤ 8 → ∃ T' P' b', r31 T P b = r31 T' P' b' ∧ (0 ≤ T' ∧ T' ≤ 8) ∧ (0 ≤ P' ∧ P' ≤ 8) := fun T P b a1 a2 a3 a4 => ⟨T, P, b, rfl, ⟨a1, a2⟩, ⟨a3, a4⟩⟩
  show ∃ T P b, f31 k ((((m, d, l), ()), (f, ()), ((op, n), ()), ()), ()) = r31 T P b ∧ _
  rw [e31_eq, e41_eq, cpos (show f ≥ 0 from h0), Option.bind_some]
  simp only []
  rw [decide_eq_true h1, Bool.not_true, cond_false]
  cases op == (0 : Int) with
  | true => exact fin 0 0 true (by decide) (by decide) (by decide) (by decide)
  | false =>
  rw [cond_false]
  cases op == (24 : Int) with
  | true => exact fin 0 0 true (by decide) (by decide) (by decide) (by decide)
  | false =>
  rw [cond_false]
  cases op == (29 : Int) with
  | true => exact fin 0 0 true (by decide) (by decide) (by decide) (by decide)
  | false =>
  rw [cond_false]
  cases op == (1 : Int) with
  | true => exact fin 0 1 true (by decide) (by decide) (by decide) (by decide)
  | false =>
  rw [cond_false]
  cases op == (5 : Int) with
  | true => exact fin 0 1 true (by decide) (by decide) (by decide) (by decide)
  | false =>
  rw [cond_false]
  cases op == (2 : Int) with
  | true => exact fin 1 0 true (by decide) (by decide) (by decide) (by decide)
  | false =>
  rw [cond_false]
  cases op == (6 : Int) with
  | true => exact fin 1 0 true (by decide) (by decide) (by decide) (by decide)
  | false =>
  rw [cond_false]
  cases op == (25 : Int) with
  | true => exact fin 1 0 true (by decide) (by decide) (by decide) (by decide)
  | false =>
  rw [cond_false]
  cases op == (3 : Int) with
  | true => exact fin 1 2 true (by decide) (by decide) (by decide) (by decide)
  | false =>
  rw [cond_false]
  cases op == (4 : Int) with
  | true => exact fin 2 2 true (by decide) (by decide) (by decide) (by decide)
  | false =>
  rw [cond_false]
  cases op == (19 : Int) with
  | true => exact fin 1 1 true (by decide) (by decide) (by decide) (by decide)
  | false =>
  rw [cond_false]
  cases op == (20 : Int) with
  | true => exact fin 1 1 true (by decide) (by decide) (by decide) (by decide)
  | false =>
  rw [cond_false]
  cases op == (22 : Int) with
  | true => exact fin 1 1 true (by decide) (by decide) (by decide) (by decide)
  | false =>
  rw [cond_false]
  cases op == (21 : Int) with
  | true => exact fin 2 0 true (by decide) (by decide) (by decide) (by decide)
  | false =>
  rw [cond_false]
  cases op == (23 : Int) with
  | true => exact fin 2 0 true (by decide) (by decide) (by decide) (by decide)
  | false =>
  rw [cond_false]
  cases op == (27 : Int) with
  | true =>
    rw [cond_true, cpos ⟨h0, h1⟩]
    have hF := hf f.toNat (by omega)
    exact fin _ 0 true hF.r.1 (by have := hF.r.2; omega) (by decide) (by decide)
  | false =>
  rw [cond_false]
  cases op == (26 : Int) with
  | true =>
    rw [cond_true, e41_eq]
    by_cases g0 : n ≥ 0
    · rw [cpos g0, Option.bind_some]
      simp only []
      by_cases g1 : n < (l.length : Int)
      · have hF := hf n.toNat (by omega)
        rw [cpos g1, cpos (by omega), cpos (by omega)]
        exact fin _ _ true hF.p.1 hF.p.2 hF.r.1 (by have := hF.r.2; omega)
      · rw [cneg g1]
        exact fin 0 0 false (by decide) (by decide) (by decide) (by decide)
    · rw [cneg g0, Option.bind_some]
      exact fin 0 0 false (by decide) (by decide) (by decide) (by decide)
  | false =>
  rw [cond_false]
  cases op == (28 : Int) with
  | true =>
    obtain ⟨v, hv, v0, v1⟩ := host_tot k n
    rw [cond_true, hv, Option.bind_some]
    simp only []
    by_cases g : v ≥ 0
    · rw [cpos g]; exact fin v 1 true (by omega) (by omega) (by decide) (by decide)
    · rw [cneg g]; exact fin 0 0 false (by decide) (by decide) (by decide) (by decide)
  | false =>
  rw [cond_false]
  by_cases g0 : op ≥ 7
  · rw [cpos g0]
    by_cases g1 : op ≤ 18
    · rw [cpos g1]; exact fin 2 1 true (by decide) (by decide) (by decide) (by decide)
    · rw [cneg g1]; exact fin 0 0 false (by decide) (by decide) (by decide) (by decide)
  · rw [cneg g0]; exact fin 0 0 false (by decide) (by decide) (by decide) (by decide)
/-- functions that take and put the same -/
structure Like (l l' : Fs) : Prop where
  len : l'.length = l.length
  p : ∀ i, (fa l' i).1 = (fa l i).1
  r : ∀ i, (fa l' i).2.1 = (fa l i).2.1
  v : ∀ i, (fa l' i).2.2.1 = (fa l i).2.2.1
theorem eff_like {l l' : Fs} (h : Like l l') (k : Nat) (m m' : Int) (d d' : List Int) (f : Int) (c : Int × Int) : E31 k m' d' l' f c = E31 k m d l f c := by
  show f31 k ((((m', d', l'), ()), (f, ()), ((c.1, c.2), ()), ()), ()) = f31 k ((((m, d, l), ()), (f, ()), ((c.1, c.2), ()), ()), ())
  rw [e31_eq, e31_eq, e41_eq, e41_eq, e41_eq, e41_eq]
  simp only [h.len, h.p, h.r]
def e29_0 (k : Nat) (m : Int) (d : List Int) (l : Fs) (g : ((Int × Unit) × (Unit × Unit) × (Unit × Unit) × (List (Int × Int) × Unit) × (Int × Unit) × (Int × Unit) × Unit) × ((Int × List Int × Fs) × Unit) × (Fn × Unit) × Unit) (L : ((Int × Unit) × (Unit × Unit) × (Unit × Unit) × (List (Int × Int) × Unit) × (Int × Unit) × (Int × Unit) × Unit) × ((Int × List Int × Fs) × Unit) × (Fn × Unit) × Unit → Option (((Int × Unit) × Unit) × Unit)) : Option (((Int × Unit) × Unit) × Unit) := bif decide (g.1.2.2.2.2.2.1.1 < g.1.2.2.2.2.1.1) then bif decide ((0 : Int) ≤ g.1.2.2.2.2.2.1.1 ∧ g.1.2.2.2.2.2.1.1 < (↑g.1.2.2.2.1.1.length : Int)) then bif (ca g.1.2.2.2.1.1 g.1.2.2.2.2.2.1.1.toNat).1 == (5 : Int) then bif decide ((ca g.1.2.2.2.1.1 g.1.2.2.2.2.2.1.1.toNat).2 ≥ (0 : Int)) then bif !decide ((ca g.1.2.2.2.1.1 g.1.2.2.2.2.2.1.1.toNat).2 < IntKind.i64.wrap (g.2.2.1.1.1 + g.2.2.1.1.2.2.1)) then some (((g.1.2.2.2.2.2.1.1, ()), ()), ()) else L (((g.1.1.1, ()), ((), ()), ((), ()), (g.1.2.2.2.1.1, ()), (g.1.2.2.2.2.1.1, ()), (IntKind.i64.wrap (g.1.2.2.2.2.2.1.1 + (1 : Int)), ()), ()), ((g.2.1.1.1, g.2.1.1.2.1, g.2.1.1.2.2), ()), ((g.2.2.1.1.1, g.2.2.1.1.2.1, g.2.2.1.1.2.2.1, g.2.2.1.1.2.2.2), ()), ()) else some (((g.1.2.2.2.2.2.1.1, ()), ()), ()) else bif (ca g.1.2.2.2.1.1 g.1.2.2.2.2.2.1.1.toNat).1 == (6 : Int) then bif decide ((ca g.1.2.2.2.1.1 g.1.2.2.2.2.2.1.1.toNat).2 ≥ (0 : Int)) then bif !decide ((ca g.1.2.2.2.1.1 g.1.2.2.2.2.2.1.1.toNat).2 < IntKind.i64.wrap (g.2.2.1.1.1 + g.2.2.1.1.2.2.1)) then some (((g.1.2.2.2.2.2.1.1, ()), ()), ()) else L (((g.1.1.1, ()), ((), ()), ((), ()), (g.1.2.2.2.1.1, ()), (g.1.2.2.2.2.1.1, ()), (IntKind.i64.wrap (g.1.2.2.2.2.2.1.1 + (1 : Int)), ()), ()), ((g.2.1.1.1, g.2.1.1.2.1, g.2.1.1.2.2), ()), ((g.2.2.1.1.1, g.2.2.1.1.2.1, g.2.2.1.1.2.2.1, g.2.2.1.1.2.2.2), ()), ()) else some (((g.1.2.2.2.2.2.1.1, ()), ()), ()) else bif (ca g.1.2.2.2.1.1 g.1.2.2.2.2.2.1.1.toNat).1 == (24 : Int) then bif decide ((ca g.1.2.2.2.1.1 g.1.2.2.2.2.2.1.1.toNat).2 ≥ (0 : Int)) then bif !decide ((ca g.1.2.2.2.1.1 g.1.2.2.2.2.2.1.1.toNat).2 < (↑g.2.2.1.1.2.2.2.length : Int)) then some (((g.1.2.2.2.2.2.1.1, ()), ()), ()) else L (((g.1.1.1, ()), ((), ()), ((), ()), (g.1.2.2.2.1.1, ()), (g.1.2.2.2.2.1.1, ()), (IntKind.i64.wrap (g.1.2.2.2.2.2.1.1 + (1 : Int)), ()), ()), ((g.2.1.1.1, g.2.1.1.2.1, g.2.1.1.2.2), ()), ((g.2.2.1.1.1, g.2.2.1.1.2.1, g.2.2.1.1.2.2.1, g.2.2.1.1.2.2.2), ()), ()) else some (((g.1.2.2.2.2.2.1.1, ()), ()), ()) else bif (ca g.1.2.2.2.1.1 g.1.2.2.2.2.2.1.1.toNat).1 == (25 : Int) then bif decide ((ca g.1.2.2.2.1.1 g.1.2.2.2.2.2.1.1.toNat).2 ≥ (0 : Int)) then bif !decide ((ca g.1.2.2.2.1.1 g.1.2.2.2.2.2.1.1.toNat).2 < (↑g.2.2.1.1.2.2.2.length : Int)) then some (((g.1.2.2.2.2.2.1.1, ()), ()), ()) else L (((g.1.1.1, ()), ((), ()), ((), ()), (g.1.2.2.2.1.1, ()), (g.1.2.2.2.2.1.1, ()), (IntKind.i64.wrap (g.1.2.2.2.2.2.1.1 + (1 : Int)), ()), ()), ((g.2.1.1.1, g.2.1.1.2.1, g.2.1.1.2.2), ()), ((g.2.2.1.1.1, g.2.2.1.1.2.1, g.2.2.1.1.2.2.1, g.2.2.1.1.2.2.2), ()), ()) else some (((g.1.2.2.2.2.2.1.1, ()), ()), ()) else bif (ca g.1.2.2.2.1.1 g.1.2.2.2.2.2.1.1.toNat).1 == (26 : Int) then (f31 k ((((g.2.1.1.1, g.2.1.1.2.1, g.2.1.1.2.2), ()), (g.1.1.1, ()), (((ca g.1.2.2.2.1.1 g.1.2.2.2.2.2.1.1.toNat).1, (ca g.1.2.2.2.1.1 g.1.2.2.2.2.2.1.1.toNat).2), ()), ()), ())).bind fun v => bif !v.1.2.2.1.1 then some (((g.1.2.2.2.2.2.1.1, ()), ()), ()) else L (((g.1.1.1, ()), ((), ()), ((), ()), (g.1.2.2.2.1.1, ()), (g.1.2.2.2.2.1.1, ()), (IntKind.i64.wrap (g.1.2.2.2.2.2.1.1 + (1 : Int)), ()), ()), ((g.2.1.1.1, g.2.1.1.2.1, g.2.1.1.2.2), ()), ((g.2.2.1.1.1, g.2.2.1.1.2.1, g.2.2.1.1.2.2.1, g.2.2.1.1.2.2.2), ()), ()) else bif (ca g.1.2.2.2.1.1 g.1.2.2.2.2.2.1.1.toNat).1 == (28 : Int) then (f31 k ((((g.2.1.1.1, g.2.1.1.2.1, g.2.1.1.2.2), ()), (g.1.1.1, ()), (((ca g.1.2.2.2.1.1 g.1.2.2.2.2.2.1.1.toNat).1, (ca g.1.2.2.2.1.1 g.1.2.2.2.2.2.1.1.toNat).2), ()), ()), ())).bind fun v => bif !v.1.2.2.1.1 then some (((g.1.2.2.2.2.2.1.1, ()), ()), ()) else L (((g.1.1.1, ()), ((), ()), ((), ()), (g.1.2.2.2.1.1, ()), (g.1.2.2.2.2.1.1, ()), (IntKind.i64.wrap (g.1.2.2.2.2.2.1.1 + (1 : Int)), ()), ()), ((g.2.1.1.1, g.2.1.1.2.1, g.2.1.1.2.2), ()), ((g.2.2.1.1.1, g.2.2.1.1.2.1, g.2.2.1.1.2.2.1, g.2.2.1.1.2.2.2), ()), ()) else L (((g.1.1.1, ()), ((), ()), ((), ()), (g.1.2.2.2.1.1, ()), (g.1.2.2.2.2.1.1, ()), (IntKind.i64.wrap (g.1.2.2.2.2.2.1.1 + (1 : Int)), ()), ()), ((g.2.1.1.1, g.2.1.1.2.1, g.2.1.1.2.2), ()), ((g.2.2.1.1.1, g.2.2.1.1.2.1, g.2.2.1.1.2.2.1, g.2.2.1.1.2.2.2), ()), ()) else none else some ((((-1 : Int), ()), ()), ())
theorem e29_eq (k : Nat) (m : Int) (d : List Int) (l : Fs) (f : Int) : f29 k ((((m, d, l), ()), (f, ()), ()), ()) = bif decide ((0 : Int) ≤ f ∧ f < (↑l.length : Int)) then loopN (e29_0 k m d l) k (((f, ()), ((), ()), ((), ()), ((fa l f.toNat).2.2.2, ()), ((↑(List.length (fa l f.toNat).2.2.2) : Int), ()), ((0 : Int), ()), ()), ((m, d, l), ()), (((fa l f.toNat).1, (fa l f.toNat).2.1, (fa l f.toNat).2.2.1, (fa l f.toNat).2.2.2), ()), ()) else none := by kernel_rfl
structure OkI (k : Nat) (m : Int) (d : List Int) (l : Fs) (f P V n : Int) (c : Int × Int) : Prop where
  g : c.1 = 5 ∨ c.1 = 6 → 0 ≤ c.2 ∧ c.2 < IntKind.i64.wrap (P + V)
  j : c.1 = 24 ∨ c.1 = 25 → 0 ≤ c.2 ∧ c.2 < n
  e : c.1 = 26 ∨ c.1 = 28 → ∃ T Q, E31 k m d l f c = r31 T Q true
abbrev T20 : Type := ((Int × Unit) × (Unit × Unit) × (Unit × Unit) × (List (Int × Int) × Unit) × (Int × Unit) × (Int × Unit) × Unit) × ((Int × List Int × Fs) × Unit) × (Fn × Unit) × Unit
abbrev S20 (m : Int) (d : List Int) (l : Fs) (f : Int) (F : Fn) (c : List (Int × Int)) (N i : Int) : T20 := (((f, ()), ((), ()), ((), ()), (c, ()), (N, ()), (i, ()), ()), ((m, d, l), ()), ((F.1, F.2.1, F.2.2.1, F.2.2.2), ()), ())
abbrev V20 : Type := Option (((Int × Unit) × Unit) × Unit)
theorem static_loop (k0 : Nat) (m m0 : Int) (d d0 : List Int) (l l0 : Fs) (hf : ∀ i, i < l.length → FnOk (fa l i)) (f : Int) (h0 : 0 ≤ f) (h1 : f < (l.length : Int)) (F : Fn) (c : List (Int × Int)) (hc : c.length ≤ 400) (hF : F.2.2.2.length = c.length) : ∀ (e i k : Nat), c.length - i ≤ e → e + 1 ≤ k →
    ∃ r : Int, loopN (e29_0 k0 m0 d0 l0) k (S20 m d l f F c (c.length : Int) (i : Int)) = some (((r, ()), ()), ()) ∧
      ((r = -1 ∧ ∀ p, i ≤ p → p < c.length → OkI k0 m d l f F.1 F.2.2.1 (c.length : Int) (ca c p)) ∨ (0 ≤ r ∧ ∃ p, i ≤ p ∧ p < c.length ∧ ¬ OkI k0 m d l f F.1 F.2.2.1 (c.length : Int) (ca c p))) := by
  intro e
  induction e with
  | zero =>
    intro i k he hk
    obtain ⟨k, rfl⟩ : ∃ k2, k = k2 + 1 := ⟨k - 1, by omega⟩
    rw [loopN_succ, e29_0]
    simp only []
    rw [cneg (by omega)]
    exact ⟨_, rfl, .inl ⟨rfl, fun p p1 p2 => by omega⟩⟩
  | succ e ih =>
    intro i k he hk
    obtain ⟨k, rfl⟩ : ∃ k2, k = k2 + 1 := ⟨k - 1, by omega⟩
    rw [loopN_succ, e29_0]
    simp only []
    by_cases h : (i : Int) < (c.length : Int)
    · rw [cpos h, cpos (p := 0 ≤ (i : Int) ∧ (i : Int) < (c.length : Int)) (by omega), Int.toNat_natCast, wrapId (n := (i : Int) + 1) (by omega) (by omega), hF]
      have go : OkI k0 m d l f F.1 F.2.2.1 (c.length : Int) (ca c i) → ∃ r : Int, loopN (e29_0 k0 m0 d0 l0) k (S20 m d l f F c (c.length : Int) ((i : Int) + 1)) = some (((r, ()), ()), ()) ∧
          ((r = -1 ∧ ∀ p, i ≤ p → p < c.length → OkI k0 m d l f F.1 F.2.2.1 (c.length : Int) (ca c p)) ∨ (0 ≤ r ∧ ∃ p, i ≤ p ∧ p < c.length ∧ ¬ OkI k0 m d l f F.1 F.2.2.1 (c.length : Int) (ca c p))) := fun ok => by
        obtain ⟨r, g1, g2⟩ := ih (i + 1) k (by omega) (by omega)
        refine ⟨r, g1, ?_⟩
        rcases g2 with ⟨a, b⟩ | ⟨a, p, b1, b2, b3⟩
        · refine .inl ⟨a, fun p p1 p2 => ?_⟩
          by_cases hp : p = i
          · rw [hp]; exact ok
          · exact b p (by omega) p2
        · exact .inr ⟨a, p, by omega, b2, b3⟩
      have no : ¬ OkI k0 m d l f F.1 F.2.2.1 (c.length : Int) (ca c i) → ∃ r : Int, (some ((((i : Int), ()), ()), ()) : V20) = some (((r, ()), ()), ()) ∧
          ((r = -1 ∧ ∀ p, i ≤ p → p < c.length → OkI k0 m d l f F.1 F.2.2.1 (c.length : Int) (ca c p)) ∨ (0 ≤ r ∧ ∃ p, i ≤ p ∧ p < c.length ∧ ¬ OkI k0 m d l f F.1 F.2.2.1 (c.length : Int) (ca c p))) := fun bad => ⟨_, rfl, .inr ⟨by omega, i, Nat.le_refl _, by omega, bad⟩⟩
      obtain ⟨T, Q, b, hE, _, _⟩ := eff_tot k0 m d l hf f h0 h1 (ca c i)
      have hE' : f31 k0 ((((m, d, l), ()), (f, ()), (((ca c i).1, (ca c i).2), ()), ()), ()) = r31 T Q b := hE
      simp only [hE', Option.bind_some]
      generalize hx : ca c i = x at *
      obtain ⟨op, n⟩ := x
      simp only []
      by_cases c5 : op = 5
      · rw [bpos c5, cond_true]
        by_cases a : n ≥ 0
        · rw [cpos a]
          by_cases a2 : n < IntKind.i64.wrap (F.1 + F.2.2.1)
          · rw [decide_eq_true a2, Bool.not_true, cond_false]
            exact go ⟨fun _ => ⟨a, a2⟩, fun q => by simp only at q; omega, fun q => by simp only at q; omega⟩
          · rw [decide_eq_false a2, Bool.not_false, cond_true]
            exact no fun q => a2 (q.g (.inl c5)).2
        · rw [cneg a]
          exact no fun q => a (q.g (.inl c5)).1
      rw [bneg c5, cond_false]
      by_cases c6 : op = 6
      · rw [bpos c6, cond_true]
        by_cases a : n ≥ 0
        · rw [cpos a]
          by_cases a2 : n < IntKind.i64.wrap (F.1 + F.2.2.1)
          · rw [decide_eq_true a2, Bool.not_true, cond_false]
            exact go ⟨fun _ => ⟨a, a2⟩, fun q => by simp only at q; omega, fun q => by simp only at q; omega⟩
          · rw [decide_eq_false a2, Bool.not_false, cond_true]
            exact no fun q => a2 (q.g (.inr c6)).2
        · rw [cneg a]
          exact no fun q => a (q.g (.inr c6)).1
      rw [bneg c6, cond_false]
      by_cases c24 : op = 24
      · rw [bpos c24, cond_true]
        by_cases a : n ≥ 0
        · rw [cpos a]
          by_cases a2 : n < (c.length : Int)
          · rw [decide_eq_true a2, Bool.not_true, cond_false]
            exact go ⟨fun q => by simp only at q; omega, fun _ => ⟨a, a2⟩, fun q => by simp only at q; omega⟩
          · rw [decide_eq_false a2, Bool.not_false, cond_true]
            exact no fun q => a2 (q.j (.inl c24)).2
        · rw [cneg a]
          exact no fun q => a (q.j (.inl c24)).1
      rw [bneg c24, cond_false]
      by_cases c25 : op = 25
      · rw [bpos c25, cond_true]
        by_cases a : n ≥ 0
        · rw [cpos a]
          by_cases a2 : n < (c.length : Int)
          · rw [decide_eq_true a2, Bool.not_true, cond_false]
            exact go ⟨fun q => by simp only at q; omega, fun _ => ⟨a, a2⟩, fun q => by simp only at q; omega⟩
          · rw [decide_eq_false a2, Bool.not_false, cond_true]
            exact no fun q => a2 (q.j (.inr c25)).2
        · rw [cneg a]
          exact no fun q => a (q.j (.inr c25)).1
      rw [bneg c25, cond_false]
      have tail : ∀ {cc : Int}, op = cc → (cc = 26 ∨ cc = 28) → ∃ r : Int, (bif !b then (some ((((i : Int), ()), ()), ()) : V20) else loopN (e29_0 k0 m0 d0 l0) k (S20 m d l f F c (c.length : Int) ((i : Int) + 1))) = some (((r, ()), ()), ()) ∧
          ((r = -1 ∧ ∀ p, i ≤ p → p < c.length → OkI k0 m d l f F.1 F.2.2.1 (c.length : Int) (ca c p)) ∨ (0 ≤ r ∧ ∃ p, i ≤ p ∧ p < c.length ∧ ¬ OkI k0 m d l f F.1 F.2.2.1 (c.length : Int) (ca c p))) := fun e1 e2 => by
        cases hb : b with
        | true =>
          rw [hb] at hE
          exact go ⟨fun q => by simp only at q; omega, fun q => by simp only at q; omega, fun _ => ⟨T, Q, hE⟩⟩
        | false =>
          rw [hb] at hE
          refine no fun q => ?_
          obtain ⟨T2, Q2, q3⟩ := q.e (by simp only; omega)
          rw [hE] at q3
          simp [r31] at q3
      by_cases c26 : op = 26
      · rw [bpos c26, cond_true]; exact tail c26 (.inl rfl)
      rw [bneg c26, cond_false]
      by_cases c28 : op = 28
      · rw [bpos c28, cond_true]; exact tail c28 (.inr rfl)
      rw [bneg c28, cond_false]
      exact go ⟨fun q => by simp only at q; omega, fun q => by simp only at q; omega, fun q => by simp only at q; omega⟩
    · rw [cneg h]
      exact ⟨_, rfl, .inl ⟨rfl, fun p p1 p2 => by omega⟩⟩
theorem static_tot (k : Nat) (hk : 1000 ≤ k) (m : Int) (d : List Int) (l : Fs) (hf : ∀ i, i < l.length → FnOk (fa l i)) (f : Int) (h0 : 0 ≤ f) (h1 : f < (l.length : Int)) :
    ∃ r : Int, f29 k ((((m, d, l), ()), (f, ()), ()), ()) = some (((r, ()), ()), ()) ∧
      ((r = -1 ∧ ∀ p, p < (fa l f.toNat).2.2.2.length → OkI k m d l f (fa l f.toNat).1 (fa l f.toNat).2.2.1 ((fa l f.toNat).2.2.2.length : Int) (ca (fa l f.toNat).2.2.2 p)) ∨
       (0 ≤ r ∧ ∃ p, p < (fa l f.toNat).2.2.2.length ∧ ¬ OkI k m d l f (fa l f.toNat).1 (fa l f.toNat).2.2.1 ((fa l f.toNat).2.2.2.length : Int) (ca (fa l f.toNat).2.2.2 p))) := by
  rw [e29_eq, cpos ⟨h0, h1⟩]
  have hF := hf f.toNat (by omega)
  obtain ⟨r, g1, g2⟩ := static_loop k m m d d l l hf f h0 h1 (fa l f.toNat) (fa l f.toNat).2.2.2 hF.n.2 rfl 400 0 k (by have := hF.n.2; omega) (by omega)
  refine ⟨r, g1, ?_⟩
  rcases g2 with ⟨a, b⟩ | ⟨a, p, b1, b2, b3⟩
  · exact .inl ⟨a, fun p hp => b p (Nat.zero_le _) hp⟩
  · exact .inr ⟨a, p, b2, b3⟩
/-- the places behind an instruction -/
theorem next_tot (k : Nat) (i n : Int) (c : Int × Int) (h0 : 0 ≤ i) (h1 : i < n) (hn : n ≤ 400) (hj : c.1 = 24 ∨ c.1 = 25 → 0 ≤ c.2 ∧ c.2 < n) :
    ∃ L : List Int, f40 k (((i, ()), ((c.1, c.2), ()), ()), ()) = some ((((), ()), ()), L, ()) ∧ L.length ≤ 2 ∧ ∀ j, j < L.length → 0 ≤ ia L j ∧ ia L j ≤ n := by
  obtain ⟨op, x⟩ := c
  simp only [] at hj ⊢
  rw [e40_eq, wrapId (by omega) (by omega)]
  have one : ∀ y : Int, 0 ≤ y → y ≤ n → ∀ j, j < [y].length → 0 ≤ ia [y] j ∧ ia [y] j ≤ n := fun y y0 y1 j hj2 => by
    have : j = 0 := by simpa using hj2
    subst this; exact ⟨y0, y1⟩
  by_cases c27 : op = 27
  · rw [bpos c27]; exact ⟨[], rfl, by simp, fun j hj2 => by simp at hj2⟩
  rw [bneg c27, cond_false]
  by_cases c29 : op = 29
  · rw [bpos c29]; exact ⟨[], rfl, by simp, fun j hj2 => by simp at hj2⟩
  rw [bneg c29, cond_false]
  by_cases c24 : op = 24
  · have := hj (.inl c24)
    rw [bpos c24]; exact ⟨[x], rfl, by simp, one x this.1 (by omega)⟩
  rw [bneg c24, cond_false]
  by_cases c25 : op = 25
  · have := hj (.inr c25)
    rw [bpos c25]
    refine ⟨[x, i + 1], rfl, by simp, fun j hj2 => ?_⟩
    have : j = 0 ∨ j = 1 := by simp at hj2; omega
    rcases this with rfl | rfl
    · exact ⟨this.1, by show x ≤ n; omega⟩
    · exact ⟨by show 0 ≤ i + 1; omega, by show i + 1 ≤ n; omega⟩
  rw [bneg c25, cond_false]
  exact ⟨[i + 1], rfl, by simp, one _ (by omega) (by omega)⟩
end
end Go.Proofs.Ytjbdeccohpbegaa.Vm
