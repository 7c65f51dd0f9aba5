import Derived.Test.YtgngbbkaghmnpaaDD
namespace Go.Proofs.Ytgngbbkaghmnpaa.Ck
open Go Go.RowKit Go.Proofs Go.Proofs.Ytgngbbkaghmnpaa.X
set_option linter.unusedVariables false
set_option linter.unusedSimpArgs false
noncomputable section
/-! The check, the heights of all functions, and the law -/
def fx (w : Int) (l : Fs) : Int := (IntKind.i64.wrap (↑(BitVec.ofInt IntKind.i64.bits w &&& BitVec.ofInt IntKind.i64.bits (1023 : Int)).toNat : Int)).tmod (↑l.length : Int)
def e9_0 (k : Nat) (m : Int) (d : List Int) (l : Fs) (g : ((Unit × Unit) × (Unit × Unit) × (Int × Unit) × (Int × Unit) × Unit) × ((Int × List Int × Fs) × Unit) × ((Int × Int × Int) × Unit) × Unit) (L : ((Unit × Unit) × (Unit × Unit) × (Int × Unit) × (Int × Unit) × Unit) × ((Int × List Int × Fs) × Unit) × ((Int × Int × Int) × Unit) × Unit → Option ((((Int × Int × Int) × Unit) × Unit) × Unit)) : Option ((((Int × Int × Int) × Unit) × Unit) × Unit) := bif decide (g.1.2.2.2.1.1 < g.1.2.2.1.1) then (f20 k ((((g.2.1.1.1, g.2.1.1.2.1, g.2.1.1.2.2), ()), (g.1.2.2.2.1.1, ()), ()), ())).bind fun v => bif decide (v.1.1.1 ≥ (0 : Int)) then some ((((g.1.2.2.2.1.1, v.1.1.1, (130 : Int)), ()), ()), ()) else (f21 k ((((g.2.1.1.1, g.2.1.1.2.1, g.2.1.1.2.2), ()), (g.1.2.2.2.1.1, ()), ()), ())).bind fun v => bif !v.1.2.1.1 then some ((((g.1.2.2.2.1.1, (-1 : Int), (130 : Int)), ()), ()), ()) else L ((((), ()), ((), ()), (g.1.2.2.1.1, ()), (IntKind.i64.wrap (g.1.2.2.2.1.1 + (1 : Int)), ()), ()), ((g.2.1.1.1, g.2.1.1.2.1, g.2.1.1.2.2), ()), ((g.2.2.1.1.1, g.2.2.1.1.2.1, g.2.2.1.1.2.2), ()), ()) else some (((((0 : Int), (0 : Int), (0 : Int)), ()), ()), ())
theorem e9_eq (k : Nat) (m : Int) (d : List Int) (l : Fs) : f9 k ((((m, d, l), ()), ()), ()) = (f18 k ((((m, d, l), ()), ()), ())).bind fun v => bif v.1.2.1.1 != (0 : Int) then some (((((-1 : Int), (-1 : Int), (1 : Int)), ()), ()), ()) else bif decide ((0 : Int) ≤ (0 : Int) ∧ (0 : Int) < (↑l.length : Int)) then bif (fa l (Int.toNat (0 : Int))).1 != (3 : Int) then some (((((0 : Int), (-1 : Int), (1 : Int)), ()), ()), ()) else bif decide ((0 : Int) ≤ (0 : Int) ∧ (0 : Int) < (↑l.length : Int)) then bif (fa l (Int.toNat (0 : Int))).2.1 != (0 : Int) then some (((((0 : Int), (-1 : Int), (1 : Int)), ()), ()), ()) else loopN (e9_0 k m d l) k ((((), ()), ((), ()), ((↑l.length : Int), ()), ((0 : Int), ()), ()), ((m, d, l), ()), (((0 : Int), (0 : Int), (0 : Int)), ()), ()) else none else none := by kernel_rfl
theorem e11_eq (k : Nat) (m : Int) (d : List Int) (l : Fs) (f : Int) : f11 k ((((m, d, l), ()), (f, ()), ()), ()) = (f9 k ((((m, d, l), ()), ()), ())).bind fun v => bif !(v.1.1.1.1 == (0 : Int) && (v.1.1.1.2.1 == (0 : Int) && (v.1.1.1.2.2 == (0 : Int) && true))) then some ((((), ()), ()), [], ()) else (f24 k ((((m, d, l), ()), (f, ()), ()), ())).bind fun v_1 => bif !v_1.1.1.1 then some ((((), ()), ()), [], ()) else (f21 k ((((m, d, l), ()), (f, ()), ()), ())).bind fun v => some ((((), ()), ()), v.2.1, ()) := by kernel_rfl
theorem e15_eq (k : Nat) (x : Int) (y : Int) : f15 k (((x, ()), (y, ()), ()), ()) = some ((((x, y), ()), ()), ()) := by kernel_rfl
def e6_0 (g : ((Int × Unit) × (Unit × Unit) × (Unit × Unit) × (Int × Unit) × (Int × Unit) × Unit) × List Int × List Int × Unit) (L : ((Int × Unit) × (Unit × Unit) × (Unit × Unit) × (Int × Unit) × (Int × Unit) × Unit) × List Int × List Int × Unit → Option (((Bool × Unit) × Unit) × Unit)) : Option (((Bool × Unit) × Unit) × Unit) := bif decide (g.1.2.2.2.2.1.1 < g.1.2.2.2.1.1) then bif decide (g.1.2.2.2.2.1.1 < g.1.1.1) then bif decide ((0 : Int) ≤ g.1.2.2.2.2.1.1 ∧ g.1.2.2.2.2.1.1 < (↑g.2.2.1.length : Int)) then bif decide ((0 : Int) ≤ g.1.2.2.2.2.1.1 ∧ g.1.2.2.2.2.1.1 < (↑g.2.1.length : Int)) then bif ia g.2.2.1 g.1.2.2.2.2.1.1.toNat != ia g.2.1 g.1.2.2.2.2.1.1.toNat then some (((false, ()), ()), ()) else bif decide (g.1.2.2.2.2.1.1 ≥ g.1.1.1) then bif decide ((0 : Int) ≤ g.1.2.2.2.2.1.1 ∧ g.1.2.2.2.2.1.1 < (↑g.2.2.1.length : Int)) then bif ia g.2.2.1 g.1.2.2.2.2.1.1.toNat != (-1 : Int) then some (((false, ()), ()), ()) else L (((g.1.1.1, ()), ((), ()), ((), ()), (g.1.2.2.2.1.1, ()), (IntKind.i64.wrap (g.1.2.2.2.2.1.1 + (1 : Int)), ()), ()), g.2.1, g.2.2.1, ()) else none else L (((g.1.1.1, ()), ((), ()), ((), ()), (g.1.2.2.2.1.1, ()), (IntKind.i64.wrap (g.1.2.2.2.2.1.1 + (1 : Int)), ()), ()), g.2.1, g.2.2.1, ()) else none else none else bif decide (g.1.2.2.2.2.1.1 ≥ g.1.1.1) then bif decide ((0 : Int) ≤ g.1.2.2.2.2.1.1 ∧ g.1.2.2.2.2.1.1 < (↑g.2.2.1.length : Int)) then bif ia g.2.2.1 g.1.2.2.2.2.1.1.toNat != (-1 : Int) then some (((false, ()), ()), ()) else L (((g.1.1.1, ()), ((), ()), ((), ()), (g.1.2.2.2.1.1, ()), (IntKind.i64.wrap (g.1.2.2.2.2.1.1 + (1 : Int)), ()), ()), g.2.1, g.2.2.1, ()) else none else L (((g.1.1.1, ()), ((), ()), ((), ()), (g.1.2.2.2.1.1, ()), (IntKind.i64.wrap (g.1.2.2.2.2.1.1 + (1 : Int)), ()), ()), g.2.1, g.2.2.1, ()) else some (((true, ()), ()), ())
def e6_1 (k : Nat) (m : Int) (d : List Int) (l : Fs) (mo : List (Int × Int)) (w : Int) (g : ((List (Int × Int) × Unit) × (Unit × Unit) × (Int × Unit) × (Int × Unit) × (Unit × Unit) × (Unit × Unit) × (Unit × Unit) × (List (Int × Int) × Unit) × (Int × Unit) × (Int × Unit) × Unit) × ((Int × List Int × Fs) × Unit) × Fs × List (Int × Int) × List Int × Unit) (L : ((List (Int × Int) × Unit) × (Unit × Unit) × (Int × Unit) × (Int × Unit) × (Unit × Unit) × (Unit × Unit) × (Unit × Unit) × (List (Int × Int) × Unit) × (Int × Unit) × (Int × Unit) × Unit) × ((Int × List Int × Fs) × Unit) × Fs × List (Int × Int) × List Int × Unit → Option (((Bool × Unit) × Unit) × Unit)) : Option (((Bool × Unit) × Unit) × Unit) := bif decide (g.1.2.2.2.2.2.2.2.2.2.1.1 < g.1.2.2.2.2.2.2.2.2.1.1) then bif decide ((0 : Int) ≤ g.1.2.2.2.2.2.2.2.2.2.1.1 ∧ g.1.2.2.2.2.2.2.2.2.2.1.1 < (↑g.1.2.2.2.2.2.2.2.1.1.length : Int)) then bif (ca g.1.2.2.2.2.2.2.2.1.1 g.1.2.2.2.2.2.2.2.2.2.1.1.toNat).1 == (24 : Int) then (f15 k ((((7 : Int), ()), ((0 : Int), ()), ()), ())).bind fun v => (f17 k (((v.1.1.1.1, ()), ()), ())).bind fun v_1 => bif !v_1.1.1.1 then bif ((g.2.2.2.1.length + [(v.1.1.1.1, (0 : Int))].length) * (16 : Nat)).ble (140737488355328 : Nat) then L (((g.1.1.1, ()), ((), ()), (g.1.2.2.1.1, ()), (g.1.2.2.2.1.1, ()), ((), ()), ((), ()), ((), ()), (g.1.2.2.2.2.2.2.2.1.1, ()), (g.1.2.2.2.2.2.2.2.2.1.1, ()), (IntKind.i64.wrap (g.1.2.2.2.2.2.2.2.2.2.1.1 + (1 : Int)), ()), ()), ((g.2.1.1.1, g.2.1.1.2.1, g.2.1.1.2.2), ()), g.2.2.1, g.2.2.2.1 ++ [(v.1.1.1.1, (0 : Int))], g.2.2.2.2.1, ()) else none else bif ((g.2.2.2.1.length + [(v.1.1.1.1, v.1.1.1.2)].length) * (16 : Nat)).ble (140737488355328 : Nat) then L (((g.1.1.1, ()), ((), ()), (g.1.2.2.1.1, ()), (g.1.2.2.2.1.1, ()), ((), ()), ((), ()), ((), ()), (g.1.2.2.2.2.2.2.2.1.1, ()), (g.1.2.2.2.2.2.2.2.2.1.1, ()), (IntKind.i64.wrap (g.1.2.2.2.2.2.2.2.2.2.1.1 + (1 : Int)), ()), ()), ((g.2.1.1.1, g.2.1.1.2.1, g.2.1.1.2.2), ()), g.2.2.1, g.2.2.2.1 ++ [(v.1.1.1.1, v.1.1.1.2)], g.2.2.2.2.1, ()) else none else bif (ca g.1.2.2.2.2.2.2.2.1.1 g.1.2.2.2.2.2.2.2.2.2.1.1.toNat).1 == (25 : Int) then (f15 k ((((7 : Int), ()), ((0 : Int), ()), ()), ())).bind fun v => (f17 k (((v.1.1.1.1, ()), ()), ())).bind fun v_1 => bif !v_1.1.1.1 then bif ((g.2.2.2.1.length + [(v.1.1.1.1, (0 : Int))].length) * (16 : Nat)).ble (140737488355328 : Nat) then L (((g.1.1.1, ()), ((), ()), (g.1.2.2.1.1, ()), (g.1.2.2.2.1.1, ()), ((), ()), ((), ()), ((), ()), (g.1.2.2.2.2.2.2.2.1.1, ()), (g.1.2.2.2.2.2.2.2.2.1.1, ()), (IntKind.i64.wrap (g.1.2.2.2.2.2.2.2.2.2.1.1 + (1 : Int)), ()), ()), ((g.2.1.1.1, g.2.1.1.2.1, g.2.1.1.2.2), ()), g.2.2.1, g.2.2.2.1 ++ [(v.1.1.1.1, (0 : Int))], g.2.2.2.2.1, ()) else none else bif ((g.2.2.2.1.length + [(v.1.1.1.1, v.1.1.1.2)].length) * (16 : Nat)).ble (140737488355328 : Nat) then L (((g.1.1.1, ()), ((), ()), (g.1.2.2.1.1, ()), (g.1.2.2.2.1.1, ()), ((), ()), ((), ()), ((), ()), (g.1.2.2.2.2.2.2.2.1.1, ()), (g.1.2.2.2.2.2.2.2.2.1.1, ()), (IntKind.i64.wrap (g.1.2.2.2.2.2.2.2.2.2.1.1 + (1 : Int)), ()), ()), ((g.2.1.1.1, g.2.1.1.2.1, g.2.1.1.2.2), ()), g.2.2.1, g.2.2.2.1 ++ [(v.1.1.1.1, v.1.1.1.2)], g.2.2.2.2.1, ()) else none else bif (ca g.1.2.2.2.2.2.2.2.1.1 g.1.2.2.2.2.2.2.2.2.2.1.1.toNat).1 == (5 : Int) then (f15 k ((((7 : Int), ()), ((0 : Int), ()), ()), ())).bind fun v => (f17 k (((v.1.1.1.1, ()), ()), ())).bind fun v_1 => bif !v_1.1.1.1 then bif ((g.2.2.2.1.length + [(v.1.1.1.1, (0 : Int))].length) * (16 : Nat)).ble (140737488355328 : Nat) then L (((g.1.1.1, ()), ((), ()), (g.1.2.2.1.1, ()), (g.1.2.2.2.1.1, ()), ((), ()), ((), ()), ((), ()), (g.1.2.2.2.2.2.2.2.1.1, ()), (g.1.2.2.2.2.2.2.2.2.1.1, ()), (IntKind.i64.wrap (g.1.2.2.2.2.2.2.2.2.2.1.1 + (1 : Int)), ()), ()), ((g.2.1.1.1, g.2.1.1.2.1, g.2.1.1.2.2), ()), g.2.2.1, g.2.2.2.1 ++ [(v.1.1.1.1, (0 : Int))], g.2.2.2.2.1, ()) else none else bif ((g.2.2.2.1.length + [(v.1.1.1.1, v.1.1.1.2)].length) * (16 : Nat)).ble (140737488355328 : Nat) then L (((g.1.1.1, ()), ((), ()), (g.1.2.2.1.1, ()), (g.1.2.2.2.1.1, ()), ((), ()), ((), ()), ((), ()), (g.1.2.2.2.2.2.2.2.1.1, ()), (g.1.2.2.2.2.2.2.2.2.1.1, ()), (IntKind.i64.wrap (g.1.2.2.2.2.2.2.2.2.2.1.1 + (1 : Int)), ()), ()), ((g.2.1.1.1, g.2.1.1.2.1, g.2.1.1.2.2), ()), g.2.2.1, g.2.2.2.1 ++ [(v.1.1.1.1, v.1.1.1.2)], g.2.2.2.2.1, ()) else none else bif (ca g.1.2.2.2.2.2.2.2.1.1 g.1.2.2.2.2.2.2.2.2.2.1.1.toNat).1 == (6 : Int) then (f15 k ((((7 : Int), ()), ((0 : Int), ()), ()), ())).bind fun v => (f17 k (((v.1.1.1.1, ()), ()), ())).bind fun v_1 => bif !v_1.1.1.1 then bif ((g.2.2.2.1.length + [(v.1.1.1.1, (0 : Int))].length) * (16 : Nat)).ble (140737488355328 : Nat) then L (((g.1.1.1, ()), ((), ()), (g.1.2.2.1.1, ()), (g.1.2.2.2.1.1, ()), ((), ()), ((), ()), ((), ()), (g.1.2.2.2.2.2.2.2.1.1, ()), (g.1.2.2.2.2.2.2.2.2.1.1, ()), (IntKind.i64.wrap (g.1.2.2.2.2.2.2.2.2.2.1.1 + (1 : Int)), ()), ()), ((g.2.1.1.1, g.2.1.1.2.1, g.2.1.1.2.2), ()), g.2.2.1, g.2.2.2.1 ++ [(v.1.1.1.1, (0 : Int))], g.2.2.2.2.1, ()) else none else bif ((g.2.2.2.1.length + [(v.1.1.1.1, v.1.1.1.2)].length) * (16 : Nat)).ble (140737488355328 : Nat) then L (((g.1.1.1, ()), ((), ()), (g.1.2.2.1.1, ()), (g.1.2.2.2.1.1, ()), ((), ()), ((), ()), ((), ()), (g.1.2.2.2.2.2.2.2.1.1, ()), (g.1.2.2.2.2.2.2.2.2.1.1, ()), (IntKind.i64.wrap (g.1.2.2.2.2.2.2.2.2.2.1.1 + (1 : Int)), ()), ()), ((g.2.1.1.1, g.2.1.1.2.1, g.2.1.1.2.2), ()), g.2.2.1, g.2.2.2.1 ++ [(v.1.1.1.1, v.1.1.1.2)], g.2.2.2.2.1, ()) else none else bif (ca g.1.2.2.2.2.2.2.2.1.1 g.1.2.2.2.2.2.2.2.2.2.1.1.toNat).1 == (26 : Int) then (f15 k ((((7 : Int), ()), ((0 : Int), ()), ()), ())).bind fun v => (f17 k (((v.1.1.1.1, ()), ()), ())).bind fun v_1 => bif !v_1.1.1.1 then bif ((g.2.2.2.1.length + [(v.1.1.1.1, (0 : Int))].length) * (16 : Nat)).ble (140737488355328 : Nat) then L (((g.1.1.1, ()), ((), ()), (g.1.2.2.1.1, ()), (g.1.2.2.2.1.1, ()), ((), ()), ((), ()), ((), ()), (g.1.2.2.2.2.2.2.2.1.1, ()), (g.1.2.2.2.2.2.2.2.2.1.1, ()), (IntKind.i64.wrap (g.1.2.2.2.2.2.2.2.2.2.1.1 + (1 : Int)), ()), ()), ((g.2.1.1.1, g.2.1.1.2.1, g.2.1.1.2.2), ()), g.2.2.1, g.2.2.2.1 ++ [(v.1.1.1.1, (0 : Int))], g.2.2.2.2.1, ()) else none else bif ((g.2.2.2.1.length + [(v.1.1.1.1, v.1.1.1.2)].length) * (16 : Nat)).ble (140737488355328 : Nat) then L (((g.1.1.1, ()), ((), ()), (g.1.2.2.1.1, ()), (g.1.2.2.2.1.1, ()), ((), ()), ((), ()), ((), ()), (g.1.2.2.2.2.2.2.2.1.1, ()), (g.1.2.2.2.2.2.2.2.2.1.1, ()), (IntKind.i64.wrap (g.1.2.2.2.2.2.2.2.2.2.1.1 + (1 : Int)), ()), ()), ((g.2.1.1.1, g.2.1.1.2.1, g.2.1.1.2.2), ()), g.2.2.1, g.2.2.2.1 ++ [(v.1.1.1.1, v.1.1.1.2)], g.2.2.2.2.1, ()) else none else bif (ca g.1.2.2.2.2.2.2.2.1.1 g.1.2.2.2.2.2.2.2.2.2.1.1.toNat).1 == (28 : Int) then (f15 k ((((7 : Int), ()), ((0 : Int), ()), ()), ())).bind fun v => (f17 k (((v.1.1.1.1, ()), ()), ())).bind fun v_1 => bif !v_1.1.1.1 then bif ((g.2.2.2.1.length + [(v.1.1.1.1, (0 : Int))].length) * (16 : Nat)).ble (140737488355328 : Nat) then L (((g.1.1.1, ()), ((), ()), (g.1.2.2.1.1, ()), (g.1.2.2.2.1.1, ()), ((), ()), ((), ()), ((), ()), (g.1.2.2.2.2.2.2.2.1.1, ()), (g.1.2.2.2.2.2.2.2.2.1.1, ()), (IntKind.i64.wrap (g.1.2.2.2.2.2.2.2.2.2.1.1 + (1 : Int)), ()), ()), ((g.2.1.1.1, g.2.1.1.2.1, g.2.1.1.2.2), ()), g.2.2.1, g.2.2.2.1 ++ [(v.1.1.1.1, (0 : Int))], g.2.2.2.2.1, ()) else none else bif ((g.2.2.2.1.length + [(v.1.1.1.1, v.1.1.1.2)].length) * (16 : Nat)).ble (140737488355328 : Nat) then L (((g.1.1.1, ()), ((), ()), (g.1.2.2.1.1, ()), (g.1.2.2.2.1.1, ()), ((), ()), ((), ()), ((), ()), (g.1.2.2.2.2.2.2.2.1.1, ()), (g.1.2.2.2.2.2.2.2.2.1.1, ()), (IntKind.i64.wrap (g.1.2.2.2.2.2.2.2.2.2.1.1 + (1 : Int)), ()), ()), ((g.2.1.1.1, g.2.1.1.2.1, g.2.1.1.2.2), ()), g.2.2.1, g.2.2.2.1 ++ [(v.1.1.1.1, v.1.1.1.2)], g.2.2.2.2.1, ()) else none else bif decide ((ca g.1.2.2.2.2.2.2.2.1.1 g.1.2.2.2.2.2.2.2.2.2.1.1.toNat).1 < (0 : Int)) then (f15 k ((((7 : Int), ()), ((0 : Int), ()), ()), ())).bind fun v => (f17 k (((v.1.1.1.1, ()), ()), ())).bind fun v_1 => bif !v_1.1.1.1 then bif ((g.2.2.2.1.length + [(v.1.1.1.1, (0 : Int))].length) * (16 : Nat)).ble (140737488355328 : Nat) then L (((g.1.1.1, ()), ((), ()), (g.1.2.2.1.1, ()), (g.1.2.2.2.1.1, ()), ((), ()), ((), ()), ((), ()), (g.1.2.2.2.2.2.2.2.1.1, ()), (g.1.2.2.2.2.2.2.2.2.1.1, ()), (IntKind.i64.wrap (g.1.2.2.2.2.2.2.2.2.2.1.1 + (1 : Int)), ()), ()), ((g.2.1.1.1, g.2.1.1.2.1, g.2.1.1.2.2), ()), g.2.2.1, g.2.2.2.1 ++ [(v.1.1.1.1, (0 : Int))], g.2.2.2.2.1, ()) else none else bif ((g.2.2.2.1.length + [(v.1.1.1.1, v.1.1.1.2)].length) * (16 : Nat)).ble (140737488355328 : Nat) then L (((g.1.1.1, ()), ((), ()), (g.1.2.2.1.1, ()), (g.1.2.2.2.1.1, ()), ((), ()), ((), ()), ((), ()), (g.1.2.2.2.2.2.2.2.1.1, ()), (g.1.2.2.2.2.2.2.2.2.1.1, ()), (IntKind.i64.wrap (g.1.2.2.2.2.2.2.2.2.2.1.1 + (1 : Int)), ()), ()), ((g.2.1.1.1, g.2.1.1.2.1, g.2.1.1.2.2), ()), g.2.2.1, g.2.2.2.1 ++ [(v.1.1.1.1, v.1.1.1.2)], g.2.2.2.2.1, ()) else none else bif decide ((ca g.1.2.2.2.2.2.2.2.1.1 g.1.2.2.2.2.2.2.2.2.2.1.1.toNat).1 > (29 : Int)) then (f15 k ((((7 : Int), ()), ((0 : Int), ()), ()), ())).bind fun v => (f17 k (((v.1.1.1.1, ()), ()), ())).bind fun v_1 => bif !v_1.1.1.1 then bif ((g.2.2.2.1.length + [(v.1.1.1.1, (0 : Int))].length) * (16 : Nat)).ble (140737488355328 : Nat) then L (((g.1.1.1, ()), ((), ()), (g.1.2.2.1.1, ()), (g.1.2.2.2.1.1, ()), ((), ()), ((), ()), ((), ()), (g.1.2.2.2.2.2.2.2.1.1, ()), (g.1.2.2.2.2.2.2.2.2.1.1, ()), (IntKind.i64.wrap (g.1.2.2.2.2.2.2.2.2.2.1.1 + (1 : Int)), ()), ()), ((g.2.1.1.1, g.2.1.1.2.1, g.2.1.1.2.2), ()), g.2.2.1, g.2.2.2.1 ++ [(v.1.1.1.1, (0 : Int))], g.2.2.2.2.1, ()) else none else bif ((g.2.2.2.1.length + [(v.1.1.1.1, v.1.1.1.2)].length) * (16 : Nat)).ble (140737488355328 : Nat) then L (((g.1.1.1, ()), ((), ()), (g.1.2.2.1.1, ()), (g.1.2.2.2.1.1, ()), ((), ()), ((), ()), ((), ()), (g.1.2.2.2.2.2.2.2.1.1, ()), (g.1.2.2.2.2.2.2.2.2.1.1, ()), (IntKind.i64.wrap (g.1.2.2.2.2.2.2.2.2.2.1.1 + (1 : Int)), ()), ()), ((g.2.1.1.1, g.2.1.1.2.1, g.2.1.1.2.2), ()), g.2.2.1, g.2.2.2.1 ++ [(v.1.1.1.1, v.1.1.1.2)], g.2.2.2.2.1, ()) else none else (f17 k ((((ca g.1.2.2.2.2.2.2.2.1.1 g.1.2.2.2.2.2.2.2.2.2.1.1.toNat).1, ()), ()), ())).bind fun v => bif !v.1.1.1 then bif ((g.2.2.2.1.length + [((ca g.1.2.2.2.2.2.2.2.1.1 g.1.2.2.2.2.2.2.2.2.2.1.1.toNat).1, (0 : Int))].length) * (16 : Nat)).ble (140737488355328 : Nat) then L (((g.1.1.1, ()), ((), ()), (g.1.2.2.1.1, ()), (g.1.2.2.2.1.1, ()), ((), ()), ((), ()), ((), ()), (g.1.2.2.2.2.2.2.2.1.1, ()), (g.1.2.2.2.2.2.2.2.2.1.1, ()), (IntKind.i64.wrap (g.1.2.2.2.2.2.2.2.2.2.1.1 + (1 : Int)), ()), ()), ((g.2.1.1.1, g.2.1.1.2.1, g.2.1.1.2.2), ()), g.2.2.1, g.2.2.2.1 ++ [((ca g.1.2.2.2.2.2.2.2.1.1 g.1.2.2.2.2.2.2.2.2.2.1.1.toNat).1, (0 : Int))], g.2.2.2.2.1, ()) else none else bif ((g.2.2.2.1.length + [((ca g.1.2.2.2.2.2.2.2.1.1 g.1.2.2.2.2.2.2.2.2.2.1.1.toNat).1, (ca g.1.2.2.2.2.2.2.2.1.1 g.1.2.2.2.2.2.2.2.2.2.1.1.toNat).2)].length) * (16 : Nat)).ble (140737488355328 : Nat) then L (((g.1.1.1, ()), ((), ()), (g.1.2.2.1.1, ()), (g.1.2.2.2.1.1, ()), ((), ()), ((), ()), ((), ()), (g.1.2.2.2.2.2.2.2.1.1, ()), (g.1.2.2.2.2.2.2.2.2.1.1, ()), (IntKind.i64.wrap (g.1.2.2.2.2.2.2.2.2.2.1.1 + (1 : Int)), ()), ()), ((g.2.1.1.1, g.2.1.1.2.1, g.2.1.1.2.2), ()), g.2.2.1, g.2.2.2.1 ++ [((ca g.1.2.2.2.2.2.2.2.1.1 g.1.2.2.2.2.2.2.2.2.2.1.1.toNat).1, (ca g.1.2.2.2.2.2.2.2.1.1 g.1.2.2.2.2.2.2.2.2.2.1.1.toNat).2)], g.2.2.2.2.1, ()) else none else none else bif decide ((0 : Int) ≤ g.1.2.2.1.1 ∧ g.1.2.2.1.1 < (↑g.2.2.1.length : Int)) then (f18 k ((((g.2.1.1.1, g.2.1.1.2.1, g.2.2.1.set g.1.2.2.1.1.toNat ((fa g.2.2.1 g.1.2.2.1.1.toNat).1, (fa g.2.2.1 g.1.2.2.1.1.toNat).2.1, (fa g.2.2.1 g.1.2.2.1.1.toNat).2.2.1, g.2.2.2.1)), ()), ()), ())).bind fun v => bif v.1.2.1.1 != (0 : Int) then some (((true, ()), ()), ()) else (f11 k ((((g.2.1.1.1, g.2.1.1.2.1, g.2.2.1.set g.1.2.2.1.1.toNat ((fa g.2.2.1 g.1.2.2.1.1.toNat).1, (fa g.2.2.1 g.1.2.2.1.1.toNat).2.1, (fa g.2.2.1 g.1.2.2.1.1.toNat).2.2.1, g.2.2.2.1)), ()), (g.1.2.2.1.1, ()), ()), ())).bind fun v_1 => (f9 k ((((g.2.1.1.1, g.2.1.1.2.1, g.2.2.1.set g.1.2.2.1.1.toNat ((fa g.2.2.1 g.1.2.2.1.1.toNat).1, (fa g.2.2.1 g.1.2.2.1.1.toNat).2.1, (fa g.2.2.1 g.1.2.2.1.1.toNat).2.2.1, g.2.2.2.1)), ()), ()), ())).bind fun v => bif !(v.1.1.1.1 == (0 : Int) && (v.1.1.1.2.1 == (0 : Int) && (v.1.1.1.2.2 == (0 : Int) && true))) then some (((false, ()), ()), ()) else bif (↑(List.length v_1.2.1) : Int) != IntKind.i64.wrap (g.1.2.2.2.1.1 + (↑g.1.1.1.length : Int)) then some (((false, ()), ()), ()) else loopN e6_0 k (((g.1.2.2.2.1.1, ()), ((), ()), ((), ()), ((↑(List.length v_1.2.1) : Int), ()), ((0 : Int), ()), ()), g.2.2.2.2.1, v_1.2.1, ()) else none
theorem e6_eq (k : Nat) (m : Int) (d : List Int) (l : Fs) (mo : List (Int × Int)) (w : Int) : f6 k ((((m, d, l), ()), (mo, ()), (w, ()), ()), ()) = (f8 k ((), ())).bind fun v => bif !v.1.1.1 then some (((false, ()), ()), ()) else (f9 k ((((m, d, l), ()), ()), ())).bind fun v_1 => bif !(v_1.1.1.1.1 == (0 : Int) && (v_1.1.1.1.2.1 == (0 : Int) && (v_1.1.1.1.2.2 == (0 : Int) && true))) then some (((true, ()), ()), ()) else bif decide ((↑l.length : Int) ≠ (0 : Int)) then bif decide (((0 : Int) ≤ (fx w l)) ∧ (fx w l) < (↑l.length : Int)) then bif decide (IntKind.i64.wrap ((↑(List.length (fa l (fx w l).toNat).2.2.2) : Int) + (↑mo.length : Int)) > (300 : Int)) then some (((true, ()), ()), ()) else (f11 k ((((m, d, l), ()), (fx w l, ()), ()), ())).bind fun v => bif ((([] : Fs).length + l.length) * (48 : Nat)).ble (140737488355328 : Nat) then bif decide (((0 : Int) ≤ (fx w l)) ∧ (fx w l) < (↑(([] : Fs) ++ l).length : Int)) then bif ((([] : List (Int × Int)).length + List.length (fa (([] : Fs) ++ l) (fx w l).toNat).2.2.2) * (16 : Nat)).ble (140737488355328 : Nat) then loopN (e6_1 k m d l mo w) k (((mo, ()), ((), ()), (fx w l, ()), ((↑(List.length (fa l (fx w l).toNat).2.2.2) : Int), ()), ((), ()), ((), ()), ((), ()), (mo, ()), ((↑mo.length : Int), ()), ((0 : Int), ()), ()), ((m, d, l), ()), ([] : Fs) ++ l, ([] : List (Int × Int)) ++ (fa (([] : Fs) ++ l) (fx w l).toNat).2.2.2, v.2.1, ()) else none else none else none else none else none := by kernel_rfl
abbrev T9 : Type := ((Unit × Unit) × (Unit × Unit) × (Int × Unit) × (Int × Unit) × Unit) × ((Int × List Int × Fs) × Unit) × ((Int × Int × Int) × Unit) × Unit
abbrev V9 : Type := Option ((((Int × Int × Int) × Unit) × Unit) × Unit)
abbrev S9 (m : Int) (d : List Int) (l : Fs) (i : Int) : T9 := ((((), ()), ((), ()), ((l.length : Int), ()), (i, ()), ()), ((m, d, l), ()), (((0 : Int), (0 : Int), (0 : Int)), ()), ())
abbrev r9 (a b c : Int) : V9 := some ((((a, b, c), ()), ()), ())
/-- a function without a flaw -/
def FOk (k : Nat) (m : Int) (d : List Int) (l : Fs) (f : Int) : Prop :=
  (∀ p, p < (fa l f.toNat).2.2.2.length → OkI k m d l f (fa l f.toNat).1 (fa l f.toNat).2.2.1 ((fa l f.toNat).2.2.2.length : Int) (ca (fa l f.toNat).2.2.2 p)) ∧ ∃ r, f21 k ((((m, d, l), ()), (f, ()), ()), ()) = R21 true r
theorem like_refl (l : Fs) : Like l l := ⟨rfl, fun _ => rfl, fun _ => rfl, fun _ => rfl⟩
theorem pre_of {k : Nat} {m m' : Int} {d d' : List Int} {l l' : Fs} (hL : Like l l') (hf : ∀ i, i < l.length → FnOk (fa l i)) {f : Int} (h0 : 0 ≤ f) (h1 : f < (l.length : Int)) {c' : List (Int × Int)} {e : Nat}
    (hc' : c'.length = (fa l f.toNat).2.2.2.length + e) (hs : ∀ i, i < (fa l f.toNat).2.2.2.length → ca c' i = ca (fa l f.toNat).2.2.2 i)
    (hok : ∀ p, p < (fa l f.toNat).2.2.2.length → OkI k m d l f (fa l f.toNat).1 (fa l f.toNat).2.2.1 ((fa l f.toNat).2.2.2.length : Int) (ca (fa l f.toNat).2.2.2 p)) :
    Pre k m m' d d' l l' f (fa l f.toNat).2.2.2 c' (fa l f.toNat).2.2.2.length e := by
  refine ⟨(hf f.toNat (by omega)).n, rfl, hc', hs, fun i hi => ?_, fun i hi => (hok i hi).j⟩
  obtain ⟨T, P, b, g1, g2, g3⟩ := eff_tot k m d l hf f h0 h1 (ca (fa l f.toNat).2.2.2 i)
  exact ⟨T, P, b, g1, (eff_like hL k m m' d d' f _).trans g1, g2, g3⟩
theorem heights_tot {k : Nat} (hk : 2000 ≤ k) {m : Int} {d : List Int} {l : Fs} (hf : ∀ i, i < l.length → FnOk (fa l i)) {f : Int} (h0 : 0 ≤ f) (h1 : f < (l.length : Int))
    (hok : ∀ p, p < (fa l f.toNat).2.2.2.length → OkI k m d l f (fa l f.toNat).1 (fa l f.toNat).2.2.1 ((fa l f.toNat).2.2.2.length : Int) (ca (fa l f.toNat).2.2.2 p)) :
    ∃ b r, f21 k ((((m, d, l), ()), (f, ()), ()), ()) = R21 b r ∧ (b = true → r.length = (fa l f.toNat).2.2.2.length) := by
  obtain ⟨b, r, g1, g2⟩ := heights_two hk h0 h1 h1 (m' := m) (d' := d) (l' := l) (e := 0) (by omega) rfl rfl (pre_of (like_refl l) hf h0 h1 rfl (fun _ _ => rfl) hok)
  exact ⟨b, r, g1, fun h => (g2 h).1⟩
theorem check_loop (k0 : Nat) (hk0 : 2000 ≤ k0) (m m0 : Int) (d d0 : List Int) (l l0 : Fs) (hl : l.length ≤ 16) (hf : ∀ i, i < l.length → FnOk (fa l i)) : ∀ (e i k : Nat), l.length - i ≤ e → e + 1 ≤ k →
    ∃ a b c, loopN (e9_0 k0 m0 d0 l0) k (S9 m d l i) = r9 a b c ∧ (c = 0 → a = 0 ∧ b = 0 ∧ ∀ g : Nat, i ≤ g → g < l.length → FOk k0 m d l g) ∧ ((∀ g : Nat, i ≤ g → g < l.length → FOk k0 m d l g) → c = 0) := by
  intro e
  induction e with
  | zero =>
    intro i k he hk
    obtain ⟨k, rfl⟩ : ∃ k2, k = k2 + 1 := ⟨k - 1, by omega⟩
    rw [loopN_succ, e9_0]
    simp only []
    rw [cneg (by omega)]
    exact ⟨0, 0, 0, rfl, fun _ => ⟨rfl, rfl, fun g h1 h2 => by omega⟩, fun _ => rfl⟩
  | succ e ih =>
    intro i k he hk
    obtain ⟨k, rfl⟩ : ∃ k2, k = k2 + 1 := ⟨k - 1, by omega⟩
    rw [loopN_succ, e9_0]
    simp only []
    by_cases h : (i : Int) < (l.length : Int)
    · rw [cpos h]
      obtain ⟨r, s1, s2⟩ := static_tot k0 (by omega) m d l hf i (by omega) h
      rw [s1, Option.bind_some]
      simp only []
      rcases s2 with ⟨rfl, ok⟩ | ⟨hr, p, p1, p2⟩
      · rw [cneg (by decide)]
        obtain ⟨b, hs, t1, t2⟩ := heights_tot hk0 hf (by omega) h ok
        rw [t1, Option.bind_some]
        simp only []
        cases b with
        | false =>
          refine ⟨i, -1, 130, rfl, fun h => by omega, fun hall => ?_⟩
          obtain ⟨_, r, hr⟩ := hall i (Nat.le_refl _) (by omega)
          rw [t1] at hr
          simp [R21] at hr
        | true =>
          simp only [Bool.not_true, cond_false]
          rw [wrapId (n := (i : Int) + 1) (by omega) (by omega)]
          obtain ⟨a, b, c, g1, g2, g3⟩ := ih (i + 1) k (by omega) (by omega)
          rw [show ((i + 1 : Nat) : Int) = (i : Int) + 1 by omega] at g1
          refine ⟨a, b, c, g1, fun h0 => ?_, fun hall => g3 fun g h1 h2 => hall g (by omega) h2⟩
          obtain ⟨u1, u2, u3⟩ := g2 h0
          refine ⟨u1, u2, fun g h1 h2 => ?_⟩
          by_cases hg : g = i
          · subst hg; exact ⟨ok, hs, t1⟩
          · exact u3 g (by omega) h2
      · rw [cpos hr]
        refine ⟨i, r, 130, rfl, fun h => by omega, fun hall => absurd ((hall i (Nat.le_refl _) (by omega)).1 p p1) p2⟩
    · rw [cneg h]
      exact ⟨0, 0, 0, rfl, fun _ => ⟨rfl, rfl, fun g h1 h2 => by omega⟩, fun _ => rfl⟩
structure Good (k : Nat) (m : Int) (d : List Int) (l : Fs) : Prop where
  ok : MOk m d l
  p : (fa l 0).1 = 3
  r : (fa l 0).2.1 = 0
  f : ∀ g : Nat, g < l.length → FOk k m d l g
theorem check_tot (k : Nat) (hk : 2000 ≤ k) (m : Int) (d : List Int) (l : Fs) :
    ∃ a b c, f9 k ((((m, d, l), ()), ()), ()) = r9 a b c ∧ (c = 0 → a = 0 ∧ b = 0 ∧ Good k m d l) := by
  rw [e9_eq]
  obtain ⟨by_, x, g1, g2⟩ := enc_tot k (by omega) m d l
  rw [g1, Option.bind_some]
  simp only []
  by_cases hx : x = 0
  · rw [nneg hx, cond_false]
    have hM := g2 hx
    have hn := hM.n
    rw [cpos (by omega), cpos (by omega), Int.toNat_zero]
    by_cases h1 : (fa l 0).1 = 3
    · rw [nneg h1, cond_false]
      by_cases h2 : (fa l 0).2.1 = 0
      · rw [nneg h2, cond_false]
        obtain ⟨a, b, c, u1, u2, u3⟩ := check_loop k hk m m d d l l hn.2 hM.f 16 0 k (by omega) (by omega)
        refine ⟨a, b, c, u1, fun h0 => ?_⟩
        obtain ⟨v1, v2, v3⟩ := u2 h0
        exact ⟨v1, v2, hM, h1, h2, fun g hg => v3 g (Nat.zero_le _) hg⟩
      · rw [npos h2]; exact ⟨0, -1, 1, rfl, fun h => by omega⟩
    · rw [npos h1]; exact ⟨0, -1, 1, rfl, fun h => by omega⟩
  · rw [npos hx]; exact ⟨-1, -1, 1, rfl, fun h => by omega⟩
theorem check_good (k : Nat) (hk : 2000 ≤ k) (m : Int) (d : List Int) (l : Fs) (hG : Good k m d l) {by_ : List Int} (he : f18 k ((((m, d, l), ()), ()), ()) = some ((((), ()), ((0 : Int), ()), ()), by_, ())) : f9 k ((((m, d, l), ()), ()), ()) = r9 0 0 0 := by
  rw [e9_eq, he, Option.bind_some]
  simp only []
  have hn := hG.ok.n
  rw [nneg rfl, cond_false, cpos (by omega), cpos (by omega), Int.toNat_zero, nneg hG.p, cond_false, nneg hG.r, cond_false]
  obtain ⟨a, b, c, u1, u2, u3⟩ := check_loop k hk m m d d l l hn.2 hG.ok.f 16 0 k (by omega) (by omega)
  have hc := u3 fun g _ hg => hG.f g hg
  obtain ⟨v1, v2, _⟩ := u2 hc
  subst v1 v2 hc
  exact u1
theorem heights_good (k : Nat) (m : Int) (d : List Int) (l : Fs) (hc : f9 k ((((m, d, l), ()), ()), ()) = r9 0 0 0) (f : Int) (h0 : 0 ≤ f) (h1 : f < (l.length : Int)) {r : List Int} (hr : f21 k ((((m, d, l), ()), (f, ()), ()), ()) = R21 true r) :
    f11 k ((((m, d, l), ()), (f, ()), ()), ()) = some ((((), ()), ()), r, ()) := by
  rw [e11_eq, hc, Option.bind_some]
  simp only [beq_self_eq_true, Bool.and_self, Bool.not_true, cond_false]
  rw [e24_eq, cpos h0, Option.bind_some]
  simp only [decide_eq_true h1, Bool.not_true, cond_false]
  rw [hr, Option.bind_some]
/-- an op that is none of those that speak of something else -/
def NJ (c : Int × Int) : Prop := c.1 ≠ 24 ∧ c.1 ≠ 25 ∧ c.1 ≠ 5 ∧ c.1 ≠ 6 ∧ c.1 ≠ 26 ∧ c.1 ≠ 28
theorem NJ.ok {c : Int × Int} (h : NJ c) (k : Nat) (m : Int) (d : List Int) (l : Fs) (f P V n : Int) : OkI k m d l f P V n c := by
  obtain ⟨a, b, c, d, e, f⟩ := h
  exact ⟨fun h => by omega, fun h => by omega, fun h => by omega⟩
abbrev T6 : Type := ((List (Int × Int) × Unit) × (Unit × Unit) × (Int × Unit) × (Int × Unit) × (Unit × Unit) × (Unit × Unit) × (Unit × Unit) × (List (Int × Int) × Unit) × (Int × Unit) × (Int × Unit) × Unit) × ((Int × List Int × Fs) × Unit) × Fs × List (Int × Int) × List Int × Unit
abbrev V6 : Type := Option (((Bool × Unit) × Unit) × Unit)
abbrev S6 (m : Int) (d : List Int) (l : Fs) (mo : List (Int × Int)) (f n N j : Int) (fs : Fs) (code : List (Int × Int)) (was : List Int) : T6 := (((mo, ()), ((), ()), (f, ()), (n, ()), ((), ()), ((), ()), ((), ()), (mo, ()), (N, ()), (j, ()), ()), ((m, d, l), ()), fs, code, was, ())
theorem build_loop (k0 : Nat) (hk0 : 2000 ≤ k0) (m m0 : Int) (d d0 : List Int) (l l0 : Fs) (mo mo0 : List (Int × Int)) (w0 f n : Int) (fs : Fs) (was : List Int) (hm : mo.length ≤ 300) : ∀ (e j k : Nat) (code : List (Int × Int)), mo.length = j + e → e + 1 ≤ k → code.length + e ≤ 1000 →
    ∃ more, more.length = e ∧ (∀ c ∈ more, NJ c) ∧ ∃ L, loopN (e6_1 k0 m0 d0 l0 mo0 w0) k (S6 m d l mo f n (mo.length : Int) j fs code was) = e6_1 k0 m0 d0 l0 mo0 w0 (S6 m d l mo f n (mo.length : Int) (mo.length : Int) fs (code ++ more) was) L := by
  intro e
  induction e with
  | zero =>
    intro j k code he hk hc
    obtain ⟨k, rfl⟩ : ∃ k2, k = k2 + 1 := ⟨k - 1, by omega⟩
    obtain rfl : j = mo.length := by omega
    exact ⟨[], rfl, fun c hc => absurd hc (List.not_mem_nil), loopN (e6_1 k0 m0 d0 l0 mo0 w0) k, by rw [List.append_nil]; rfl⟩
  | succ e ih =>
    intro j k code he hk hc
    obtain ⟨k, rfl⟩ : ∃ k2, k = k2 + 1 := ⟨k - 1, by omega⟩
    have go : ∀ c : Int × Int, NJ c → ∃ more, more.length = e + 1 ∧ (∀ c ∈ more, NJ c) ∧ ∃ L, (bif ((code.length + [c].length) * 16).ble 140737488355328 then loopN (e6_1 k0 m0 d0 l0 mo0 w0) k (S6 m d l mo f n (mo.length : Int) (IntKind.i64.wrap ((j : Int) + 1)) fs (code ++ [c]) was) else none) = e6_1 k0 m0 d0 l0 mo0 w0 (S6 m d l mo f n (mo.length : Int) (mo.length : Int) fs (code ++ more) was) L := fun c hcn => by
      rw [blt (by simp only [List.length_singleton]; omega), wrapId (n := (j : Int) + 1) (by omega) (by omega)]
      obtain ⟨more, u1, u2, L, u3⟩ := ih (j + 1) k (code ++ [c]) (by omega) (by omega) (by rw [List.length_append, List.length_singleton]; omega)
      rw [show ((j + 1 : Nat) : Int) = (j : Int) + 1 by omega, List.append_assoc] at u3
      refine ⟨c :: more, by rw [List.length_cons, u1], fun x hx => ?_, L, u3⟩
      rcases List.mem_cons.1 hx with rfl | hx
      · exact hcn
      · exact u2 x hx
    obtain ⟨b7, hb7⟩ := has_tot k0 (by omega) 7
    have g7 : ∃ more, more.length = e + 1 ∧ (∀ c ∈ more, NJ c) ∧ ∃ L, ((f15 k0 ((((7 : Int), ()), ((0 : Int), ()), ()), ())).bind fun v => (f17 k0 (((v.1.1.1.1, ()), ()), ())).bind fun v_1 => bif !v_1.1.1.1 then bif ((code.length + [(v.1.1.1.1, (0 : Int))].length) * (16 : Nat)).ble (140737488355328 : Nat) then loopN (e6_1 k0 m0 d0 l0 mo0 w0) k (S6 m d l mo f n (mo.length : Int) (IntKind.i64.wrap ((j : Int) + 1)) fs (code ++ [(v.1.1.1.1, (0 : Int))]) was) else none else bif ((code.length + [(v.1.1.1.1, v.1.1.1.2)].length) * (16 : Nat)).ble (140737488355328 : Nat) then loopN (e6_1 k0 m0 d0 l0 mo0 w0) k (S6 m d l mo f n (mo.length : Int) (IntKind.i64.wrap ((j : Int) + 1)) fs (code ++ [(v.1.1.1.1, v.1.1.1.2)]) was) else none) = e6_1 k0 m0 d0 l0 mo0 w0 (S6 m d l mo f n (mo.length : Int) (mo.length : Int) fs (code ++ more) was) L := by
      rw [e15_eq, Option.bind_some]
      simp only []
      rw [hb7, Option.bind_some]
      have := go (7, 0) ⟨by decide, by decide, by decide, by decide, by decide, by decide⟩
      cases b7 <;> exact this
    rw [loopN_succ, e6_1]
    simp only []
    rw [cpos (by omega), cpos (by omega), Int.toNat_natCast]
    have hj : (j : Int) < (mo.length : Int) := by omega
    generalize hcv : ca mo j = cv
    obtain ⟨op, nn⟩ := cv
    simp only []
    by_cases h1 : op = 24
    · rw [bpos h1]; exact g7
    rw [bneg h1, cond_false]
    by_cases h2 : op = 25
    · rw [bpos h2]; exact g7
    rw [bneg h2, cond_false]
    by_cases h3 : op = 5
    · rw [bpos h3]; exact g7
    rw [bneg h3, cond_false]
    by_cases h4 : op = 6
    · rw [bpos h4]; exact g7
    rw [bneg h4, cond_false]
    by_cases h5 : op = 26
    · rw [bpos h5]; exact g7
    rw [bneg h5, cond_false]
    by_cases h6 : op = 28
    · rw [bpos h6]; exact g7
    rw [bneg h6, cond_false]
    by_cases h7 : op < 0
    · rw [cpos h7]; exact g7
    rw [cneg h7]
    by_cases h8 : op > 29
    · rw [cpos h8]; exact g7
    rw [cneg h8]
    obtain ⟨b, hb⟩ := has_tot k0 (by omega) op
    rw [hb, Option.bind_some]
    have hgo : ∀ x, ∃ more, more.length = e + 1 ∧ (∀ c ∈ more, NJ c) ∧ ∃ L, (bif ((code.length + [(op, x)].length) * 16).ble 140737488355328 then loopN (e6_1 k0 m0 d0 l0 mo0 w0) k (S6 m d l mo f n (mo.length : Int) (IntKind.i64.wrap ((j : Int) + 1)) fs (code ++ [(op, x)]) was) else none) = e6_1 k0 m0 d0 l0 mo0 w0 (S6 m d l mo f n (mo.length : Int) (mo.length : Int) fs (code ++ more) was) L := fun x => go (op, x) ⟨h1, h2, h3, h4, h5, h6⟩
    cases b
    · exact hgo 0
    · exact hgo nn
abbrev U6 : Type := ((Int × Unit) × (Unit × Unit) × (Unit × Unit) × (Int × Unit) × (Int × Unit) × Unit) × List Int × List Int × Unit
theorem same_loop (n N : Nat) (was : List Int) (hw : was.length = n) (e : Nat) (hN : N = n + e) (hs : N ≤ 1000) : ∀ (q i k : Nat), N - i ≤ q → q + 1 ≤ k → loopN e6_0 k ((((n : Int), ()), ((), ()), ((), ()), ((N : Int), ()), ((i : Int), ()), ()), was, pad was e, ()) = some (((true, ()), ()), ()) := by
  have hpl := pad_len was e
  intro q
  induction q with
  | zero =>
    intro i k hq hk
    obtain ⟨k, rfl⟩ : ∃ k2, k = k2 + 1 := ⟨k - 1, by omega⟩
    rw [loopN_succ, e6_0]
    simp only []
    rw [cneg (by omega)]
  | succ q ih =>
    intro i k hq hk
    obtain ⟨k, rfl⟩ : ∃ k2, k = k2 + 1 := ⟨k - 1, by omega⟩
    rw [loopN_succ, e6_0]
    simp only []
    have go := ih (i + 1) k (by omega) (by omega)
    rw [show ((i + 1 : Nat) : Int) = (i : Int) + 1 by omega] at go
    by_cases h : (i : Int) < (N : Int)
    · rw [cpos h, wrapId (n := (i : Int) + 1) (by omega) (by omega), Int.toNat_natCast]
      by_cases h2 : (i : Int) < (n : Int)
      · rw [cpos h2, cpos (by omega), cpos (by omega), ia_pad (by omega), bne_self_eq_false, cond_false, cneg (by omega)]
        exact go
      · rw [cneg h2, cpos (by omega), cpos (by omega)]
        have : ia (pad was e) i = -1 := by
          rw [ia_get (by omega)]
          unfold pad
          rw [List.getElem_append_right (by omega), List.getElem_replicate]
        rw [nneg this, cond_false]
        exact go
    · rw [cneg h]
theorem fa_set {l : Fs} {i j : Nat} {v : Fn} (h : i < l.length) : fa (l.set i v) j = if j = i then v else fa l j := by
  unfold fa gt
  rw [List.getD_eq_getElem?_getD, List.getD_eq_getElem?_getD, List.getElem?_set]
  by_cases e : j = i
  · subst e; simp [h]
  · rw [if_neg (fun q => e q.symm), if_neg e]
theorem ca_app {c more : List (Int × Int)} {i : Nat} (h : i < c.length) : ca (c ++ more) i = ca c i := by
  unfold ca gt
  rw [List.getD_eq_getElem?_getD, List.getD_eq_getElem?_getD, List.getElem?_append_left h]
theorem ca_app2 {c more : List (Int × Int)} {i : Nat} (h : c.length ≤ i) (h2 : i < c.length + more.length) : ca (c ++ more) i ∈ more := by
  unfold ca gt
  rw [List.getD_eq_getElem?_getD, List.getElem?_append_right h, List.getElem?_eq_getElem (by omega)]
  exact List.getElem_mem _
theorem OkI.mono {k : Nat} {m m' : Int} {d d' : List Int} {l l' : Fs} {f P V n n' : Int} {c : Int × Int} (hL : Like l l') (hn : n ≤ n') (h : OkI k m d l f P V n c) : OkI k m' d' l' f P V n' c :=
  ⟨h.g, fun x => by have := h.j x; omega, fun x => by obtain ⟨T, Q, e⟩ := h.e x; exact ⟨T, Q, (eff_like hL k m m' d d' f c).trans e⟩⟩
/-- with instructions behind function `F`, that speak of nothing else, the module has no flaw either -/
theorem good_more {k : Nat} (hk : 2000 ≤ k) {m : Int} {d : List Int} {l : Fs} (hG : Good k m d l) {F : Nat} (hF : F < l.length) {more : List (Int × Int)} (hm : more.length ≤ 300) (hNJ : ∀ c ∈ more, NJ c)
    (hO : MOk m d (l.set F ((fa l F).1, (fa l F).2.1, (fa l F).2.2.1, (fa l F).2.2.2 ++ more))) :
    Good k m d (l.set F ((fa l F).1, (fa l F).2.1, (fa l F).2.2.1, (fa l F).2.2.2 ++ more)) ∧ ∃ r, f21 k ((((m, d, l), ()), ((F : Int), ()), ()), ()) = R21 true r ∧ r.length = (fa l F).2.2.2.length ∧
      f21 k ((((m, d, l.set F ((fa l F).1, (fa l F).2.1, (fa l F).2.2.1, (fa l F).2.2.2 ++ more)), ()), ((F : Int), ()), ()), ()) = R21 true (pad r more.length) := by
  have hL : Like l (l.set F ((fa l F).1, (fa l F).2.1, (fa l F).2.2.1, (fa l F).2.2.2 ++ more)) := by
    refine ⟨List.length_set .., fun i => ?_, fun i => ?_, fun i => ?_⟩ <;> rw [fa_set hF] <;> split <;> simp_all
  have hfo : ∀ j, fa (l.set F ((fa l F).1, (fa l F).2.1, (fa l F).2.2.1, (fa l F).2.2.2 ++ more)) j = if j = F then ((fa l F).1, (fa l F).2.1, (fa l F).2.2.1, (fa l F).2.2.2 ++ more) else fa l j := fun j => fa_set hF
  generalize hl' : l.set F ((fa l F).1, (fa l F).2.1, (fa l F).2.2.1, (fa l F).2.2.2 ++ more) = l' at hL hfo hO ⊢
  have hlen := hL.len
  have at_ : ∀ g : Nat, g < l.length → g ≠ F → FOk k m d l' g := fun g hg hgF => by
    obtain ⟨ok, r, hr⟩ := hG.f g hg
    have hfg : fa l' g = fa l g := by rw [hfo, if_neg hgF]
    rw [Int.toNat_natCast] at ok
    obtain ⟨b, r2, u1, u2⟩ := heights_two hk (f := (g : Int)) (by omega) (by omega) (by omega) (m' := m) (d' := d) (l' := l') (e := 0) (by omega) rfl rfl (pre_of hL hG.ok.f (by omega) (by omega) (by rw [Int.toNat_natCast, hfg]; rfl) (fun i _ => by rw [Int.toNat_natCast, hfg]) (by rw [Int.toNat_natCast]; exact ok))
    rw [u1] at hr
    have hb : b = true := by cases b; · simp [R21] at hr
                             · rfl
    refine ⟨?_, _, (u2 hb).2⟩
    rw [Int.toNat_natCast, hfg]
    exact fun p hp => (ok p hp).mono hL (Int.le_refl _)
  have hF2 : fa l' F = ((fa l F).1, (fa l F).2.1, (fa l F).2.2.1, (fa l F).2.2.2 ++ more) := by rw [hfo, if_pos rfl]
  obtain ⟨ok, r, hr⟩ := hG.f F hF
  rw [Int.toNat_natCast] at ok
  obtain ⟨b, r2, u1, u2⟩ := heights_two hk (f := (F : Int)) (by omega) (by omega) (by omega) (m' := m) (d' := d) (l' := l') (e := more.length) (by omega) rfl rfl (pre_of hL hG.ok.f (by omega) (by omega) (by rw [Int.toNat_natCast, hF2, List.length_append]) (fun i hi => by rw [Int.toNat_natCast] at hi ⊢; rw [hF2]; exact ca_app hi) (by rw [Int.toNat_natCast]; exact ok))
  have hb : b = true := by
    rw [u1] at hr
    cases b
    · simp [R21] at hr
    · rfl
  subst hb
  obtain ⟨u3, u4⟩ := u2 rfl
  refine ⟨⟨hO, (hL.p 0).trans hG.p, (hL.r 0).trans hG.r, fun g hg => ?_⟩, r2, u1, u3, u4⟩
  by_cases hgF : g = F
  · subst hgF
    refine ⟨?_, _, u4⟩
    rw [Int.toNat_natCast, hF2]
    simp only []
    intro p hp
    by_cases hp2 : p < (fa l g).2.2.2.length
    · rw [ca_app hp2]
      exact (ok p hp2).mono hL (by rw [List.length_append]; omega)
    · rw [List.length_append] at hp
      exact (hNJ _ (ca_app2 (by omega) hp)).ok ..
  · exact at_ g (by omega) hgF
theorem fx_in (w : Int) (l : Fs) (h : 1 ≤ l.length) (h2 : l.length ≤ 1000) : 0 ≤ fx w l ∧ fx w l < (l.length : Int) := by
  unfold fx
  have hb : (BitVec.ofInt IntKind.i64.bits w &&& BitVec.ofInt IntKind.i64.bits (1023 : Int)).toNat ≤ 1023 := by
    rw [BitVec.toNat_and]
    exact Nat.le_trans Nat.and_le_right (by decide)
  rw [wrapId (by omega) (by omega)]
  generalize (BitVec.ofInt IntKind.i64.bits w &&& BitVec.ofInt IntKind.i64.bits (1023 : Int)).toNat = x
  rw [Int.tmod_eq_emod_of_nonneg (by omega)]
  exact ⟨Int.emod_nonneg _ (by omega), Int.emod_lt_of_pos _ (by omega)⟩
end
end Go.Proofs.Ytgngbbkaghmnpaa.Ck
