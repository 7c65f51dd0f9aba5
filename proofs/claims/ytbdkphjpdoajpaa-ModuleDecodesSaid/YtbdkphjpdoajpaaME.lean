import Derived.Test.YtbdkphjpdoajpaaMD
namespace Go.Proofs.Ytbdkphjpdoajpaa.Md
open Go Go.RowKit Go.Proofs Go.Proofs.Ytbdkphjpdoajpaa.X
set_option linter.unusedVariables false
set_option linter.unusedSimpArgs false
noncomputable section
/-! A module -/
theorem alive (k : Nat) : f9 (k + 30) ((), ()) = some (((true, ()), ()), ()) := by kernel_rfl
def e10_0 (k : Nat) (b : List Int) (g : ((List Int × Unit) × (Unit × Unit) × (Unit × Unit) × (Unit × Unit) × (Unit × Unit) × (Int × Unit) × Unit) × ((Int × List Int × List (Int × Int × Int × List (Int × Int))) × Unit) × ((Int × Int) × Unit) × ((List Int × Int × Bool) × Unit) × (Int × Unit × Unit × Unit) × List Int × List (Int × Int × Int × List (Int × Int)) × Unit) (L : ((List Int × Unit) × (Unit × Unit) × (Unit × Unit) × (Unit × Unit) × (Unit × Unit) × (Int × Unit) × Unit) × ((Int × List Int × List (Int × Int × Int × List (Int × Int))) × Unit) × ((Int × Int) × Unit) × ((List Int × Int × Bool) × Unit) × (Int × Unit × Unit × Unit) × List Int × List (Int × Int × Int × List (Int × Int)) × Unit → Option ((((Int × List Int × List (Int × Int × Int × List (Int × Int))) × Unit) × ((Int × Int) × Unit) × Unit) × Unit)) : Option ((((Int × List Int × List (Int × Int × Int × List (Int × Int))) × Unit) × ((Int × Int) × Unit) × Unit) × Unit) := bif decide (g.1.2.2.2.2.2.1.1 > (0 : Int)) then bif !g.2.2.2.1.1.2.2 then (f19 k ((((), ()), ()), ((g.2.2.2.1.1.1, g.2.2.2.1.1.2.1, g.2.2.2.1.1.2.2), ()), ())).bind fun v => bif ((g.2.2.2.2.2.2.1.length + [(v.1.1.1.1, v.1.1.1.2.1, v.1.1.1.2.2.1, v.1.1.1.2.2.2)].length) * (48 : Nat)).ble (140737488355328 : Nat) then L (((g.1.1.1, ()), ((), ()), ((), ()), ((), ()), ((), ()), (IntKind.i64.wrap (g.1.2.2.2.2.2.1.1 - (1 : Int)), ()), ()), ((g.2.1.1.1, g.2.1.1.2.1, g.2.1.1.2.2), ()), ((g.2.2.1.1.1, g.2.2.1.1.2), ()), ((v.2.1.1.1, v.2.1.1.2.1, v.2.1.1.2.2), ()), (g.2.2.2.2.1.1, (), (), ()), g.2.2.2.2.2.1, g.2.2.2.2.2.2.1 ++ [(v.1.1.1.1, v.1.1.1.2.1, v.1.1.1.2.2.1, v.1.1.1.2.2.2)], ()) else none else bif g.2.2.2.1.1.2.2 then some (((((0 : Int), [], []), ()), (((120 : Int), g.2.2.2.1.1.2.1), ()), ()), ()) else bif decide (g.2.2.2.1.1.2.1 < (↑g.1.1.1.length : Int)) then some (((((0 : Int), [], []), ()), (((120 : Int), g.2.2.2.1.1.2.1), ()), ()), ()) else some ((((g.2.2.2.2.1.1, g.2.2.2.2.2.1, g.2.2.2.2.2.2.1), ()), (((0 : Int), (0 : Int)), ()), ()), ()) else bif g.2.2.2.1.1.2.2 then some (((((0 : Int), [], []), ()), (((120 : Int), g.2.2.2.1.1.2.1), ()), ()), ()) else bif decide (g.2.2.2.1.1.2.1 < (↑g.1.1.1.length : Int)) then some (((((0 : Int), [], []), ()), (((120 : Int), g.2.2.2.1.1.2.1), ()), ()), ()) else some ((((g.2.2.2.2.1.1, g.2.2.2.2.2.1, g.2.2.2.2.2.2.1), ()), (((0 : Int), (0 : Int)), ()), ()), ())
def e10_1 (k : Nat) (b : List Int) (g : ((List Int × Unit) × (Unit × Unit) × (Unit × Unit) × (Unit × Unit) × (Unit × Unit) × (Int × Unit) × Unit) × ((Int × List Int × List (Int × Int × Int × List (Int × Int))) × Unit) × ((Int × Int) × Unit) × ((List Int × Int × Bool) × Unit) × (Int × Unit × Unit × Unit) × List Int × List (Int × Int × Int × List (Int × Int)) × Unit) (L : ((List Int × Unit) × (Unit × Unit) × (Unit × Unit) × (Unit × Unit) × (Unit × Unit) × (Int × Unit) × Unit) × ((Int × List Int × List (Int × Int × Int × List (Int × Int))) × Unit) × ((Int × Int) × Unit) × ((List Int × Int × Bool) × Unit) × (Int × Unit × Unit × Unit) × List Int × List (Int × Int × Int × List (Int × Int)) × Unit → Option ((((Int × List Int × List (Int × Int × Int × List (Int × Int))) × Unit) × ((Int × Int) × Unit) × Unit) × Unit)) : Option ((((Int × List Int × List (Int × Int × Int × List (Int × Int))) × Unit) × ((Int × Int) × Unit) × Unit) × Unit) := bif decide (g.1.2.2.2.2.2.1.1 > (0 : Int)) then bif !g.2.2.2.1.1.2.2 then (f17 k ((((), ()), ((0 : Int), ()), ((255 : Int), ()), ()), ((g.2.2.2.1.1.1, g.2.2.2.1.1.2.1, g.2.2.2.1.1.2.2), ()), ())).bind fun v => bif ((g.2.2.2.2.2.1.length + [IntKind.u8.wrap v.1.1.1].length) * (1 : Nat)).ble (140737488355328 : Nat) then L (((g.1.1.1, ()), ((), ()), ((), ()), ((), ()), ((), ()), (IntKind.i64.wrap (g.1.2.2.2.2.2.1.1 - (1 : Int)), ()), ()), ((g.2.1.1.1, g.2.1.1.2.1, g.2.1.1.2.2), ()), ((g.2.2.1.1.1, g.2.2.1.1.2), ()), ((v.2.1.1.1, v.2.1.1.2.1, v.2.1.1.2.2), ()), (g.2.2.2.2.1.1, (), (), ()), g.2.2.2.2.2.1 ++ [IntKind.u8.wrap v.1.1.1], g.2.2.2.2.2.2.1, ()) else none else (f17 k ((((), ()), ((1 : Int), ()), ((16 : Int), ()), ()), ((g.2.2.2.1.1.1, g.2.2.2.1.1.2.1, g.2.2.2.1.1.2.2), ()), ())).bind fun v => loopN (e10_0 k b) k (((g.1.1.1, ()), ((), ()), ((), ()), ((), ()), ((), ()), (v.1.1.1, ()), ()), ((g.2.1.1.1, g.2.1.1.2.1, g.2.1.1.2.2), ()), ((g.2.2.1.1.1, g.2.2.1.1.2), ()), ((v.2.1.1.1, v.2.1.1.2.1, v.2.1.1.2.2), ()), (g.2.2.2.2.1.1, (), (), ()), g.2.2.2.2.2.1, g.2.2.2.2.2.2.1, ()) else (f17 k ((((), ()), ((1 : Int), ()), ((16 : Int), ()), ()), ((g.2.2.2.1.1.1, g.2.2.2.1.1.2.1, g.2.2.2.1.1.2.2), ()), ())).bind fun v => loopN (e10_0 k b) k (((g.1.1.1, ()), ((), ()), ((), ()), ((), ()), ((), ()), (v.1.1.1, ()), ()), ((g.2.1.1.1, g.2.1.1.2.1, g.2.1.1.2.2), ()), ((g.2.2.1.1.1, g.2.2.1.1.2), ()), ((v.2.1.1.1, v.2.1.1.2.1, v.2.1.1.2.2), ()), (g.2.2.2.2.1.1, (), (), ()), g.2.2.2.2.2.1, g.2.2.2.2.2.2.1, ())
def e10_2 (k : Nat) (b : List Int) (g : ((List Int × Unit) × (Unit × Unit) × (Unit × Unit) × (Unit × Unit) × (Unit × Unit) × (Int × Unit) × (Int × Unit) × Unit) × ((Int × List Int × List (Int × Int × Int × List (Int × Int))) × Unit) × ((Int × Int) × Unit) × ((List Int × Int × Bool) × Unit) × List Int × Unit) (L : ((List Int × Unit) × (Unit × Unit) × (Unit × Unit) × (Unit × Unit) × (Unit × Unit) × (Int × Unit) × (Int × Unit) × Unit) × ((Int × List Int × List (Int × Int × Int × List (Int × Int))) × Unit) × ((Int × Int) × Unit) × ((List Int × Int × Bool) × Unit) × List Int × Unit → Option ((((Int × List Int × List (Int × Int × Int × List (Int × Int))) × Unit) × ((Int × Int) × Unit) × Unit) × Unit)) : Option ((((Int × List Int × List (Int × Int × Int × List (Int × Int))) × Unit) × ((Int × Int) × Unit) × Unit) × Unit) := bif decide (g.1.2.2.2.2.2.2.1.1 < g.1.2.2.2.2.2.1.1) then bif decide ((0 : Int) ≤ g.1.2.2.2.2.2.2.1.1 ∧ g.1.2.2.2.2.2.2.1.1 < (↑g.2.2.2.2.1.length : Int)) then (f17 k ((((), ()), (gt is g.2.2.2.2.1 g.1.2.2.2.2.2.2.1.1.toNat, ()), (gt is g.2.2.2.2.1 g.1.2.2.2.2.2.2.1.1.toNat, ()), ()), ((g.2.2.2.1.1.1, g.2.2.2.1.1.2.1, g.2.2.2.1.1.2.2), ()), ())).bind fun v => L (((g.1.1.1, ()), ((), ()), ((), ()), ((), ()), ((), ()), (g.1.2.2.2.2.2.1.1, ()), (IntKind.i64.wrap (g.1.2.2.2.2.2.2.1.1 + (1 : Int)), ()), ()), ((g.2.1.1.1, g.2.1.1.2.1, g.2.1.1.2.2), ()), ((g.2.2.1.1.1, g.2.2.1.1.2), ()), ((v.2.1.1.1, v.2.1.1.2.1, v.2.1.1.2.2), ()), g.2.2.2.2.1, ()) else none else (f18 k ((((), ()), ((0 : Int), ()), ((1024 : Int), ()), ()), ((g.2.2.2.1.1.1, g.2.2.2.1.1.2.1, g.2.2.2.1.1.2.2), ()), ())).bind fun v => (f18 k ((((), ()), ((0 : Int), ()), (v.1.1.1, ()), ()), ((v.2.1.1.1, v.2.1.1.2.1, v.2.1.1.2.2), ()), ())).bind fun v_1 => loopN (e10_1 k b) k (((g.1.1.1, ()), ((), ()), ((), ()), ((), ()), ((), ()), (v_1.1.1.1, ()), ()), ((g.2.1.1.1, g.2.1.1.2.1, g.2.1.1.2.2), ()), ((g.2.2.1.1.1, g.2.2.1.1.2), ()), ((v_1.2.1.1.1, v_1.2.1.1.2.1, v_1.2.1.1.2.2), ()), (v.1.1.1, (), (), ()), [], [], ())
theorem e10_eq (k : Nat) (b : List Int) : f10 k (((b, ()), ()), ()) = bif decide ((↑b.length : Int) > (4096 : Int)) then some (((((0 : Int), [], []), ()), (((2 : Int), (0 : Int)), ()), ()), ()) else loopN (e10_2 k b) k (((b, ()), ((), ()), ((), ()), ((), ()), ((), ()), ((↑[(67 : Int), (83 : Int), (77 : Int), (1 : Int)].length : Int), ()), ((0 : Int), ()), ()), (((0 : Int), [], []), ()), (((0 : Int), (0 : Int)), ()), ((b, (0 : Int), false), ()), [(67 : Int), (83 : Int), (77 : Int), (1 : Int)], ()) := by kernel_rfl
def e11_0 (k : Nat) (b : List Int) (g : ((List Int × Unit) × (Unit × Unit) × (Unit × Unit) × (Unit × Unit) × (Unit × Unit) × (Int × Unit) × (Int × Unit) × Unit) × ((Int × List Int × List (Int × Int × Int × List (Int × Int))) × Unit) × ((Int × Int) × Unit) × ((List Int × Int × Bool) × Unit) × (Int × Unit × Unit × Unit) × List Int × List (Int × Int × Int × List (Int × Int)) × Unit) (L : ((List Int × Unit) × (Unit × Unit) × (Unit × Unit) × (Unit × Unit) × (Unit × Unit) × (Int × Unit) × (Int × Unit) × Unit) × ((Int × List Int × List (Int × Int × Int × List (Int × Int))) × Unit) × ((Int × Int) × Unit) × ((List Int × Int × Bool) × Unit) × (Int × Unit × Unit × Unit) × List Int × List (Int × Int × Int × List (Int × Int)) × Unit → Option ((((Int × List Int × List (Int × Int × Int × List (Int × Int))) × Unit) × ((Int × Int) × Unit) × Unit) × Unit)) : Option ((((Int × List Int × List (Int × Int × Int × List (Int × Int))) × Unit) × ((Int × Int) × Unit) × Unit) × Unit) := bif decide (g.1.2.2.2.2.2.2.1.1 < g.1.2.2.2.2.2.1.1) then bif g.2.2.2.1.1.2.2 then (f22 k ((((g.2.2.2.1.1.1, g.2.2.2.1.1.2.1, g.2.2.2.1.1.2.2), ()), ()), ())).bind fun v => bif ((g.2.2.2.2.2.2.1.length + [(v.1.1.1.1, v.1.1.1.2.1, v.1.1.1.2.2.1, v.1.1.1.2.2.2)].length) * (48 : Nat)).ble (140737488355328 : Nat) then L (((g.1.1.1, ()), ((), ()), ((), ()), ((), ()), ((), ()), (g.1.2.2.2.2.2.1.1, ()), (IntKind.i64.wrap (g.1.2.2.2.2.2.2.1.1 + (1 : Int)), ()), ()), ((g.2.1.1.1, g.2.1.1.2.1, g.2.1.1.2.2), ()), ((g.2.2.1.1.1, g.2.2.1.1.2), ()), ((v.1.2.1.1.1, v.1.2.1.1.2.1, v.1.2.1.1.2.2), ()), (g.2.2.2.2.1.1, (), (), ()), g.2.2.2.2.2.1, g.2.2.2.2.2.2.1 ++ [(v.1.1.1.1, v.1.1.1.2.1, v.1.1.1.2.2.1, v.1.1.1.2.2.2)], ()) else none else bif !g.2.2.2.1.1.2.2 then some (((((0 : Int), [], []), ()), (((120 : Int), g.2.2.2.1.1.2.1), ()), ()), ()) else bif decide (g.2.2.2.1.1.2.1 < (↑g.1.1.1.length : Int)) then some (((((0 : Int), [], []), ()), (((120 : Int), g.2.2.2.1.1.2.1), ()), ()), ()) else some ((((g.2.2.2.2.1.1, g.2.2.2.2.2.1, g.2.2.2.2.2.2.1), ()), (((0 : Int), (0 : Int)), ()), ()), ()) else bif !g.2.2.2.1.1.2.2 then some (((((0 : Int), [], []), ()), (((120 : Int), g.2.2.2.1.1.2.1), ()), ()), ()) else bif decide (g.2.2.2.1.1.2.1 < (↑g.1.1.1.length : Int)) then some (((((0 : Int), [], []), ()), (((120 : Int), g.2.2.2.1.1.2.1), ()), ()), ()) else some ((((g.2.2.2.2.1.1, g.2.2.2.2.2.1, g.2.2.2.2.2.2.1), ()), (((0 : Int), (0 : Int)), ()), ()), ())
def e11_1 (k : Nat) (b : List Int) (g : ((List Int × Unit) × (Unit × Unit) × (Unit × Unit) × (Unit × Unit) × (Int × Unit) × (Unit × Unit) × (Int × Unit) × Unit) × ((Int × List Int × List (Int × Int × Int × List (Int × Int))) × Unit) × ((Int × Int) × Unit) × ((List Int × Int × Bool) × Unit) × (Int × Unit × Unit × Unit) × List Int × List (Int × Int × Int × List (Int × Int)) × Unit) (L : ((List Int × Unit) × (Unit × Unit) × (Unit × Unit) × (Unit × Unit) × (Int × Unit) × (Unit × Unit) × (Int × Unit) × Unit) × ((Int × List Int × List (Int × Int × Int × List (Int × Int))) × Unit) × ((Int × Int) × Unit) × ((List Int × Int × Bool) × Unit) × (Int × Unit × Unit × Unit) × List Int × List (Int × Int × Int × List (Int × Int)) × Unit → Option ((((Int × List Int × List (Int × Int × Int × List (Int × Int))) × Unit) × ((Int × Int) × Unit) × Unit) × Unit)) : Option ((((Int × List Int × List (Int × Int × Int × List (Int × Int))) × Unit) × ((Int × Int) × Unit) × Unit) × Unit) := bif decide (g.1.2.2.2.2.2.2.1.1 < g.1.2.2.2.2.1.1) then bif g.2.2.2.1.1.2.2 then (f20 k ((((g.2.2.2.1.1.1, g.2.2.2.1.1.2.1, g.2.2.2.1.1.2.2), ()), ((0 : Int), ()), ((255 : Int), ()), ()), ())).bind fun v => bif ((g.2.2.2.2.2.1.length + [IntKind.u8.wrap v.1.1.1].length) * (1 : Nat)).ble (140737488355328 : Nat) then L (((g.1.1.1, ()), ((), ()), ((), ()), ((), ()), (g.1.2.2.2.2.1.1, ()), ((), ()), (IntKind.i64.wrap (g.1.2.2.2.2.2.2.1.1 + (1 : Int)), ()), ()), ((g.2.1.1.1, g.2.1.1.2.1, g.2.1.1.2.2), ()), ((g.2.2.1.1.1, g.2.2.1.1.2), ()), ((v.1.2.1.1.1, v.1.2.1.1.2.1, v.1.2.1.1.2.2), ()), (g.2.2.2.2.1.1, (), (), ()), g.2.2.2.2.2.1 ++ [IntKind.u8.wrap v.1.1.1], g.2.2.2.2.2.2.1, ()) else none else (f20 k ((((g.2.2.2.1.1.1, g.2.2.2.1.1.2.1, g.2.2.2.1.1.2.2), ()), ((1 : Int), ()), ((16 : Int), ()), ()), ())).bind fun v => loopN (e11_0 k b) k (((g.1.1.1, ()), ((), ()), ((), ()), ((), ()), ((), ()), (v.1.1.1, ()), ((0 : Int), ()), ()), ((g.2.1.1.1, g.2.1.1.2.1, g.2.1.1.2.2), ()), ((g.2.2.1.1.1, g.2.2.1.1.2), ()), ((v.1.2.1.1.1, v.1.2.1.1.2.1, v.1.2.1.1.2.2), ()), (g.2.2.2.2.1.1, (), (), ()), g.2.2.2.2.2.1, g.2.2.2.2.2.2.1, ()) else (f20 k ((((g.2.2.2.1.1.1, g.2.2.2.1.1.2.1, g.2.2.2.1.1.2.2), ()), ((1 : Int), ()), ((16 : Int), ()), ()), ())).bind fun v => loopN (e11_0 k b) k (((g.1.1.1, ()), ((), ()), ((), ()), ((), ()), ((), ()), (v.1.1.1, ()), ((0 : Int), ()), ()), ((g.2.1.1.1, g.2.1.1.2.1, g.2.1.1.2.2), ()), ((g.2.2.1.1.1, g.2.2.1.1.2), ()), ((v.1.2.1.1.1, v.1.2.1.1.2.1, v.1.2.1.1.2.2), ()), (g.2.2.2.2.1.1, (), (), ()), g.2.2.2.2.2.1, g.2.2.2.2.2.2.1, ())
def e11_2 (k : Nat) (b : List Int) (g : ((List Int × Unit) × (Unit × Unit) × (Unit × Unit) × (Unit × Unit) × (Unit × Unit) × (Int × Unit) × Unit) × ((Int × List Int × List (Int × Int × Int × List (Int × Int))) × Unit) × ((Int × Int) × Unit) × ((List Int × Int × Bool) × Unit) × List Int × Unit) (L : ((List Int × Unit) × (Unit × Unit) × (Unit × Unit) × (Unit × Unit) × (Unit × Unit) × (Int × Unit) × Unit) × ((Int × List Int × List (Int × Int × Int × List (Int × Int))) × Unit) × ((Int × Int) × Unit) × ((List Int × Int × Bool) × Unit) × List Int × Unit → Option ((((Int × List Int × List (Int × Int × Int × List (Int × Int))) × Unit) × ((Int × Int) × Unit) × Unit) × Unit)) : Option ((((Int × List Int × List (Int × Int × Int × List (Int × Int))) × Unit) × ((Int × Int) × Unit) × Unit) × Unit) := bif decide (g.1.2.2.2.2.2.1.1 < (4 : Int)) then bif decide ((0 : Int) ≤ g.1.2.2.2.2.2.1.1 ∧ g.1.2.2.2.2.2.1.1 < (↑g.2.2.2.2.1.length : Int)) then bif decide ((0 : Int) ≤ g.1.2.2.2.2.2.1.1 ∧ g.1.2.2.2.2.2.1.1 < (↑g.2.2.2.2.1.length : Int)) then (f20 k ((((g.2.2.2.1.1.1, g.2.2.2.1.1.2.1, g.2.2.2.1.1.2.2), ()), (gt is g.2.2.2.2.1 g.1.2.2.2.2.2.1.1.toNat, ()), (gt is g.2.2.2.2.1 g.1.2.2.2.2.2.1.1.toNat, ()), ()), ())).bind fun v => L (((g.1.1.1, ()), ((), ()), ((), ()), ((), ()), ((), ()), (IntKind.i64.wrap (g.1.2.2.2.2.2.1.1 + (1 : Int)), ()), ()), ((g.2.1.1.1, g.2.1.1.2.1, g.2.1.1.2.2), ()), ((g.2.2.1.1.1, g.2.2.1.1.2), ()), ((v.1.2.1.1.1, v.1.2.1.1.2.1, v.1.2.1.1.2.2), ()), g.2.2.2.2.1, ()) else none else none else (f21 k ((((g.2.2.2.1.1.1, g.2.2.2.1.1.2.1, g.2.2.2.1.1.2.2), ()), ((0 : Int), ()), ((1024 : Int), ()), ()), ())).bind fun v => (f21 k ((((v.1.2.1.1.1, v.1.2.1.1.2.1, v.1.2.1.1.2.2), ()), ((0 : Int), ()), (v.1.1.1, ()), ()), ())).bind fun v_1 => loopN (e11_1 k b) k (((g.1.1.1, ()), ((), ()), ((), ()), ((), ()), (v_1.1.1.1, ()), ((), ()), ((0 : Int), ()), ()), ((g.2.1.1.1, g.2.1.1.2.1, g.2.1.1.2.2), ()), ((g.2.2.1.1.1, g.2.2.1.1.2), ()), ((v_1.1.2.1.1.1, v_1.1.2.1.1.2.1, v_1.1.2.1.1.2.2), ()), (v.1.1.1, (), (), ()), [], [], ())
theorem e11_eq (k : Nat) (b : List Int) : f11 k (((b, ()), ()), ()) = bif decide ((↑b.length : Int) > (4096 : Int)) then some (((((0 : Int), [], []), ()), (((2 : Int), (0 : Int)), ()), ()), ()) else loopN (e11_2 k b) k (((b, ()), ((), ()), ((), ()), ((), ()), ((), ()), ((0 : Int), ()), ()), (((0 : Int), [], []), ()), (((0 : Int), (0 : Int)), ()), ((b, (0 : Int), true), ()), [(67 : Int), (83 : Int), (77 : Int), (1 : Int)], ()) := by kernel_rfl
def e12_0 (L1 : ((Unit × Unit) × (Unit × Unit) × (Int × Unit) × Unit) × ((Int × List Int × List (Int × Int × Int × List (Int × Int))) × Unit) × ((Int × List Int × List (Int × Int × Int × List (Int × Int))) × Unit) × Unit → Option (((Bool × Unit) × Unit) × Unit)) (g : ((Unit × Unit) × (Unit × Unit) × (Int × Unit) × (Unit × Unit) × (Unit × Unit) × (Int × Unit) × Unit) × ((Int × List Int × List (Int × Int × Int × List (Int × Int))) × Unit) × ((Int × List Int × List (Int × Int × Int × List (Int × Int))) × Unit) × ((Int × Int × Int × List (Int × Int)) × Unit) × ((Int × Int × Int × List (Int × Int)) × Unit) × Unit) (L : ((Unit × Unit) × (Unit × Unit) × (Int × Unit) × (Unit × Unit) × (Unit × Unit) × (Int × Unit) × Unit) × ((Int × List Int × List (Int × Int × Int × List (Int × Int))) × Unit) × ((Int × List Int × List (Int × Int × Int × List (Int × Int))) × Unit) × ((Int × Int × Int × List (Int × Int)) × Unit) × ((Int × Int × Int × List (Int × Int)) × Unit) × Unit → Option (((Bool × Unit) × Unit) × Unit)) : Option (((Bool × Unit) × Unit) × Unit) := bif decide (g.1.2.2.2.2.2.1.1 < (↑g.2.2.2.1.1.2.2.2.length : Int)) then bif decide ((0 : Int) ≤ g.1.2.2.2.2.2.1.1 ∧ g.1.2.2.2.2.2.1.1 < (↑g.2.2.2.1.1.2.2.2.length : Int)) then bif decide ((0 : Int) ≤ g.1.2.2.2.2.2.1.1 ∧ g.1.2.2.2.2.2.1.1 < (↑g.2.2.2.2.1.1.2.2.2.length : Int)) then bif !((gt ((Sh.int IntKind.i64).pair (Sh.int IntKind.i64)) g.2.2.2.1.1.2.2.2 g.1.2.2.2.2.2.1.1.toNat).1 == (gt ((Sh.int IntKind.i64).pair (Sh.int IntKind.i64)) g.2.2.2.2.1.1.2.2.2 g.1.2.2.2.2.2.1.1.toNat).1 && ((gt ((Sh.int IntKind.i64).pair (Sh.int IntKind.i64)) g.2.2.2.1.1.2.2.2 g.1.2.2.2.2.2.1.1.toNat).2 == (gt ((Sh.int IntKind.i64).pair (Sh.int IntKind.i64)) g.2.2.2.2.1.1.2.2.2 g.1.2.2.2.2.2.1.1.toNat).2 && true)) then some (((false, ()), ()), ()) else L ((((), ()), ((), ()), (g.1.2.2.1.1, ()), ((), ()), ((), ()), (IntKind.i64.wrap (g.1.2.2.2.2.2.1.1 + (1 : Int)), ()), ()), ((g.2.1.1.1, g.2.1.1.2.1, g.2.1.1.2.2), ()), ((g.2.2.1.1.1, g.2.2.1.1.2.1, g.2.2.1.1.2.2), ()), ((g.2.2.2.1.1.1, g.2.2.2.1.1.2.1, g.2.2.2.1.1.2.2.1, g.2.2.2.1.1.2.2.2), ()), ((g.2.2.2.2.1.1.1, g.2.2.2.2.1.1.2.1, g.2.2.2.2.1.1.2.2.1, g.2.2.2.2.1.1.2.2.2), ()), ()) else none else none else L1 ((((), ()), ((), ()), (IntKind.i64.wrap (g.1.2.2.1.1 + (1 : Int)), ()), ()), ((g.2.1.1.1, g.2.1.1.2.1, g.2.1.1.2.2), ()), ((g.2.2.1.1.1, g.2.2.1.1.2.1, g.2.2.1.1.2.2), ()), ())
def e12_1 (k : Nat) (g : ((Unit × Unit) × (Unit × Unit) × (Int × Unit) × Unit) × ((Int × List Int × List (Int × Int × Int × List (Int × Int))) × Unit) × ((Int × List Int × List (Int × Int × Int × List (Int × Int))) × Unit) × Unit) (L : ((Unit × Unit) × (Unit × Unit) × (Int × Unit) × Unit) × ((Int × List Int × List (Int × Int × Int × List (Int × Int))) × Unit) × ((Int × List Int × List (Int × Int × Int × List (Int × Int))) × Unit) × Unit → Option (((Bool × Unit) × Unit) × Unit)) : Option (((Bool × Unit) × Unit) × Unit) := bif decide (g.1.2.2.1.1 < (↑g.2.1.1.2.2.length : Int)) then bif decide ((0 : Int) ≤ g.1.2.2.1.1 ∧ g.1.2.2.1.1 < (↑g.2.1.1.2.2.length : Int)) then bif decide ((0 : Int) ≤ g.1.2.2.1.1 ∧ g.1.2.2.1.1 < (↑g.2.2.1.1.2.2.length : Int)) then bif (gt ((Sh.int IntKind.i64).pair ((Sh.int IntKind.i64).pair ((Sh.int IntKind.i64).pair ((Sh.int IntKind.i64).pair (Sh.int IntKind.i64)).sl))) g.2.1.1.2.2 g.1.2.2.1.1.toNat).1 != (gt ((Sh.int IntKind.i64).pair ((Sh.int IntKind.i64).pair ((Sh.int IntKind.i64).pair ((Sh.int IntKind.i64).pair (Sh.int IntKind.i64)).sl))) g.2.2.1.1.2.2 g.1.2.2.1.1.toNat).1 then some (((false, ()), ()), ()) else bif (gt ((Sh.int IntKind.i64).pair ((Sh.int IntKind.i64).pair ((Sh.int IntKind.i64).pair ((Sh.int IntKind.i64).pair (Sh.int IntKind.i64)).sl))) g.2.1.1.2.2 g.1.2.2.1.1.toNat).2.1 != (gt ((Sh.int IntKind.i64).pair ((Sh.int IntKind.i64).pair ((Sh.int IntKind.i64).pair ((Sh.int IntKind.i64).pair (Sh.int IntKind.i64)).sl))) g.2.2.1.1.2.2 g.1.2.2.1.1.toNat).2.1 then some (((false, ()), ()), ()) else bif (gt ((Sh.int IntKind.i64).pair ((Sh.int IntKind.i64).pair ((Sh.int IntKind.i64).pair ((Sh.int IntKind.i64).pair (Sh.int IntKind.i64)).sl))) g.2.1.1.2.2 g.1.2.2.1.1.toNat).2.2.1 != (gt ((Sh.int IntKind.i64).pair ((Sh.int IntKind.i64).pair ((Sh.int IntKind.i64).pair ((Sh.int IntKind.i64).pair (Sh.int IntKind.i64)).sl))) g.2.2.1.1.2.2 g.1.2.2.1.1.toNat).2.2.1 then some (((false, ()), ()), ()) else bif (↑(List.length (gt ((Sh.int IntKind.i64).pair ((Sh.int IntKind.i64).pair ((Sh.int IntKind.i64).pair ((Sh.int IntKind.i64).pair (Sh.int IntKind.i64)).sl))) g.2.1.1.2.2 g.1.2.2.1.1.toNat).2.2.2) : Int) != (↑(List.length (gt ((Sh.int IntKind.i64).pair ((Sh.int IntKind.i64).pair ((Sh.int IntKind.i64).pair ((Sh.int IntKind.i64).pair (Sh.int IntKind.i64)).sl))) g.2.2.1.1.2.2 g.1.2.2.1.1.toNat).2.2.2) : Int) then some (((false, ()), ()), ()) else loopN (e12_0 L) k ((((), ()), ((), ()), (g.1.2.2.1.1, ()), ((), ()), ((), ()), ((0 : Int), ()), ()), ((g.2.1.1.1, g.2.1.1.2.1, g.2.1.1.2.2), ()), ((g.2.2.1.1.1, g.2.2.1.1.2.1, g.2.2.1.1.2.2), ()), (((gt ((Sh.int IntKind.i64).pair ((Sh.int IntKind.i64).pair ((Sh.int IntKind.i64).pair ((Sh.int IntKind.i64).pair (Sh.int IntKind.i64)).sl))) g.2.1.1.2.2 g.1.2.2.1.1.toNat).1, (gt ((Sh.int IntKind.i64).pair ((Sh.int IntKind.i64).pair ((Sh.int IntKind.i64).pair ((Sh.int IntKind.i64).pair (Sh.int IntKind.i64)).sl))) g.2.1.1.2.2 g.1.2.2.1.1.toNat).2.1, (gt ((Sh.int IntKind.i64).pair ((Sh.int IntKind.i64).pair ((Sh.int IntKind.i64).pair ((Sh.int IntKind.i64).pair (Sh.int IntKind.i64)).sl))) g.2.1.1.2.2 g.1.2.2.1.1.toNat).2.2.1, (gt ((Sh.int IntKind.i64).pair ((Sh.int IntKind.i64).pair ((Sh.int IntKind.i64).pair ((Sh.int IntKind.i64).pair (Sh.int IntKind.i64)).sl))) g.2.1.1.2.2 g.1.2.2.1.1.toNat).2.2.2), ()), (((gt ((Sh.int IntKind.i64).pair ((Sh.int IntKind.i64).pair ((Sh.int IntKind.i64).pair ((Sh.int IntKind.i64).pair (Sh.int IntKind.i64)).sl))) g.2.2.1.1.2.2 g.1.2.2.1.1.toNat).1, (gt ((Sh.int IntKind.i64).pair ((Sh.int IntKind.i64).pair ((Sh.int IntKind.i64).pair ((Sh.int IntKind.i64).pair (Sh.int IntKind.i64)).sl))) g.2.2.1.1.2.2 g.1.2.2.1.1.toNat).2.1, (gt ((Sh.int IntKind.i64).pair ((Sh.int IntKind.i64).pair ((Sh.int IntKind.i64).pair ((Sh.int IntKind.i64).pair (Sh.int IntKind.i64)).sl))) g.2.2.1.1.2.2 g.1.2.2.1.1.toNat).2.2.1, (gt ((Sh.int IntKind.i64).pair ((Sh.int IntKind.i64).pair ((Sh.int IntKind.i64).pair ((Sh.int IntKind.i64).pair (Sh.int IntKind.i64)).sl))) g.2.2.1.1.2.2 g.1.2.2.1.1.toNat).2.2.2), ()), ()) else none else none else some (((true, ()), ()), ())
theorem e12_eq (k : Nat) (m : Int × List Int × List (Int × Int × Int × List (Int × Int))) (m' : Int × List Int × List (Int × Int × Int × List (Int × Int))) : f12 k (((m, ()), (m', ()), ()), ()) = bif m.1 != m'.1 then some (((false, ()), ()), ()) else (f15 k (((m.2.1, ()), (m'.2.1, ()), ()), ())).bind fun v => bif !v.1.1.1 then some (((false, ()), ()), ()) else bif (↑m.2.2.length : Int) != (↑m'.2.2.length : Int) then some (((false, ()), ()), ()) else loopN (e12_1 k) k ((((), ()), ((), ()), ((0 : Int), ()), ()), ((m.1, m.2.1, m.2.2), ()), ((m'.1, m'.2.1, m'.2.2), ()), ()) := by kernel_rfl
def e15_0 (g : ((List Int × Unit) × (List Int × Unit) × (Int × Unit) × Unit) × Unit) (L : ((List Int × Unit) × (List Int × Unit) × (Int × Unit) × Unit) × Unit → Option (((Bool × Unit) × Unit) × Unit)) : Option (((Bool × Unit) × Unit) × Unit) := bif decide (g.1.2.2.1.1 < (↑g.1.1.1.length : Int)) then bif decide ((0 : Int) ≤ g.1.2.2.1.1 ∧ g.1.2.2.1.1 < (↑g.1.1.1.length : Int)) then bif decide ((0 : Int) ≤ g.1.2.2.1.1 ∧ g.1.2.2.1.1 < (↑g.1.2.1.1.length : Int)) then bif gt (Sh.int IntKind.u8) g.1.1.1 g.1.2.2.1.1.toNat != gt (Sh.int IntKind.u8) g.1.2.1.1 g.1.2.2.1.1.toNat then some (((false, ()), ()), ()) else L (((g.1.1.1, ()), (g.1.2.1.1, ()), (IntKind.i64.wrap (g.1.2.2.1.1 + (1 : Int)), ()), ()), ()) else none else none else some (((true, ()), ()), ())
theorem e15_eq (k : Nat) (a : List Int) (b : List Int) : f15 k (((a, ()), (b, ()), ()), ()) = bif (↑a.length : Int) != (↑b.length : Int) then some (((false, ()), ()), ()) else loopN e15_0 k (((a, ()), (b, ()), ((0 : Int), ()), ()), ()) := by kernel_rfl
theorem e3_eq (k : Nat) (b : List Int) : f3 k (((b, ()), ()), ()) = (f9 k ((), ())).bind fun v => bif !v.1.1.1 then some (((false, ()), ()), ()) else (f10 k (((b, ()), ()), ())).bind fun v_1 => (f11 k (((b, ()), ()), ())).bind fun v_2 => bif v_1.1.2.1.1.1 == v_2.1.2.1.1.1 && (v_1.1.2.1.1.2 == v_2.1.2.1.1.2 && true) then (f12 k ((((v_1.1.1.1.1, v_1.1.1.1.2.1, v_1.1.1.1.2.2), ()), ((v_2.1.1.1.1, v_2.1.1.1.2.1, v_2.1.1.1.2.2), ()), ()), ())).bind fun v => some (((v.1.1.1, ()), ()), ()) else some (((false, ()), ()), ()) := by kernel_rfl

abbrev Mod : Type := Int × List Int × List Fn
abbrev O (m : Mod) (f : Int × Int) : Option F10.post.T := some (((m, ()), (f, ()), ()), ())
/-- the same answer, and no long one -/
def Both (x y : Option F10.post.T) : Prop := ∃ (m : Mod) (fl : Int × Int), x = O m fl ∧ y = O m fl ∧ m.2.1.length ≤ 2000 ∧ m.2.2.length ≤ 100 ∧ ∀ f ∈ m.2.2, f.2.2.2.length ≤ 1000
theorem both_fault (p : Int) : Both (O (0, [], []) (120, p)) (O (0, [], []) (120, p)) := ⟨_, _, rfl, rfl, by simp, by simp, fun f hf => by cases hf⟩
abbrev HT : Type := ((List Int × Unit) × (Unit × Unit) × (Unit × Unit) × (Unit × Unit) × (Unit × Unit) × (Int × Unit) × Unit) × ((Int × List Int × List (Int × Int × Int × List (Int × Int))) × Unit) × ((Int × Int) × Unit) × ((List Int × Int × Bool) × Unit) × (Int × Unit × Unit × Unit) × List Int × List (Int × Int × Int × List (Int × Int)) × Unit
abbrev HA (n : Int) (b : List Int) (p : Int) (bad : Bool) (M : Int) (D : List Int) (Fs : List Fn) : HT := (((b, ()), ((), ()), ((), ()), ((), ()), ((), ()), (n, ()), ()), (((0 : Int), [], []), ()), (((0 : Int), (0 : Int)), ()), ((b, p, bad), ()), (M, (), (), ()), D, Fs, ())
abbrev HB (N i : Int) (b : List Int) (p : Int) (ok : Bool) (M : Int) (D : List Int) (Fs : List Fn) : ((List Int × Unit) × (Unit × Unit) × (Unit × Unit) × (Unit × Unit) × (Unit × Unit) × (Int × Unit) × (Int × Unit) × Unit) × ((Int × List Int × List (Int × Int × Int × List (Int × Int))) × Unit) × ((Int × Int) × Unit) × ((List Int × Int × Bool) × Unit) × (Int × Unit × Unit × Unit) × List Int × List (Int × Int × Int × List (Int × Int)) × Unit :=
  (((b, ()), ((), ()), ((), ()), ((), ()), ((), ()), (N, ()), (i, ()), ()), (((0 : Int), [], []), ()), (((0 : Int), (0 : Int)), ()), ((b, p, ok), ()), (M, (), (), ()), D, Fs, ())
theorem funcs_bad (k0 : Nat) (b b0 : List Int) (n N i p M M' : Int) (D D' : List Int) (Fs Fs' : List Fn) (k k' : Nat) (hk : 1 ≤ k) (hk' : 1 ≤ k') : Both (loopN (e10_0 k0 b0) k (HA n b p true M D Fs)) (loopN (e11_0 k0 b0) k' (HB N i b p false M' D' Fs')) := by
  obtain ⟨k, rfl⟩ : ∃ k2, k = k2 + 1 := ⟨k - 1, by omega⟩
  obtain ⟨k', rfl⟩ : ∃ k2, k' = k2 + 1 := ⟨k' - 1, by omega⟩
  have h1 : loopN (e10_0 k0 b0) (k + 1) (HA n b p true M D Fs) = O (0, [], []) (120, p) := by
    rw [loopN_succ, e10_0]
    simp only []
    by_cases h : n > 0
    · rw [cpos h, Bool.not_true, cond_false, cond_true]
    · rw [cneg h, cond_true]
  have h2 : loopN (e11_0 k0 b0) (k' + 1) (HB N i b p false M' D' Fs') = O (0, [], []) (120, p) := by
    rw [loopN_succ, e11_0]
    simp only []
    by_cases h : i < N
    · rw [cpos h, cond_false, Bool.not_false, cond_true]
    · rw [cneg h, Bool.not_false, cond_true]
  rw [h1, h2]; exact both_fault p
theorem bl48 {α : Type} {l : List Fn} {x : Fn} {a b : α} (h : l.length ≤ 1000) : cond (((l.length + [x].length) * 48).ble 140737488355328) a b = a := by
  have : ((l.length + [x].length) * 48).ble 140737488355328 = true := Nat.ble_eq ▸ (by rw [List.length_singleton]; omega)
  rw [this]; rfl
theorem bl1 {α : Type} {l : List Int} {x : Int} {a b : α} (h : l.length ≤ 100000) : cond (((l.length + [x].length) * 1).ble 140737488355328) a b = a := by
  have : ((l.length + [x].length) * 1).ble 140737488355328 = true := Nat.ble_eq ▸ (by rw [List.length_singleton]; omega)
  rw [this]; rfl
theorem funcs_loop (k0 : Nat) (b b0 : List Int) (hk0 : 2000 ≤ k0) (N M : Int) (D : List Int) (hD : D.length ≤ 2000) (hN : N ≤ 50) : ∀ (m : Nat) (i p : Int) (Fs : List Fn) (k k' : Nat), N - i ≤ m → 0 ≤ i → i ≤ 50 → m + 2 ≤ k → m + 2 ≤ k' → Pos b p → Fs.length ≤ i → (∀ f ∈ Fs, f.2.2.2.length ≤ 1000) →
    Both (loopN (e10_0 k0 b0) k (HA (N - i) b p false M D Fs)) (loopN (e11_0 k0 b0) k' (HB N i b p true M D Fs)) := by
  have fin : ∀ (i p : Int) (Fs : List Fn) (k k' : Nat), N - i ≤ 0 → i ≤ 50 → 1 ≤ k → 1 ≤ k' → Fs.length ≤ i → (∀ f ∈ Fs, f.2.2.2.length ≤ 1000) → Both (loopN (e10_0 k0 b0) k (HA (N - i) b p false M D Fs)) (loopN (e11_0 k0 b0) k' (HB N i b p true M D Fs)) := by
    intro i p Fs k k' hle hi2 hk hk' hl hF
    obtain ⟨k, rfl⟩ : ∃ k2, k = k2 + 1 := ⟨k - 1, by omega⟩
    obtain ⟨k', rfl⟩ : ∃ k2, k' = k2 + 1 := ⟨k' - 1, by omega⟩
    by_cases hp : p < (b.length : Int)
    · have h1 : loopN (e10_0 k0 b0) (k + 1) (HA (N - i) b p false M D Fs) = O (0, [], []) (120, p) := by
        rw [loopN_succ, e10_0]
        simp only []
        rw [cneg (by omega), cond_false, cpos hp]
      have h2 : loopN (e11_0 k0 b0) (k' + 1) (HB N i b p true M D Fs) = O (0, [], []) (120, p) := by
        rw [loopN_succ, e11_0]
        simp only []
        rw [cneg (by omega), Bool.not_true, cond_false, cpos hp]
      rw [h1, h2]; exact both_fault p
    · have h1 : loopN (e10_0 k0 b0) (k + 1) (HA (N - i) b p false M D Fs) = O (M, D, Fs) (0, 0) := by
        rw [loopN_succ, e10_0]
        simp only []
        rw [cneg (by omega), cond_false, cneg hp]
      have h2 : loopN (e11_0 k0 b0) (k' + 1) (HB N i b p true M D Fs) = O (M, D, Fs) (0, 0) := by
        rw [loopN_succ, e11_0]
        simp only []
        rw [cneg (by omega), Bool.not_true, cond_false, cneg hp]
      rw [h1, h2]; exact ⟨_, _, rfl, rfl, hD, by show Fs.length ≤ 100; omega, hF⟩
  intro m
  induction m with
  | zero => intro i p Fs k k' hm hi hi2 hk hk' hp hl hF; exact fin i p Fs k k' (by omega) hi2 (by omega) (by omega) hl hF
  | succ m ih =>
    intro i p Fs k k' hm hi hi2 hk hk' hp hl hF
    by_cases hle : N - i ≤ 0
    · exact fin i p Fs k k' hle hi2 (by omega) (by omega) hl hF
    obtain ⟨k, rfl⟩ : ∃ k2, k = k2 + 1 := ⟨k - 1, by omega⟩
    obtain ⟨k', rfl⟩ : ∃ k2, k' = k2 + 1 := ⟨k' - 1, by omega⟩
    obtain ⟨v, v', p', bad', g1, g2, g3, g4⟩ := func_ok k0 hp false hk0
    rw [Bool.not_false] at g2
    rw [loopN_succ, loopN_succ, e10_0, e11_0]
    simp only []
    rw [cpos (by omega), Bool.not_false, cond_true, cpos (by omega), cond_true, g1, g2, Option.bind_some, Option.bind_some]
    simp only []
    rw [bl48 (by omega), bl48 (by omega), wrapId (n := N - i - 1) (by omega) (by omega), wrapId (n := i + 1) (by omega) (by omega)]
    cases bad' with
    | true => exact funcs_bad k0 b b0 _ _ _ _ _ _ _ _ _ _ k k' (by omega) (by omega)
    | false =>
      obtain ⟨e1, e2⟩ := g4 rfl
      subst e1
      have := ih (i + 1) p' (Fs ++ [v]) k k' (by omega) (by omega) (by omega) (by omega) (by omega) g3 (by rw [List.length_append, List.length_singleton]; omega) (fun f hf => by
        cases List.mem_append.1 hf with
        | inl h => exact hF f h
        | inr h => rw [List.mem_singleton.1 h]; exact e2)
      rw [show N - (i + 1) = N - i - 1 by omega] at this
      exact this
abbrev HC (N i : Int) (b : List Int) (p : Int) (ok : Bool) (M : Int) (D : List Int) (Fs : List Fn) : ((List Int × Unit) × (Unit × Unit) × (Unit × Unit) × (Unit × Unit) × (Int × Unit) × (Unit × Unit) × (Int × Unit) × Unit) × ((Int × List Int × List (Int × Int × Int × List (Int × Int))) × Unit) × ((Int × Int) × Unit) × ((List Int × Int × Bool) × Unit) × (Int × Unit × Unit × Unit) × List Int × List (Int × Int × Int × List (Int × Int)) × Unit :=
  (((b, ()), ((), ()), ((), ()), ((), ()), (N, ()), ((), ()), (i, ()), ()), (((0 : Int), [], []), ()), (((0 : Int), (0 : Int)), ()), ((b, p, ok), ()), (M, (), (), ()), D, Fs, ())
theorem data_bad (k0 : Nat) (b b0 : List Int) (hk0 : 2000 ≤ k0) (n N i p M M' : Int) (hp : Pos b p) (D D' : List Int) (Fs Fs' : List Fn) (k k' : Nat) (hk : 1 ≤ k) (hk' : 1 ≤ k') : Both (loopN (e10_1 k0 b0) k (HA n b p true M D Fs)) (loopN (e11_1 k0 b0) k' (HC N i b p false M' D' Fs')) := by
  obtain ⟨k, rfl⟩ : ∃ k2, k = k2 + 1 := ⟨k - 1, by omega⟩
  obtain ⟨k', rfl⟩ : ∃ k2, k' = k2 + 1 := ⟨k' - 1, by omega⟩
  have ho := one_ok k0 hp true 1 16
  rw [Bool.not_true, nx_bad] at ho
  have h1 : loopN (e10_1 k0 b0) (k + 1) (HA n b p true M D Fs) = loopN (e10_0 k0 b0) k0 (HA 0 b p true M D Fs) := by
    rw [loopN_succ, e10_1]
    simp only []
    by_cases h : n > 0
    · rw [cpos h, Bool.not_true, cond_false, next_ok k0 hp, nx_bad, Option.bind_some]
    · rw [cneg h, next_ok k0 hp, nx_bad, Option.bind_some]
  have h2 : loopN (e11_1 k0 b0) (k' + 1) (HC N i b p false M' D' Fs') = loopN (e11_0 k0 b0) k0 (HB 0 0 b p false M' D' Fs') := by
    rw [loopN_succ, e11_1]
    simp only []
    by_cases h : i < N
    · rw [cpos h, cond_false, ho, Option.bind_some]; rfl
    · rw [cneg h, ho, Option.bind_some]; rfl
  rw [h1, h2]
  exact funcs_bad k0 b b0 _ _ _ _ _ _ _ _ _ _ k0 k0 (by omega) (by omega)
theorem wrapU8 {n : Int} (h : 0 ≤ n ∧ n < 256) : IntKind.u8.wrap n = n := by rw [IntKind.wrap_u8]; omega
theorem data_loop (k0 : Nat) (b b0 : List Int) (hk0 : 2000 ≤ k0) (N M : Int) (hN : N ≤ 1024) : ∀ (m : Nat) (i p : Int) (D : List Int) (k k' : Nat), N - i ≤ m → 0 ≤ i → i ≤ 1024 → m + 2 ≤ k → m + 2 ≤ k' → Pos b p → D.length ≤ i →
    Both (loopN (e10_1 k0 b0) k (HA (N - i) b p false M D [])) (loopN (e11_1 k0 b0) k' (HC N i b p true M D [])) := by
  have fin : ∀ (i p : Int) (D : List Int) (k k' : Nat), N - i ≤ 0 → i ≤ 1024 → 1 ≤ k → 1 ≤ k' → Pos b p → D.length ≤ i → Both (loopN (e10_1 k0 b0) k (HA (N - i) b p false M D [])) (loopN (e11_1 k0 b0) k' (HC N i b p true M D [])) := by
    intro i p D k k' hle hi2 hk hk' hp hl
    obtain ⟨k, rfl⟩ : ∃ k2, k = k2 + 1 := ⟨k - 1, by omega⟩
    obtain ⟨k', rfl⟩ : ∃ k2, k' = k2 + 1 := ⟨k' - 1, by omega⟩
    have ho := one_ok k0 hp false 1 16
    rw [Bool.not_false] at ho
    rw [loopN_succ, loopN_succ, e10_1, e11_1]
    simp only []
    rw [cneg (by omega), cneg (by omega), next_ok k0 hp, ho, Option.bind_some, Option.bind_some]
    simp only []
    have hnp := nx_pos hp false 1 16
    have hv := nx_val hp false 1 16
    generalize nx b p false 1 16 = w at *
    obtain ⟨n, p', bad'⟩ := w
    simp only [] at hnp hv ⊢
    cases bad' with
    | true => exact funcs_bad k0 b b0 _ _ _ _ _ _ _ _ _ _ k0 k0 (by omega) (by omega)
    | false =>
      have hb := hv.2.2 rfl
      have := funcs_loop k0 b b0 hk0 n M D (by omega) (by omega) 50 0 p' [] k0 k0 (by omega) (by omega) (by omega) (by omega) (by omega) hnp (by simp) (fun f hf => by cases hf)
      rw [show n - 0 = n by omega] at this
      exact this
  intro m
  induction m with
  | zero => intro i p D k k' hm hi hi2 hk hk' hp hl; exact fin i p D k k' (by omega) hi2 (by omega) (by omega) hp hl
  | succ m ih =>
    intro i p D k k' hm hi hi2 hk hk' hp hl
    by_cases hle : N - i ≤ 0
    · exact fin i p D k k' hle hi2 (by omega) (by omega) hp hl
    obtain ⟨k, rfl⟩ : ∃ k2, k = k2 + 1 := ⟨k - 1, by omega⟩
    obtain ⟨k', rfl⟩ : ∃ k2, k' = k2 + 1 := ⟨k' - 1, by omega⟩
    have ho := one_ok k0 hp false 0 255
    rw [Bool.not_false] at ho
    rw [loopN_succ, loopN_succ, e10_1, e11_1]
    simp only []
    rw [cpos (by omega), Bool.not_false, cond_true, cpos (by omega), cond_true, next_ok k0 hp, ho, Option.bind_some, Option.bind_some]
    simp only []
    have hnp := nx_pos hp false 0 255
    generalize nx b p false 0 255 = w at *
    obtain ⟨c, p', bad'⟩ := w
    simp only [] at hnp ⊢
    rw [bl1 (by omega), bl1 (by omega), wrapId (n := N - i - 1) (by omega) (by omega), wrapId (n := i + 1) (by omega) (by omega)]
    cases bad' with
    | true => exact data_bad k0 b b0 hk0 _ _ _ _ _ _ hnp _ _ _ _ k k' (by omega) (by omega)
    | false =>
      have := ih (i + 1) p' (D ++ [IntKind.u8.wrap c]) k k' (by omega) (by omega) (by omega) (by omega) (by omega) hnp (by rw [List.length_append, List.length_singleton]; omega)
      rw [show N - (i + 1) = N - i - 1 by omega] at this
      exact this
theorem tw_rng {b : List Int} {p : Int} (h : Pos b p) (bad : Bool) (lo hi : Int) : 0 ≤ (tw b p bad lo hi).1 ∧ (tw b p bad lo hi).1 ≤ 65535 := by
  unfold tw
  have hv := nx_val h bad 0 (min hi 255)
  have hp := nx_pos h bad 0 (min hi 255)
  generalize nx b p bad 0 (min hi 255) = q at *
  have hv2 := nx_val hp q.2.2 (if q.1 < lo then 1 else 0) ((hi - q.1) / 256)
  simp only []
  omega
theorem tw_bad {b : List Int} {p lo hi : Int} : tw b p true lo hi = (0, p, true) := rfl
abbrev sgn : List Int := [67, 83, 77, 1]
abbrev HD (i : Int) (b : List Int) (p : Int) (bad : Bool) : ((List Int × Unit) × (Unit × Unit) × (Unit × Unit) × (Unit × Unit) × (Unit × Unit) × (Int × Unit) × (Int × Unit) × Unit) × ((Int × List Int × List (Int × Int × Int × List (Int × Int))) × Unit) × ((Int × Int) × Unit) × ((List Int × Int × Bool) × Unit) × List Int × Unit :=
  (((b, ()), ((), ()), ((), ()), ((), ()), ((), ()), ((4 : Int), ()), (i, ()), ()), (((0 : Int), [], []), ()), (((0 : Int), (0 : Int)), ()), ((b, p, bad), ()), sgn, ())
abbrev HE (i : Int) (b : List Int) (p : Int) (ok : Bool) : ((List Int × Unit) × (Unit × Unit) × (Unit × Unit) × (Unit × Unit) × (Unit × Unit) × (Int × Unit) × Unit) × ((Int × List Int × List (Int × Int × Int × List (Int × Int))) × Unit) × ((Int × Int) × Unit) × ((List Int × Int × Bool) × Unit) × List Int × Unit :=
  (((b, ()), ((), ()), ((), ()), ((), ()), ((), ()), (i, ()), ()), (((0 : Int), [], []), ()), (((0 : Int), (0 : Int)), ()), ((b, p, ok), ()), sgn, ())
theorem head_loop (k0 : Nat) (b b0 : List Int) (hk0 : 2000 ≤ k0) : ∀ (m i : Nat) (p : Int) (bad : Bool) (k k' : Nat), m + i = 4 → m + 2 ≤ k → m + 2 ≤ k' → Pos b p →
    Both (loopN (e10_2 k0 b0) k (HD i b p bad)) (loopN (e11_2 k0 b0) k' (HE i b p (!bad))) := by
  intro m
  induction m with
  | zero =>
    intro i p bad k k' hm hk hk' hp
    obtain ⟨k, rfl⟩ : ∃ k2, k = k2 + 1 := ⟨k - 1, by omega⟩
    obtain ⟨k', rfl⟩ : ∃ k2, k' = k2 + 1 := ⟨k' - 1, by omega⟩
    rw [loopN_succ, loopN_succ, e10_2, e11_2]
    simp only []
    rw [cneg (by omega), cneg (by omega), two_ok k0 hp bad (by omega), pair_ok k0 hp bad (by omega) (.inl rfl) (by omega), Option.bind_some, Option.bind_some]
    simp only []
    have h1 := tw_pos hp bad 0 1024
    have hr := tw_rng hp bad 0 1024
    have hl := tw_le hp bad 0 1024
    generalize tw b p bad 0 1024 = w at *
    obtain ⟨mem, p1, bad1⟩ := w
    simp only [] at h1 hr hl ⊢
    rw [two_ok k0 h1 bad1 (by omega), Option.bind_some]
    simp only []
    cases bad1 with
    | true =>
      have hq := pair_ok k0 h1 true (lo := 0) (hi := 0) (by omega) (.inl rfl) (by omega)
      rw [tw_bad, Bool.not_true] at hq
      rw [if_pos rfl, tw_bad, Bool.not_true, hq, Option.bind_some]
      exact data_bad k0 b b0 hk0 _ _ _ _ _ _ h1 _ _ _ _ k0 k0 (by omega) (by omega)
    | false =>
      have hl1 := hl rfl
      have hq := pair_ok k0 h1 false (lo := 0) (hi := mem) (by omega) (.inl rfl) (by omega)
      rw [if_neg Bool.false_ne_true, hq, Option.bind_some]
      simp only []
      have h2 := tw_pos h1 false 0 mem
      have hl2 := tw_le h1 false 0 mem
      generalize tw b p1 false 0 mem = w at *
      obtain ⟨N, p2, bad2⟩ := w
      simp only [] at h2 hl2 ⊢
      cases bad2 with
      | true => exact data_bad k0 b b0 hk0 _ _ _ _ _ _ h2 _ _ _ _ k0 k0 (by omega) (by omega)
      | false =>
        have hl3 := hl2 rfl
        have := data_loop k0 b b0 hk0 N mem (by omega) 1024 0 p2 [] k0 k0 (by omega) (by omega) (by omega) (by omega) (by omega) h2 (by simp)
        rw [show N - 0 = N by omega] at this
        exact this
  | succ m ih =>
    intro i p bad k k' hm hk hk' hp
    obtain ⟨k, rfl⟩ : ∃ k2, k = k2 + 1 := ⟨k - 1, by omega⟩
    obtain ⟨k', rfl⟩ : ∃ k2, k' = k2 + 1 := ⟨k' - 1, by omega⟩
    have hi : i < 4 := by omega
    have cl : (0 : Int) ≤ (i : Int) ∧ (i : Int) < (sgn.length : Int) := by show (0 : Int) ≤ (i : Int) ∧ (i : Int) < 4; omega
    rw [loopN_succ, loopN_succ, e10_2, e11_2]
    simp only []
    rw [cpos (by omega), cpos cl, cpos (by omega), cpos cl, cpos cl, next_ok k0 hp, one_ok k0 hp, Option.bind_some, Option.bind_some]
    simp only []
    rw [wrapId (by omega) (by omega), show ((i : Int) + 1) = ((i + 1 : Nat) : Int) by omega]
    exact ih (i + 1) _ _ k k' (by omega) (by omega) (by omega) (nx_pos hp _ _ _)
theorem decode_both (k : Nat) (b : List Int) (hb : ∀ x ∈ b, U8 x) (hk : 2000 ≤ k) : Both (f10 k (((b, ()), ()), ())) (f11 k (((b, ()), ()), ())) := by
  rw [e10_eq, e11_eq]
  by_cases h : (b.length : Int) > 4096
  · rw [cpos h, cpos h]
    exact ⟨(0, [], []), (2, 0), rfl, rfl, by simp, by simp, fun f hf => by cases hf⟩
  · rw [cneg h, cneg h]
    exact head_loop k b b hk 4 0 0 false k k rfl (by omega) (by omega) ⟨Int.le_refl _, by omega, by omega, hb⟩
/-! the same modules -/
theorem sameb_ok (k : Nat) (xs : List Int) (hl : xs.length ≤ 2000) (hk : xs.length + 1 ≤ k) : f15 k (((xs, ()), (xs, ()), ()), ()) = some (((true, ()), ()), ()) := by
  have loop : ∀ (n i : Nat) (k : Nat), xs.length - i ≤ n → xs.length - i + 1 ≤ k → loopN e15_0 k (((xs, ()), (xs, ()), ((i : Int), ()), ()), ()) = some (((true, ()), ()), ()) := by
    intro n
    induction n with
    | zero =>
      intro i k hn hk
      obtain ⟨k, rfl⟩ : ∃ k2, k = k2 + 1 := ⟨k - 1, by omega⟩
      rw [loopN_succ, e15_0]
      simp only []
      rw [cneg (by omega)]
    | succ n ih =>
      intro i k hn hk
      obtain ⟨k, rfl⟩ : ∃ k2, k = k2 + 1 := ⟨k - 1, by omega⟩
      rw [loopN_succ, e15_0]
      simp only []
      by_cases h0 : xs.length ≤ i
      · rw [cneg (by omega)]
      · rw [cpos (by omega), cpos (by omega), cpos (by omega), bne_self_eq_false, cond_false, wrapId (by omega) (by omega), show ((i : Int) + 1) = ((i + 1 : Nat) : Int) by omega]
        exact ih (i + 1) k (by omega) (by omega)
  rw [e15_eq, bne_self_eq_false, cond_false]
  exact loop xs.length 0 k (by omega) (by omega)
theorem gt_fn {Fs : List Fn} {i : Nat} (h : i < Fs.length) : gt S44 Fs i = Fs[i] := by simp [gt, h]
theorem code_loop (L : ((Unit × Unit) × (Unit × Unit) × (Int × Unit) × Unit) × ((Int × List Int × List (Int × Int × Int × List (Int × Int))) × Unit) × ((Int × List Int × List (Int × Int × Int × List (Int × Int))) × Unit) × Unit → Option (((Bool × Unit) × Unit) × Unit)) (m : Mod) (f : Fn) (i : Int) (hf : f.2.2.2.length ≤ 1000) : ∀ (n j : Nat) (k : Nat), f.2.2.2.length - j ≤ n → f.2.2.2.length - j + 1 ≤ k →
    loopN (e12_0 L) k ((((), ()), ((), ()), (i, ()), ((), ()), ((), ()), ((j : Int), ()), ()), (m, ()), (m, ()), (f, ()), (f, ()), ()) = L ((((), ()), ((), ()), (IntKind.i64.wrap (i + 1), ()), ()), (m, ()), (m, ()), ()) := by
  intro n
  induction n with
  | zero =>
    intro j k hn hk
    obtain ⟨k, rfl⟩ : ∃ k2, k = k2 + 1 := ⟨k - 1, by omega⟩
    rw [loopN_succ, e12_0]
    simp only []
    rw [cneg (by omega)]
  | succ n ih =>
    intro j k hn hk
    obtain ⟨k, rfl⟩ : ∃ k2, k = k2 + 1 := ⟨k - 1, by omega⟩
    rw [loopN_succ, e12_0]
    simp only []
    by_cases h0 : f.2.2.2.length ≤ j
    · rw [cneg (by omega)]
    · rw [cpos (by omega), cpos (by omega), cpos (by omega), beq_self_eq_true, beq_self_eq_true, wrapId (n := (j : Int) + 1) (by omega) (by omega), show ((j : Int) + 1) = ((j + 1 : Nat) : Int) by omega]
      exact ih (j + 1) k (by omega) (by omega)
theorem funcs_same (k0 : Nat) (hk0 : 2000 ≤ k0) (m : Mod) (hF : ∀ f ∈ m.2.2, f.2.2.2.length ≤ 1000) (hl : m.2.2.length ≤ 100) : ∀ (n i : Nat) (k : Nat), m.2.2.length - i ≤ n → m.2.2.length - i + 1 ≤ k →
    loopN (e12_1 k0) k ((((), ()), ((), ()), ((i : Int), ()), ()), (m, ()), (m, ()), ()) = some (((true, ()), ()), ()) := by
  intro n
  induction n with
  | zero =>
    intro i k hn hk
    obtain ⟨k, rfl⟩ : ∃ k2, k = k2 + 1 := ⟨k - 1, by omega⟩
    rw [loopN_succ, e12_1]
    simp only []
    rw [cneg (by omega)]
  | succ n ih =>
    intro i k hn hk
    obtain ⟨k, rfl⟩ : ∃ k2, k = k2 + 1 := ⟨k - 1, by omega⟩
    rw [loopN_succ, e12_1]
    simp only []
    by_cases h0 : m.2.2.length ≤ i
    · rw [cneg (by omega)]
    · have hlt : i < m.2.2.length := by omega
      have hc := code_loop (loopN (e12_1 k0) k) m m.2.2[i] (i : Int) (hF _ (List.getElem_mem hlt)) 1000 0 k0 (by have := hF _ (List.getElem_mem hlt); omega) (by have := hF _ (List.getElem_mem hlt); omega)
      rw [cpos (by omega), cpos (by omega), cpos (by omega), show ((i : Int)).toNat = i from Int.toNat_natCast i]
      have hg : gt ((Sh.int IntKind.i64).pair ((Sh.int IntKind.i64).pair ((Sh.int IntKind.i64).pair ((Sh.int IntKind.i64).pair (Sh.int IntKind.i64)).sl))) m.2.2 i = m.2.2[i] := gt_fn hlt
      rw [hg, bne_self_eq_false, cond_false, bne_self_eq_false, cond_false, bne_self_eq_false, cond_false, bne_self_eq_false, cond_false]
      refine Eq.trans hc ?_
      rw [wrapId (n := (i : Int) + 1) (by omega) (by omega), show ((i : Int) + 1) = ((i + 1 : Nat) : Int) by omega]
      exact ih (i + 1) k (by omega) (by omega)
theorem same_ok (k : Nat) (hk : 3000 ≤ k) (m : Mod) (hD : m.2.1.length ≤ 2000) (hl : m.2.2.length ≤ 100) (hF : ∀ f ∈ m.2.2, f.2.2.2.length ≤ 1000) : f12 k (((m, ()), (m, ()), ()), ()) = some (((true, ()), ()), ()) := by
  rw [e12_eq, bne_self_eq_false, cond_false, sameb_ok k _ hD (by omega), Option.bind_some]
  simp only [Bool.not_true, cond_false]
  rw [bne_self_eq_false, cond_false]
  exact funcs_same k (by omega) m hF hl m.2.2.length 0 k (by omega) (by omega)
theorem decodes_at (k : Nat) (hk : 3000 ≤ k) (b : List Int) (hb : ∀ x ∈ b, U8 x) : f3 (k + 30) (((b, ()), ()), ()) = some (((true, ()), ()), ()) := by
  obtain ⟨m, fl, h1, h2, h3, h4, h5⟩ := decode_both (k + 30) b hb (by omega)
  rw [e3_eq, alive, Option.bind_some]
  simp only [Bool.not_true, cond_false]
  rw [h1, h2, Option.bind_some, Option.bind_some]
  simp only [beq_self_eq_true, Bool.and_true, Bool.and_self, cond_true]
  have := same_ok (k + 30) (by omega) m h3 h4 h5
  rw [this, Option.bind_some]
theorem law3 (k : Nat) : ∀ e ∈ [Fm.entry Try.prog F9 9 (f9 k), Fm.entry Try.prog F10 10 (f10 k), Fm.entry Try.prog F11 11 (f11 k), Fm.entry Try.prog F12 12 (f12 k)], EGood Try.prog e := (goods_cons (g9 k) (goods_cons (g10 k) (goods_cons (g11 k) (goods_cons (g12 k) goods_nil))))
theorem u8_of {n : Int} (h : (Lit.int .u8 n).wf = true) : U8 n := by
  simp only [Lit.wf, Bool.and_eq_true, decide_eq_true_eq] at h
  have h1 : 0 ≤ n := h.1
  have h2 : n ≤ 255 := h.2
  exact ⟨h1, by omega⟩
theorem moduleDecodes (b : List Int) (hb : ∀ x ∈ b, (Lit.int .u8 x).wf = true) (_ : b.length * 1 ≤ 140737488351232) : f3 (b.length + 3000 + 30) (((b, ()), ()), ()) = some (((true, ()), ()), ()) :=
  decodes_at _ (Nat.le_add_left _ _) b fun x hx => u8_of (hb x hx)
end
end Go.Proofs.Ytbdkphjpdoajpaa.Md
