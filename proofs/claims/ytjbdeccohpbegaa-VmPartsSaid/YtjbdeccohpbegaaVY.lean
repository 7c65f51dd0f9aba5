import Derived.Test.YtjbdeccohpbegaaVPZ
import Derived.Test.YtjbdeccohpbegaaVAl
namespace Go.Proofs.Ytjbdeccohpbegaa.Vm
open Go Go.RowKit Go.Proofs Go.Proofs.Ytjbdeccohpbegaa.X
set_option linter.unusedVariables false
set_option linter.unusedSimpArgs false
noncomputable section
/-! VmEnds -/
def e12_0 (g : ((List Int × Unit) × (List Int × Unit) × (Int × Unit) × Unit) × Unit) (L : ((List Int × Unit) × (List Int × Unit) × (Int × Unit) × Unit) × Unit → Option (((Bool × Unit) × Unit) × Unit)) : Option (((Bool × Unit) × Unit) × Unit) := bif decide (g.1.2.2.1.1 < (↑g.1.1.1.length : Int)) then bif decide ((0 : Int) ≤ g.1.2.2.1.1 ∧ g.1.2.2.1.1 < (↑g.1.1.1.length : Int)) then bif decide ((0 : Int) ≤ g.1.2.2.1.1 ∧ g.1.2.2.1.1 < (↑g.1.2.1.1.length : Int)) then bif ia g.1.1.1 g.1.2.2.1.1.toNat != ia g.1.2.1.1 g.1.2.2.1.1.toNat then some (((false, ()), ()), ()) else L (((g.1.1.1, ()), (g.1.2.1.1, ()), (IntKind.i64.wrap (g.1.2.2.1.1 + (1 : Int)), ()), ()), ()) else none else none else some (((true, ()), ()), ())
theorem e12_eq (k : Nat) (a : List Int) (b : List Int) : f12 k (((a, ()), (b, ()), ()), ()) = bif (↑a.length : Int) != (↑b.length : Int) then some (((false, ()), ()), ()) else loopN e12_0 k (((a, ()), (b, ()), ((0 : Int), ()), ()), ()) := by kernel_rfl
theorem e104_eq (k : Nat) (m : Int) (d : List Int) (l : Fs) (n : Int) (v : Int) : f104 k ((((m, d, l), ()), (n, ()), (v, ()), ()), ()) = (f8 k ((), ())).bind fun v_1 => bif !v_1.1.1.1 then some (((false, ()), ()), ()) else (f109 k ((((m, d, l), ()), ()), ())).bind fun v => bif v.1.2.1.1 != (0 : Int) then some (((v.1.2.1.1 == (130 : Int), ()), ()), ()) else some (((v.1.2.1.1 == (130 : Int), ()), ()), ()) := by kernel_rfl
def e4_0 (k : Nat) (m : Int) (d : List Int) (l : Fs) (n : Int) (v : Int) (g : ((Int × Unit) × (Int × Unit) × (Unit × Unit) × (Int × Unit) × Unit) × ((Int × List Int × Fs) × Unit × Unit × (Bool × Int × List Int × Int) × Unit) × List Int × Fr × Unit) (L : ((Int × Unit) × (Int × Unit) × (Unit × Unit) × (Int × Unit) × Unit) × ((Int × List Int × Fs) × Unit × Unit × (Bool × Int × List Int × Int) × Unit) × List Int × Fr × Unit → Option (((Bool × Unit) × Unit) × Unit)) : Option (((Bool × Unit) × Unit) × Unit) := bif decide (g.1.2.2.2.1.1 < (30 : Int)) then (f16 k ((((), ()), (g.1.1.1, ()), ()), ((g.2.1.1.1, g.2.1.1.2.1, g.2.1.1.2.2), (), (), (g.2.1.2.2.2.1.1, g.2.1.2.2.2.1.2.1, g.2.1.2.2.2.1.2.2.1, g.2.1.2.2.2.1.2.2.2), ()), g.2.2.1, g.2.2.2.1, ())).bind fun v_1 => bif decide (v_1.1.1.1.2.2.1 > imin (imax g.1.1.1 (0 : Int)) (5000 : Int)) then some (((false, ()), ()), ()) else (f16 k ((((), ()), ((0 : Int), ()), ()), ((v_1.2.1.1.1, v_1.2.1.1.2.1, v_1.2.1.1.2.2), (), (), (v_1.2.1.2.2.2.1.1, v_1.2.1.2.2.2.1.2.1, v_1.2.1.2.2.2.1.2.2.1, v_1.2.1.2.2.2.1.2.2.2), ()), v_1.2.2.1, v_1.2.2.2.2.1, ())).bind fun v_2 => bif v_1.1.1.1.1 == (1 : Int) then bif v_2.1.1.1.1 == (0 : Int) then (f17 k ((((), ()), ()), ((v_2.2.1.1.1, v_2.2.1.1.2.1, v_2.2.1.1.2.2), (), (), (v_2.2.1.2.2.2.1.1, v_2.2.1.2.2.2.1.2.1, v_2.2.1.2.2.2.1.2.2.1, v_2.2.1.2.2.2.1.2.2.2), ()), v_2.2.2.1, v_2.2.2.2.2.1, ())).bind fun v_3 => bif !v_3.1.1.1 then (f10 k ((((), ()), (g.1.2.1.1, ()), ((1 : Int), ()), ((2 : Int), ()), ()), ((v_2.2.1.1.1, v_2.2.1.1.2.1, v_2.2.1.1.2.2), (), (), (v_2.2.1.2.2.2.1.1, v_2.2.1.2.2.2.1.2.1, v_2.2.1.2.2.2.1.2.2.1, v_2.2.1.2.2.2.1.2.2.2), ()), v_2.2.2.1, v_2.2.2.2.2.1, ())).bind fun v => some (((v.1.1.1 == (0 : Int), ()), ()), ()) else some (((false, ()), ()), ()) else some (((false, ()), ()), ()) else bif v_1.1.1.1.1 == (4 : Int) then (f16 k ((((), ()), ((50 : Int), ()), ()), ((v_2.2.1.1.1, v_2.2.1.1.2.1, v_2.2.1.1.2.2), (), (), (v_2.2.1.2.2.2.1.1, v_2.2.1.2.2.2.1.2.1, v_2.2.1.2.2.2.1.2.2.1, v_2.2.1.2.2.2.1.2.2.2), ()), v_2.2.2.1, v_2.2.2.2.2.1, ())).bind fun v_3 => bif v_2.1.1.1.1 == (4 : Int) then bif v_2.1.1.1.2.1 == v_1.1.1.1.2.1 then bif decide (v_1.1.1.1.2.1 ≥ (1 : Int)) then bif decide (v_1.1.1.1.2.1 ≤ (4 : Int)) then bif v_3.1.1.1.1 == (4 : Int) then bif v_3.1.1.1.2.2.1 == (0 : Int) then (f17 k ((((), ()), ()), ((v_3.2.1.1.1, v_3.2.1.1.2.1, v_3.2.1.1.2.2), (), (), (v_3.2.1.2.2.2.1.1, v_3.2.1.2.2.2.1.2.1, v_3.2.1.2.2.2.1.2.2.1, v_3.2.1.2.2.2.1.2.2.2), ()), v_3.2.2.1, v_3.2.2.2.2.1, ())).bind fun v_4 => bif !v_4.1.1.1 then (f10 k ((((), ()), (g.1.2.1.1, ()), (g.1.2.1.1, ()), (g.1.2.1.1, ()), ()), ((v_3.2.1.1.1, v_3.2.1.1.2.1, v_3.2.1.1.2.2), (), (), (v_3.2.1.2.2.2.1.1, v_3.2.1.2.2.2.1.2.1, v_3.2.1.2.2.2.1.2.2.1, v_3.2.1.2.2.2.1.2.2.2), ()), v_3.2.2.1, v_3.2.2.2.2.1, ())).bind fun v_5 => bif v_5.1.1.1 == (1 : Int) then (f15 k ((((), ()), (g.1.2.1.1, ()), ()), ((v_5.2.1.1.1, v_5.2.1.1.2.1, v_5.2.1.1.2.2), (), (), (v_5.2.1.2.2.2.1.1, v_5.2.1.2.2.2.1.2.1, v_5.2.1.2.2.2.1.2.2.1, v_5.2.1.2.2.2.1.2.2.2), ()), v_5.2.2.1, v_5.2.2.2.2.1, ())).bind fun v => some (((v.1.1.1 == (1 : Int), ()), ()), ()) else some (((false, ()), ()), ()) else some (((false, ()), ()), ()) else some (((false, ()), ()), ()) else some (((false, ()), ()), ()) else some (((false, ()), ()), ()) else some (((false, ()), ()), ()) else some (((false, ()), ()), ()) else some (((false, ()), ()), ()) else bif v_1.1.1.1.1 == (3 : Int) then (f16 k ((((), ()), ((50 : Int), ()), ()), ((v_2.2.1.1.1, v_2.2.1.1.2.1, v_2.2.1.1.2.2), (), (), (v_2.2.1.2.2.2.1.1, v_2.2.1.2.2.2.1.2.1, v_2.2.1.2.2.2.1.2.2.1, v_2.2.1.2.2.2.1.2.2.2), ()), v_2.2.2.1, v_2.2.2.2.2.1, ())).bind fun v_3 => bif v_2.1.1.1.1 != (3 : Int) then some (((false, ()), ()), ()) else bif v_3.1.1.1.1 != (3 : Int) then some (((false, ()), ()), ()) else bif v_3.1.1.1.2.2.1 != (0 : Int) then some (((false, ()), ()), ()) else bif v_3.1.1.1.2.2.2.1 != v_1.1.1.1.2.2.2.1 then some (((false, ()), ()), ()) else (f12 k (((v_3.1.1.1.2.2.2.2, ()), (v_1.1.1.1.2.2.2.2, ()), ()), ())).bind fun v_4 => bif !v_4.1.1.1 then some (((false, ()), ()), ()) else (f17 k ((((), ()), ()), ((v_3.2.1.1.1, v_3.2.1.1.2.1, v_3.2.1.1.2.2), (), (), (v_3.2.1.2.2.2.1.1, v_3.2.1.2.2.2.1.2.1, v_3.2.1.2.2.2.1.2.2.1, v_3.2.1.2.2.2.1.2.2.2), ()), v_3.2.2.1, v_3.2.2.2.2.1, ())).bind fun v_5 => bif !v_5.1.1.1 then some (((false, ()), ()), ()) else (f15 k ((((), ()), (g.1.2.1.1, ()), ()), ((v_3.2.1.1.1, v_3.2.1.1.2.1, v_3.2.1.1.2.2), (), (), (v_3.2.1.2.2.2.1.1, v_3.2.1.2.2.2.1.2.1, v_3.2.1.2.2.2.1.2.2.1, v_3.2.1.2.2.2.1.2.2.2), ()), v_3.2.2.1, v_3.2.2.2.2.1, ())).bind fun v_6 => bif v_6.1.1.1 != (0 : Int) then some (((false, ()), ()), ()) else (f15 k ((((), ()), (g.1.2.1.1, ()), ()), ((v_6.2.1.1.1, v_6.2.1.1.2.1, v_6.2.1.1.2.2), (), (), (v_6.2.1.2.2.2.1.1, v_6.2.1.2.2.2.1.2.1, v_6.2.1.2.2.2.1.2.2.1, v_6.2.1.2.2.2.1.2.2.2), ()), v_6.2.2.1, v_6.2.2.2.1, ())).bind fun v => bif v.1.1.1 != (1 : Int) then some (((false, ()), ()), ()) else L (((g.1.1.1, ()), (g.1.2.1.1, ()), ((), ()), (IntKind.i64.wrap (g.1.2.2.2.1.1 + (1 : Int)), ()), ()), ((v.2.1.1.1, v.2.1.1.2.1, v.2.1.1.2.2), (), (), (v.2.1.2.2.2.1.1, v.2.1.2.2.2.1.2.1, v.2.1.2.2.2.1.2.2.1, v.2.1.2.2.2.1.2.2.2), ()), v.2.2.1, v.2.2.2.1, ()) else bif v_1.1.1.1.1 == (2 : Int) then bif v_2.1.1.1.1 != (2 : Int) then some (((false, ()), ()), ()) else bif v_2.1.1.1.2.2.1 != (0 : Int) then some (((false, ()), ()), ()) else bif v_1.1.1.1.2.2.1 != imin (imax g.1.1.1 (0 : Int)) (5000 : Int) then some (((false, ()), ()), ()) else L (((g.1.1.1, ()), (g.1.2.1.1, ()), ((), ()), (IntKind.i64.wrap (g.1.2.2.2.1.1 + (1 : Int)), ()), ()), ((v_2.2.1.1.1, v_2.2.1.1.2.1, v_2.2.1.1.2.2), (), (), (v_2.2.1.2.2.2.1.1, v_2.2.1.2.2.2.1.2.1, v_2.2.1.2.2.2.1.2.2.1, v_2.2.1.2.2.2.1.2.2.2), ()), v_2.2.2.1, v_2.2.2.2.2.1, ()) else some (((false, ()), ()), ()) else some (((true, ()), ()), ())
def e4_0g (k : Nat) (q8 : F8.pre.T → Option F8.post.T) (q9 : F9.pre.T → Option F9.post.T) (q16 : F16.pre.T → Option F16.post.T) (q15 : F15.pre.T → Option F15.post.T) (q17 : F17.pre.T → Option F17.post.T) (q10 : F10.pre.T → Option F10.post.T) (q12 : F12.pre.T → Option F12.post.T) (m : Int) (d : List Int) (l : Fs) (n : Int) (v : Int) (g : ((Int × Unit) × (Int × Unit) × (Unit × Unit) × (Int × Unit) × Unit) × ((Int × List Int × Fs) × Unit × Unit × (Bool × Int × List Int × Int) × Unit) × List Int × Fr × Unit) (L : ((Int × Unit) × (Int × Unit) × (Unit × Unit) × (Int × Unit) × Unit) × ((Int × List Int × Fs) × Unit × Unit × (Bool × Int × List Int × Int) × Unit) × List Int × Fr × Unit → Option (((Bool × Unit) × Unit) × Unit)) : Option (((Bool × Unit) × Unit) × Unit) := bif decide (g.1.2.2.2.1.1 < (30 : Int)) then (q16 ((((), ()), (g.1.1.1, ()), ()), ((g.2.1.1.1, g.2.1.1.2.1, g.2.1.1.2.2), (), (), (g.2.1.2.2.2.1.1, g.2.1.2.2.2.1.2.1, g.2.1.2.2.2.1.2.2.1, g.2.1.2.2.2.1.2.2.2), ()), g.2.2.1, g.2.2.2.1, ())).bind fun v_1 => bif decide (v_1.1.1.1.2.2.1 > imin (imax g.1.1.1 (0 : Int)) (5000 : Int)) then some (((false, ()), ()), ()) else (q16 ((((), ()), ((0 : Int), ()), ()), ((v_1.2.1.1.1, v_1.2.1.1.2.1, v_1.2.1.1.2.2), (), (), (v_1.2.1.2.2.2.1.1, v_1.2.1.2.2.2.1.2.1, v_1.2.1.2.2.2.1.2.2.1, v_1.2.1.2.2.2.1.2.2.2), ()), v_1.2.2.1, v_1.2.2.2.2.1, ())).bind fun v_2 => bif v_1.1.1.1.1 == (1 : Int) then bif v_2.1.1.1.1 == (0 : Int) then (q17 ((((), ()), ()), ((v_2.2.1.1.1, v_2.2.1.1.2.1, v_2.2.1.1.2.2), (), (), (v_2.2.1.2.2.2.1.1, v_2.2.1.2.2.2.1.2.1, v_2.2.1.2.2.2.1.2.2.1, v_2.2.1.2.2.2.1.2.2.2), ()), v_2.2.2.1, v_2.2.2.2.2.1, ())).bind fun v_3 => bif !v_3.1.1.1 then (q10 ((((), ()), (g.1.2.1.1, ()), ((1 : Int), ()), ((2 : Int), ()), ()), ((v_2.2.1.1.1, v_2.2.1.1.2.1, v_2.2.1.1.2.2), (), (), (v_2.2.1.2.2.2.1.1, v_2.2.1.2.2.2.1.2.1, v_2.2.1.2.2.2.1.2.2.1, v_2.2.1.2.2.2.1.2.2.2), ()), v_2.2.2.1, v_2.2.2.2.2.1, ())).bind fun v => some (((v.1.1.1 == (0 : Int), ()), ()), ()) else some (((false, ()), ()), ()) else some (((false, ()), ()), ()) else bif v_1.1.1.1.1 == (4 : Int) then (q16 ((((), ()), ((50 : Int), ()), ()), ((v_2.2.1.1.1, v_2.2.1.1.2.1, v_2.2.1.1.2.2), (), (), (v_2.2.1.2.2.2.1.1, v_2.2.1.2.2.2.1.2.1, v_2.2.1.2.2.2.1.2.2.1, v_2.2.1.2.2.2.1.2.2.2), ()), v_2.2.2.1, v_2.2.2.2.2.1, ())).bind fun v_3 => bif v_2.1.1.1.1 == (4 : Int) then bif v_2.1.1.1.2.1 == v_1.1.1.1.2.1 then bif decide (v_1.1.1.1.2.1 ≥ (1 : Int)) then bif decide (v_1.1.1.1.2.1 ≤ (4 : Int)) then bif v_3.1.1.1.1 == (4 : Int) then bif v_3.1.1.1.2.2.1 == (0 : Int) then (q17 ((((), ()), ()), ((v_3.2.1.1.1, v_3.2.1.1.2.1, v_3.2.1.1.2.2), (), (), (v_3.2.1.2.2.2.1.1, v_3.2.1.2.2.2.1.2.1, v_3.2.1.2.2.2.1.2.2.1, v_3.2.1.2.2.2.1.2.2.2), ()), v_3.2.2.1, v_3.2.2.2.2.1, ())).bind fun v_4 => bif !v_4.1.1.1 then (q10 ((((), ()), (g.1.2.1.1, ()), (g.1.2.1.1, ()), (g.1.2.1.1, ()), ()), ((v_3.2.1.1.1, v_3.2.1.1.2.1, v_3.2.1.1.2.2), (), (), (v_3.2.1.2.2.2.1.1, v_3.2.1.2.2.2.1.2.1, v_3.2.1.2.2.2.1.2.2.1, v_3.2.1.2.2.2.1.2.2.2), ()), v_3.2.2.1, v_3.2.2.2.2.1, ())).bind fun v_5 => bif v_5.1.1.1 == (1 : Int) then (q15 ((((), ()), (g.1.2.1.1, ()), ()), ((v_5.2.1.1.1, v_5.2.1.1.2.1, v_5.2.1.1.2.2), (), (), (v_5.2.1.2.2.2.1.1, v_5.2.1.2.2.2.1.2.1, v_5.2.1.2.2.2.1.2.2.1, v_5.2.1.2.2.2.1.2.2.2), ()), v_5.2.2.1, v_5.2.2.2.2.1, ())).bind fun v => some (((v.1.1.1 == (1 : Int), ()), ()), ()) else some (((false, ()), ()), ()) else some (((false, ()), ()), ()) else some (((false, ()), ()), ()) else some (((false, ()), ()), ()) else some (((false, ()), ()), ()) else some (((false, ()), ()), ()) else some (((false, ()), ()), ()) else some (((false, ()), ()), ()) else bif v_1.1.1.1.1 == (3 : Int) then (q16 ((((), ()), ((50 : Int), ()), ()), ((v_2.2.1.1.1, v_2.2.1.1.2.1, v_2.2.1.1.2.2), (), (), (v_2.2.1.2.2.2.1.1, v_2.2.1.2.2.2.1.2.1, v_2.2.1.2.2.2.1.2.2.1, v_2.2.1.2.2.2.1.2.2.2), ()), v_2.2.2.1, v_2.2.2.2.2.1, ())).bind fun v_3 => bif v_2.1.1.1.1 != (3 : Int) then some (((false, ()), ()), ()) else bif v_3.1.1.1.1 != (3 : Int) then some (((false, ()), ()), ()) else bif v_3.1.1.1.2.2.1 != (0 : Int) then some (((false, ()), ()), ()) else bif v_3.1.1.1.2.2.2.1 != v_1.1.1.1.2.2.2.1 then some (((false, ()), ()), ()) else (q12 (((v_3.1.1.1.2.2.2.2, ()), (v_1.1.1.1.2.2.2.2, ()), ()), ())).bind fun v_4 => bif !v_4.1.1.1 then some (((false, ()), ()), ()) else (q17 ((((), ()), ()), ((v_3.2.1.1.1, v_3.2.1.1.2.1, v_3.2.1.1.2.2), (), (), (v_3.2.1.2.2.2.1.1, v_3.2.1.2.2.2.1.2.1, v_3.2.1.2.2.2.1.2.2.1, v_3.2.1.2.2.2.1.2.2.2), ()), v_3.2.2.1, v_3.2.2.2.2.1, ())).bind fun v_5 => bif !v_5.1.1.1 then some (((false, ()), ()), ()) else (q15 ((((), ()), (g.1.2.1.1, ()), ()), ((v_3.2.1.1.1, v_3.2.1.1.2.1, v_3.2.1.1.2.2), (), (), (v_3.2.1.2.2.2.1.1, v_3.2.1.2.2.2.1.2.1, v_3.2.1.2.2.2.1.2.2.1, v_3.2.1.2.2.2.1.2.2.2), ()), v_3.2.2.1, v_3.2.2.2.2.1, ())).bind fun v_6 => bif v_6.1.1.1 != (0 : Int) then some (((false, ()), ()), ()) else (q15 ((((), ()), (g.1.2.1.1, ()), ()), ((v_6.2.1.1.1, v_6.2.1.1.2.1, v_6.2.1.1.2.2), (), (), (v_6.2.1.2.2.2.1.1, v_6.2.1.2.2.2.1.2.1, v_6.2.1.2.2.2.1.2.2.1, v_6.2.1.2.2.2.1.2.2.2), ()), v_6.2.2.1, v_6.2.2.2.1, ())).bind fun v => bif v.1.1.1 != (1 : Int) then some (((false, ()), ()), ()) else L (((g.1.1.1, ()), (g.1.2.1.1, ()), ((), ()), (IntKind.i64.wrap (g.1.2.2.2.1.1 + (1 : Int)), ()), ()), ((v.2.1.1.1, v.2.1.1.2.1, v.2.1.1.2.2), (), (), (v.2.1.2.2.2.1.1, v.2.1.2.2.2.1.2.1, v.2.1.2.2.2.1.2.2.1, v.2.1.2.2.2.1.2.2.2), ()), v.2.2.1, v.2.2.2.1, ()) else bif v_1.1.1.1.1 == (2 : Int) then bif v_2.1.1.1.1 != (2 : Int) then some (((false, ()), ()), ()) else bif v_2.1.1.1.2.2.1 != (0 : Int) then some (((false, ()), ()), ()) else bif v_1.1.1.1.2.2.1 != imin (imax g.1.1.1 (0 : Int)) (5000 : Int) then some (((false, ()), ()), ()) else L (((g.1.1.1, ()), (g.1.2.1.1, ()), ((), ()), (IntKind.i64.wrap (g.1.2.2.2.1.1 + (1 : Int)), ()), ()), ((v_2.2.1.1.1, v_2.2.1.1.2.1, v_2.2.1.1.2.2), (), (), (v_2.2.1.2.2.2.1.1, v_2.2.1.2.2.2.1.2.1, v_2.2.1.2.2.2.1.2.2.1, v_2.2.1.2.2.2.1.2.2.2), ()), v_2.2.2.1, v_2.2.2.2.2.1, ()) else some (((false, ()), ()), ()) else some (((true, ()), ()), ())

theorem e4_gen (k : Nat) (q8 : F8.pre.T → Option F8.post.T) (q9 : F9.pre.T → Option F9.post.T) (q16 : F16.pre.T → Option F16.post.T) (q15 : F15.pre.T → Option F15.post.T) (q17 : F17.pre.T → Option F17.post.T) (q10 : F10.pre.T → Option F10.post.T) (q12 : F12.pre.T → Option F12.post.T) (m : Int) (d : List Int) (l : Fs) (n : Int) (v : Int) : runFn Try.prog ti [Fm.entry Try.prog F8 8 q8, Fm.entry Try.prog F9 9 q9, Fm.entry Try.prog F16 16 q16, Fm.entry Try.prog F15 15 q15, Fm.entry Try.prog F17 17 q17, Fm.entry Try.prog F10 10 q10, Fm.entry Try.prog F12 12 q12] F4 Try.f4 k ((((m, d, l), ()), (n, ()), (v, ()), ()), ()) = (q8 ((), ())).bind fun v_1 => bif !v_1.1.1.1 then some (((false, ()), ()), ()) else (q9 ((((m, d, l), ()), ()), ())).bind fun v_2 => bif v_2.1.2.1.1 != (0 : Int) then some (((false, ()), ()), ()) else (q16 ((((), ()), ((9 : Int), ()), ()), ((v_2.2.1.1.1, v_2.2.1.1.2.1, v_2.2.1.1.2.2), (), (), (v_2.2.1.2.2.2.1.1, v_2.2.1.2.2.2.1.2.1, v_2.2.1.2.2.2.1.2.2.1, v_2.2.1.2.2.2.1.2.2.2), ()), v_2.2.2.1, v_2.2.2.2.1, ())).bind fun v_3 => bif v_3.1.1.1.1 != (0 : Int) then some (((false, ()), ()), ()) else (q15 ((((), ()), (v, ()), ()), ((v_3.2.1.1.1, v_3.2.1.1.2.1, v_3.2.1.1.2.2), (), (), (v_3.2.1.2.2.2.1.1, v_3.2.1.2.2.2.1.2.1, v_3.2.1.2.2.2.1.2.2.1, v_3.2.1.2.2.2.1.2.2.2), ()), v_3.2.2.1, v_3.2.2.2.2.1, ())).bind fun v_4 => bif v_4.1.1.1 != (1 : Int) then some (((false, ()), ()), ()) else (q17 ((((), ()), ()), ((v_4.2.1.1.1, v_4.2.1.1.2.1, v_4.2.1.1.2.2), (), (), (v_4.2.1.2.2.2.1.1, v_4.2.1.2.2.2.1.2.1, v_4.2.1.2.2.2.1.2.2.1, v_4.2.1.2.2.2.1.2.2.2), ()), v_4.2.2.1, v_4.2.2.2.1, ())).bind fun v_5 => bif v_5.1.1.1 then some (((false, ()), ()), ()) else (q10 ((((), ()), (v, ()), (v, ()), (v, ()), ()), ((v_4.2.1.1.1, v_4.2.1.1.2.1, v_4.2.1.1.2.2), (), (), (v_4.2.1.2.2.2.1.1, v_4.2.1.2.2.2.1.2.1, v_4.2.1.2.2.2.1.2.2.1, v_4.2.1.2.2.2.1.2.2.2), ()), v_4.2.2.1, v_4.2.2.2.1, ())).bind fun v_6 => bif v_6.1.1.1 != (0 : Int) then some (((false, ()), ()), ()) else (q10 ((((), ()), (v, ()), (v, ()), (v, ()), ()), ((v_6.2.1.1.1, v_6.2.1.1.2.1, v_6.2.1.1.2.2), (), (), (v_6.2.1.2.2.2.1.1, v_6.2.1.2.2.2.1.2.1, v_6.2.1.2.2.2.1.2.2.1, v_6.2.1.2.2.2.1.2.2.2), ()), v_6.2.2.1, v_6.2.2.2.2.1, ())).bind fun v_7 => bif v_7.1.1.1 != (1 : Int) then some (((false, ()), ()), ()) else (q17 ((((), ()), ()), ((v_7.2.1.1.1, v_7.2.1.1.2.1, v_7.2.1.1.2.2), (), (), (v_7.2.1.2.2.2.1.1, v_7.2.1.2.2.2.1.2.1, v_7.2.1.2.2.2.1.2.2.1, v_7.2.1.2.2.2.1.2.2.2), ()), v_7.2.2.1, v_7.2.2.2.2.1, ())).bind fun v_8 => bif !v_8.1.1.1 then some (((false, ()), ()), ()) else loopN (e4_0g k q8 q9 q16 q15 q17 q10 q12 m d l n v) k (((n, ()), (v, ()), ((), ()), ((0 : Int), ()), ()), ((v_7.2.1.1.1, v_7.2.1.1.2.1, v_7.2.1.1.2.2), (), (), (v_7.2.1.2.2.2.1.1, v_7.2.1.2.2.2.1.2.1, v_7.2.1.2.2.2.1.2.2.1, v_7.2.1.2.2.2.1.2.2.2), ()), v_7.2.2.1, v_7.2.2.2.2.1, ()) := by kernel_rfl
theorem e4_eq (k : Nat) (m : Int) (d : List Int) (l : Fs) (n : Int) (v : Int) : f4 k ((((m, d, l), ()), (n, ()), (v, ()), ()), ()) = (f8 k ((), ())).bind fun v_1 => bif !v_1.1.1.1 then some (((false, ()), ()), ()) else (f9 k ((((m, d, l), ()), ()), ())).bind fun v_2 => bif v_2.1.2.1.1 != (0 : Int) then some (((false, ()), ()), ()) else (f16 k ((((), ()), ((9 : Int), ()), ()), ((v_2.2.1.1.1, v_2.2.1.1.2.1, v_2.2.1.1.2.2), (), (), (v_2.2.1.2.2.2.1.1, v_2.2.1.2.2.2.1.2.1, v_2.2.1.2.2.2.1.2.2.1, v_2.2.1.2.2.2.1.2.2.2), ()), v_2.2.2.1, v_2.2.2.2.1, ())).bind fun v_3 => bif v_3.1.1.1.1 != (0 : Int) then some (((false, ()), ()), ()) else (f15 k ((((), ()), (v, ()), ()), ((v_3.2.1.1.1, v_3.2.1.1.2.1, v_3.2.1.1.2.2), (), (), (v_3.2.1.2.2.2.1.1, v_3.2.1.2.2.2.1.2.1, v_3.2.1.2.2.2.1.2.2.1, v_3.2.1.2.2.2.1.2.2.2), ()), v_3.2.2.1, v_3.2.2.2.2.1, ())).bind fun v_4 => bif v_4.1.1.1 != (1 : Int) then some (((false, ()), ()), ()) else (f17 k ((((), ()), ()), ((v_4.2.1.1.1, v_4.2.1.1.2.1, v_4.2.1.1.2.2), (), (), (v_4.2.1.2.2.2.1.1, v_4.2.1.2.2.2.1.2.1, v_4.2.1.2.2.2.1.2.2.1, v_4.2.1.2.2.2.1.2.2.2), ()), v_4.2.2.1, v_4.2.2.2.1, ())).bind fun v_5 => bif v_5.1.1.1 then some (((false, ()), ()), ()) else (f10 k ((((), ()), (v, ()), (v, ()), (v, ()), ()), ((v_4.2.1.1.1, v_4.2.1.1.2.1, v_4.2.1.1.2.2), (), (), (v_4.2.1.2.2.2.1.1, v_4.2.1.2.2.2.1.2.1, v_4.2.1.2.2.2.1.2.2.1, v_4.2.1.2.2.2.1.2.2.2), ()), v_4.2.2.1, v_4.2.2.2.1, ())).bind fun v_6 => bif v_6.1.1.1 != (0 : Int) then some (((false, ()), ()), ()) else (f10 k ((((), ()), (v, ()), (v, ()), (v, ()), ()), ((v_6.2.1.1.1, v_6.2.1.1.2.1, v_6.2.1.1.2.2), (), (), (v_6.2.1.2.2.2.1.1, v_6.2.1.2.2.2.1.2.1, v_6.2.1.2.2.2.1.2.2.1, v_6.2.1.2.2.2.1.2.2.2), ()), v_6.2.2.1, v_6.2.2.2.2.1, ())).bind fun v_7 => bif v_7.1.1.1 != (1 : Int) then some (((false, ()), ()), ()) else (f17 k ((((), ()), ()), ((v_7.2.1.1.1, v_7.2.1.1.2.1, v_7.2.1.1.2.2), (), (), (v_7.2.1.2.2.2.1.1, v_7.2.1.2.2.2.1.2.1, v_7.2.1.2.2.2.1.2.2.1, v_7.2.1.2.2.2.1.2.2.2), ()), v_7.2.2.1, v_7.2.2.2.2.1, ())).bind fun v_8 => bif !v_8.1.1.1 then some (((false, ()), ()), ()) else loopN (e4_0 k m d l n v) k (((n, ()), (v, ()), ((), ()), ((0 : Int), ()), ()), ((v_7.2.1.1.1, v_7.2.1.1.2.1, v_7.2.1.1.2.2), (), (), (v_7.2.1.2.2.2.1.1, v_7.2.1.2.2.2.1.2.1, v_7.2.1.2.2.2.1.2.2.1, v_7.2.1.2.2.2.1.2.2.2), ()), v_7.2.2.1, v_7.2.2.2.2.1, ()) := e4_gen k (f8 k) (f9 k) (f16 k) (f15 k) (f17 k) (f10 k) (f12 k) m d l n v
theorem same_loop : ∀ (e i k : Nat) (a : List Int), i + e = a.length → e + 1 ≤ k → a.length ≤ 1000 → loopN e12_0 k (((a, ()), (a, ()), ((i : Int), ()), ()), ()) = some (((true, ()), ()), ()) := by
  intro e
  induction e with
  | zero =>
    intro i k a hi hk hl
    obtain ⟨k, rfl⟩ : ∃ k2, k = k2 + 1 := ⟨k - 1, by omega⟩
    rw [loopN_succ, e12_0]
    simp only []
    rw [cneg (by omega)]
  | succ e ih =>
    intro i k a hi hk hl
    obtain ⟨k, rfl⟩ : ∃ k2, k = k2 + 1 := ⟨k - 1, by omega⟩
    rw [loopN_succ, e12_0]
    simp only []
    rw [cpos (by omega), cpos (by omega), cpos (by omega), nneg rfl, cond_false, wrapId (by omega) (by omega)]
    have h := ih (i + 1) k a (by omega) (by omega) hl
    rw [show ((i + 1 : Nat) : Int) = (i : Int) + 1 by omega] at h
    exact h
theorem same_refl (k : Nat) (hk : 1001 ≤ k) (a : List Int) (hl : a.length ≤ 1000) : f12 k (((a, ()), (a, ()), ()), ()) = some (((true, ()), ()), ()) := by
  rw [e12_eq, nneg rfl, cond_false]
  exact same_loop a.length 0 k a (by omega) (by omega) hl
abbrev E4s (m : Int) (l : Fs) (n v : Int) (i : Int) (S : St) : ((Int × Unit) × (Int × Unit) × (Unit × Unit) × (Int × Unit) × Unit) × MT × List Int × Fr × Unit := (((n, ()), (v, ()), ((), ()), (i, ()), ()), MS m [] l S.ak S.ca S.ar S.tr, S.c, S.fr, ())
theorem ends_loop {K : Nat} (hK : 6000 ≤ K) {m : Int} {l : Fs} {hs : Int → List Int} (hM : Mach K m l hs) (n v : Int) (m0 : Int) (d0 : List Int) (l0 : Fs) (n0 v0 : Int) : ∀ (e i k : Nat) (S : St), i + e = 30 → e + 1 ≤ k → SInv m l hs S → ¬ halted S →
    loopN (e4_0 K m0 d0 l0 n0 v0) k (E4s m l n v (i : Int) S) = some (((true, ()), ()), ()) := by
  intro e
  induction e with
  | zero =>
    intro i k S hi hk hI hh
    obtain ⟨k, rfl⟩ : ∃ k2, k = k2 + 1 := ⟨k - 1, by omega⟩
    rw [loopN_succ, e4_0]
    simp only []
    rw [cneg (by omega)]
  | succ e ih =>
    intro i k S hi hk hI hh
    obtain ⟨k, rfl⟩ : ∃ k2, k = k2 + 1 := ⟨k - 1, by omega⟩
    have hne : S.fr ≠ [] := fun e => hh (.inr (.inr e))
    obtain ⟨fe, fl⟩ := fuelN_eq n
    rw [loopN_succ, e4_0]
    simp only []
    rw [cpos (by omega), wrapId (n := (i : Int) + 1) (by omega) (by omega), show (i : Int) + 1 = ((i + 1 : Nat) : Int) by omega, fe]
    have r1 := run_tot hK hM n S hI
    rw [r1, Option.bind_some]
    simp only []
    rw [told_go hne, left_go hne]
    have hu := runP_le K m l (fuelN n) S
    have hf := runP_full K m l (fuelN n) S
    have hI1 := runP_inv (K := K) (by omega) hM (fuelN n) S hI
    generalize (runP K m l (fuelN n) S).1 = u at *
    generalize (runP K m l (fuelN n) S).2 = S1 at *
    have r2 := run_tot hK hM 0 S1 hI1
    rw [left_0] at r2
    have hal : S1.ar.length ≤ 8 := hI1.al
    by_cases h1 : S1.tr = 0
    · rcases Bool.eq_false_or_eq_true S1.ak with hk1 | hk1
      · have hne1 : S1.fr ≠ [] := hI1.ne (.inr hk1)
        have hh1 : halted S1 := .inr (.inl hk1)
        rw [told_0 hne1, tell_asks h1 hk1] at r2
        rw [tell_asks h1 hk1]
        simp only []
        rw [cneg (show ¬ ((u : Int) > (fuelN n : Int)) by omega)]
        rw [r2, Option.bind_some]
        simp only []
        have r3 := run_tot hK hM 50 S1 hI1
        rw [told_halted hne1 hh1, left_halted hh1, tell_asks h1 hk1] at r3
        rw [bneg (by decide), cond_false, bneg (by decide), cond_false, bpos rfl, cond_true, r3, Option.bind_some]
        simp only []
        rw [nneg rfl, cond_false, nneg (show ((0 : Nat) : Int) = 0 from rfl), cond_false, nneg rfl, cond_false, same_refl K (by omega) S1.ar (by omega), Option.bind_some]
        simp only []
        rw [Bool.not_true, cond_false, busy_of K m l S1, Option.bind_some]
        simp only []
        rw [decide_eq_true ⟨h1, hne1⟩, Bool.not_true, cond_false]
        obtain ⟨S2, g1, g2, g3, g4⟩ := rep_ok (K := K) hM hI1 hk1 v
        rw [g1, Option.bind_some]
        simp only []
        rw [nneg rfl, cond_false, rep_no (K := K) g3 v, Option.bind_some]
        simp only []
        rw [nneg rfl, cond_false]
        exact ih (i + 1) k S2 (by omega) (by omega) g2 g4
      · by_cases h3 : S1.fr = []
        · rw [tell_done h1 hk1 h3]
          have t0 : told K m l 0 S1 = (0, 0, 0, 0, []) := if_pos h3
          rw [t0] at r2
          simp only []
          rw [cneg (show ¬ ((u : Int) > (fuelN n : Int)) by omega), r2, Option.bind_some]
          simp only []
          rw [bpos rfl, cond_true, bpos rfl, cond_true, busy_of K m l S1, Option.bind_some]
          simp only []
          rw [decide_eq_false (fun e => e.2 h3), Bool.not_false, cond_true, (beg_ok (K := K) hM hI1 h1 h3 v 1 2).1, Option.bind_some]
          rfl
        · have hh1 : ¬ halted S1 := by simp [halted, h1, hk1, h3]
          have hu1 := hf hh1
          rw [told_0 h3, tell_fuel h1 hk1 h3] at r2
          rw [tell_fuel h1 hk1 h3]
          simp only []
          rw [cneg (show ¬ ((u : Int) > (fuelN n : Int)) by omega), r2, Option.bind_some]
          simp only []
          rw [bneg (by decide), cond_false, bneg (by decide), cond_false, bneg (by decide), cond_false, bpos rfl, cond_true, nneg rfl, cond_false, nneg (show ((0 : Nat) : Int) = 0 from rfl), cond_false, nneg (show (u : Int) = (fuelN n : Int) by omega), cond_false]
          exact ih (i + 1) k S1 (by omega) (by omega) hI1 hh1
    · have hne1 : S1.fr ≠ [] := hI1.ne (.inl h1)
      have hh1 : halted S1 := .inl h1
      have hk1 : S1.ak = false := by
        cases hk1 : S1.ak with
        | false => rfl
        | true => exact absurd (hI1.at_ hk1) h1
      have htr := hI1.tr
      rw [told_0 hne1, tell_dead h1] at r2
      rw [tell_dead h1]
      simp only []
      rw [cneg (show ¬ ((u : Int) > (fuelN n : Int)) by omega), r2, Option.bind_some]
      simp only []
      have r3 := run_tot hK hM 50 S1 hI1
      rw [told_halted hne1 hh1, left_halted hh1, tell_dead h1] at r3
      rw [bneg (by decide), cond_false, bpos rfl, cond_true, r3, Option.bind_some]
      simp only []
      rw [bpos rfl, cond_true, bpos rfl, cond_true, cpos (show S1.tr ≥ 1 by omega), cpos (show S1.tr ≤ 4 by omega), cond_true, bpos (show ((0 : Nat) : Int) = 0 from rfl), cond_true, busy_of K m l S1, Option.bind_some]
      simp only []
      rw [decide_eq_false (fun e => h1 e.1), Bool.not_false, cond_true, beg_no (K := K) (fun e => h1 e.1) v v v, Option.bind_some]
      simp only []
      rw [bpos rfl, cond_true, rep_no (K := K) hk1 v, Option.bind_some]
      rfl
theorem law_ends (K : Nat) (hK : 6000 ≤ K + 60) (m : Int) (d : List Int) (l : Fs) (n v : Int) :
    f4 (K + 60) ((((m, d, l), ()), (n, ()), (v, ()), ()), ()) = some (((true, ()), ()), ()) ∨ f104 (K + 60) ((((m, d, l), ()), (n, ()), (v, ()), ()), ()) = some (((true, ()), ()), ()) := by
  rcases new_tot (K := K + 60) (by omega) m d l with ⟨h1, hG⟩ | ⟨e, he, h1⟩
  · left
    obtain ⟨hs, hM⟩ := mach_of (K := K + 60) (by omega) hG
    have hmm := hM.mm
    rw [e4_eq, alive, Option.bind_some]
    simp only []
    rw [Bool.not_true, cond_false, h1, Option.bind_some]
    simp only []
    rw [nneg rfl, cond_false]
    obtain ⟨S0, hS0⟩ : ∃ S0 : St, S0 = ⟨false, 0, [], 0, memOf m d, []⟩ := ⟨_, rfl⟩
    have hI0 : SInv m l hs S0 := by rw [hS0]; exact Inv.done (mem_len m d hmm.1) (show (0 : Nat) ≤ 8 by decide)
    have k0 : S0.ak = false := by rw [hS0]
    have t0 : S0.tr = 0 := by rw [hS0]
    have f0 : S0.fr = [] := by rw [hS0]
    have r1 := run_tot hK hM 9 S0 hI0
    have b1 := busy_of (K + 60) m l S0
    have p1 := rep_no (K := K + 60) (m := m) (l := l) k0 v
    obtain ⟨g1, g2, g3⟩ := beg_ok (K := K + 60) hM hI0 t0 f0 v v v
    have b2 := busy_of (K + 60) m l (begS l S0 v v v)
    have g4 := beg_no (K := K + 60) (m := m) (l := l) (S := begS l S0 v v v) (fun e => g3 (.inr (.inr e.2))) v v v
    rw [show told (K + 60) m l 9 S0 = (0, 0, 0, 0, []) from if_pos f0, show left (K + 60) m l 9 S0 = S0 from if_pos f0] at r1
    rw [decide_eq_false (fun e => e.2 f0)] at b1
    rw [decide_eq_true ⟨show (begS l S0 v v v).tr = 0 from t0, fun e => g3 (.inr (.inr e))⟩] at b2
    have hlast := ends_loop hK hM n v m d l n v 30 0 (K + 60) (begS l S0 v v v) (by omega) (by omega) g2 g3
    generalize begS l S0 v v v = S1 at *
    subst hS0
    simp only [] at r1 b1 p1 g1
    rw [r1, Option.bind_some]
    simp only []
    rw [nneg rfl, cond_false, p1, Option.bind_some]
    simp only []
    rw [nneg rfl, cond_false, b1, Option.bind_some]
    simp only []
    rw [cond_false, g1, Option.bind_some]
    simp only []
    rw [nneg rfl, cond_false, g4, Option.bind_some]
    simp only []
    rw [nneg rfl, cond_false, b2, Option.bind_some]
    simp only []
    rw [Bool.not_true, cond_false]
    exact hlast
  · right
    rw [e104_eq, alive, Option.bind_some]
    simp only []
    rw [Bool.not_true, cond_false, h1, Option.bind_some]
    rfl
theorem law4 (k : Nat) : ∀ e ∈ [Fm.entry Try.prog F8 8 (f8 k), Fm.entry Try.prog F9 9 (f9 k), Fm.entry Try.prog F16 16 (f16 k), Fm.entry Try.prog F15 15 (f15 k), Fm.entry Try.prog F17 17 (f17 k), Fm.entry Try.prog F10 10 (f10 k), Fm.entry Try.prog F12 12 (f12 k)], EGood Try.prog e := goods_cons (g8 k) (goods_cons (g9 k) (goods_cons (g16 k) (goods_cons (g15 k) (goods_cons (g17 k) (goods_cons (g10 k) (goods_cons (g12 k) goods_nil))))))
theorem law104 (k : Nat) : ∀ e ∈ [Fm.entry Try.prog F8 8 (f8 k), Fm.entry Try.prog F109 9 (f109 k), Fm.entry Try.prog F16 16 (f16 k), Fm.entry Try.prog F15 15 (f15 k), Fm.entry Try.prog F17 17 (f17 k), Fm.entry Try.prog F10 10 (f10 k), Fm.entry Try.prog F12 12 (f12 k)], EGood Try.prog e := goods_cons (g8 k) (goods_cons (g109 k) (goods_cons (g16 k) (goods_cons (g15 k) (goods_cons (g17 k) (goods_cons (g10 k) (goods_cons (g12 k) goods_nil))))))
theorem vmEnds {p : Prop} (x : Int × List Int × Fs) (n v : Int) (_ : p) : f4 (6000 + 60) (((x, ()), (n, ()), (v, ()), ()), ()) = some (((true, ()), ()), ()) ∨ f104 (6000 + 60) (((x, ()), (n, ()), (v, ()), ()), ()) = some (((true, ()), ()), ()) :=
  law_ends 6000 (by decide) x.1 x.2.1 x.2.2 n v
end
end Go.Proofs.Ytjbdeccohpbegaa.Vm
