import Derived.Test.YtjbdeccohpbegaaVY
namespace Go.Proofs.Ytjbdeccohpbegaa.Vm
open Go Go.RowKit Go.Proofs Go.Proofs.Ytjbdeccohpbegaa.X
set_option linter.unusedVariables false
set_option linter.unusedSimpArgs false
noncomputable section
/-! VmParts -/
def e14_0 (g : ((List Int × Unit) × (List Int × Unit) × (Int × Unit) × Unit) × Unit) (L : ((List Int × Unit) × (List Int × Unit) × (Int × Unit) × Unit) × Unit → Option (((Bool × Unit) × Unit) × Unit)) : Option (((Bool × Unit) × Unit) × Unit) := bif decide (g.1.2.2.1.1 < (↑g.1.1.1.length : Int)) then bif decide ((0 : Int) ≤ g.1.2.2.1.1 ∧ g.1.2.2.1.1 < (↑g.1.1.1.length : Int)) then bif decide ((0 : Int) ≤ g.1.2.2.1.1 ∧ g.1.2.2.1.1 < (↑g.1.2.1.1.length : Int)) then bif ub g.1.1.1 g.1.2.2.1.1.toNat != ub g.1.2.1.1 g.1.2.2.1.1.toNat then some (((false, ()), ()), ()) else L (((g.1.1.1, ()), (g.1.2.1.1, ()), (IntKind.i64.wrap (g.1.2.2.1.1 + (1 : Int)), ()), ()), ()) else none else none else some (((true, ()), ()), ())
theorem e14_eq (k : Nat) (a : List Int) (b : List Int) : f14 k (((a, ()), (b, ()), ()), ()) = bif (↑a.length : Int) != (↑b.length : Int) then some (((false, ()), ()), ()) else loopN e14_0 k (((a, ()), (b, ()), ((0 : Int), ()), ()), ()) := by kernel_rfl
def e11_0 (k : Nat) (p : List Int) (m : Int) (d : List Int) (l : Fs) (asks : Bool) (call : Int) (args : List Int) (trap : Int) (c : List Int) (fr : Fr) (g : ((Unit × Unit) × (List Int × Unit) × (Unit × Unit) × (Int × Unit) × (Int × Unit) × Unit) × ((Int × List Int × Fs) × Unit × Unit × (Bool × Int × List Int × Int) × Unit) × List Int × Unit × Fr × ((Int × Int × Int × Int × List Int) × Unit) × Unit) (L : ((Unit × Unit) × (List Int × Unit) × (Unit × Unit) × (Int × Unit) × (Int × Unit) × Unit) × ((Int × List Int × Fs) × Unit × Unit × (Bool × Int × List Int × Int) × Unit) × List Int × Unit × Fr × ((Int × Int × Int × Int × List Int) × Unit) × Unit → Option ((((Int × Int × Int × Int × List Int) × Unit) × (Bool × Unit) × Unit) × ((Int × List Int × Fs) × Unit × Unit × (Bool × Int × List Int × Int) × Unit) × List Int × Unit × Fr × Unit)) : Option ((((Int × Int × Int × Int × List Int) × Unit) × (Bool × Unit) × Unit) × ((Int × List Int × Fs) × Unit × Unit × (Bool × Int × List Int × Int) × Unit) × List Int × Unit × Fr × Unit) := bif decide (g.1.2.2.2.2.1.1 < (9000 : Int)) then bif decide (g.1.2.2.2.1.1 < (4000 : Int)) then bif decide ((↑g.1.2.1.1.length : Int) > (0 : Int)) then bif decide ((↑g.1.2.1.1.length : Int) ≠ (0 : Int)) then bif decide (((0 : Int) ≤ (g.1.2.2.2.2.1.1.tmod (↑g.1.2.1.1.length : Int))) ∧ (g.1.2.2.2.2.1.1.tmod (↑g.1.2.1.1.length : Int)) < (↑g.1.2.1.1.length : Int)) then (f16 k ((((), ()), (IntKind.i64.wrap ((1 : Int) + IntKind.i64.wrap (↑(BitVec.ofInt IntKind.i64.bits (ia g.1.2.1.1 (g.1.2.2.2.2.1.1.tmod (↑g.1.2.1.1.length : Int)).toNat) &&& BitVec.ofInt IntKind.i64.bits (63 : Int)).toNat : Int)), ()), ()), ((g.2.1.1.1, g.2.1.1.2.1, g.2.1.1.2.2), (), (), (g.2.1.2.2.2.1.1, g.2.1.2.2.2.1.2.1, g.2.1.2.2.2.1.2.2.1, g.2.1.2.2.2.1.2.2.2), ()), g.2.2.1, g.2.2.2.2.1, ())).bind fun v => bif decide (v.1.1.1.2.2.1 > IntKind.i64.wrap ((1 : Int) + IntKind.i64.wrap (↑(BitVec.ofInt IntKind.i64.bits (ia g.1.2.1.1 (g.1.2.2.2.2.1.1.tmod (↑g.1.2.1.1.length : Int)).toNat) &&& BitVec.ofInt IntKind.i64.bits (63 : Int)).toNat : Int))) then some ((((v.1.1.1.1, v.1.1.1.2.1, v.1.1.1.2.2.1, v.1.1.1.2.2.2.1, v.1.1.1.2.2.2.2), ()), (false, ()), ()), ((v.2.1.1.1, v.2.1.1.2.1, v.2.1.1.2.2), (), (), (v.2.1.2.2.2.1.1, v.2.1.2.2.2.1.2.1, v.2.1.2.2.2.1.2.2.1, v.2.1.2.2.2.1.2.2.2), ()), v.2.2.1, (), v.2.2.2.2.1, ()) else bif v.1.1.1.1 != (2 : Int) then some ((((v.1.1.1.1, v.1.1.1.2.1, v.1.1.1.2.2.1, v.1.1.1.2.2.2.1, v.1.1.1.2.2.2.2), ()), (true, ()), ()), ((v.2.1.1.1, v.2.1.1.2.1, v.2.1.1.2.2), (), (), (v.2.1.2.2.2.1.1, v.2.1.2.2.2.1.2.1, v.2.1.2.2.2.1.2.2.1, v.2.1.2.2.2.1.2.2.2), ()), v.2.2.1, (), v.2.2.2.2.1, ()) else L ((((), ()), (g.1.2.1.1, ()), ((), ()), (IntKind.i64.wrap (g.1.2.2.2.1.1 + v.1.1.1.2.2.1), ()), (IntKind.i64.wrap (g.1.2.2.2.2.1.1 + (1 : Int)), ()), ()), ((v.2.1.1.1, v.2.1.1.2.1, v.2.1.1.2.2), (), (), (v.2.1.2.2.2.1.1, v.2.1.2.2.2.1.2.1, v.2.1.2.2.2.1.2.2.1, v.2.1.2.2.2.1.2.2.2), ()), v.2.2.1, (), v.2.2.2.2.1, ((g.2.2.2.2.2.1.1.1, g.2.2.2.2.2.1.1.2.1, g.2.2.2.2.2.1.1.2.2.1, g.2.2.2.2.2.1.1.2.2.2.1, g.2.2.2.2.2.1.1.2.2.2.2), ()), ()) else none else none else (f16 k ((((), ()), ((100 : Int), ()), ()), ((g.2.1.1.1, g.2.1.1.2.1, g.2.1.1.2.2), (), (), (g.2.1.2.2.2.1.1, g.2.1.2.2.2.1.2.1, g.2.1.2.2.2.1.2.2.1, g.2.1.2.2.2.1.2.2.2), ()), g.2.2.1, g.2.2.2.2.1, ())).bind fun v => bif decide (v.1.1.1.2.2.1 > (100 : Int)) then some ((((v.1.1.1.1, v.1.1.1.2.1, v.1.1.1.2.2.1, v.1.1.1.2.2.2.1, v.1.1.1.2.2.2.2), ()), (false, ()), ()), ((v.2.1.1.1, v.2.1.1.2.1, v.2.1.1.2.2), (), (), (v.2.1.2.2.2.1.1, v.2.1.2.2.2.1.2.1, v.2.1.2.2.2.1.2.2.1, v.2.1.2.2.2.1.2.2.2), ()), v.2.2.1, (), v.2.2.2.2.1, ()) else bif v.1.1.1.1 != (2 : Int) then some ((((v.1.1.1.1, v.1.1.1.2.1, v.1.1.1.2.2.1, v.1.1.1.2.2.2.1, v.1.1.1.2.2.2.2), ()), (true, ()), ()), ((v.2.1.1.1, v.2.1.1.2.1, v.2.1.1.2.2), (), (), (v.2.1.2.2.2.1.1, v.2.1.2.2.2.1.2.1, v.2.1.2.2.2.1.2.2.1, v.2.1.2.2.2.1.2.2.2), ()), v.2.2.1, (), v.2.2.2.2.1, ()) else L ((((), ()), (g.1.2.1.1, ()), ((), ()), (IntKind.i64.wrap (g.1.2.2.2.1.1 + v.1.1.1.2.2.1), ()), (IntKind.i64.wrap (g.1.2.2.2.2.1.1 + (1 : Int)), ()), ()), ((v.2.1.1.1, v.2.1.1.2.1, v.2.1.1.2.2), (), (), (v.2.1.2.2.2.1.1, v.2.1.2.2.2.1.2.1, v.2.1.2.2.2.1.2.2.1, v.2.1.2.2.2.1.2.2.2), ()), v.2.2.1, (), v.2.2.2.2.1, ((g.2.2.2.2.2.1.1.1, g.2.2.2.2.2.1.1.2.1, g.2.2.2.2.2.1.1.2.2.1, g.2.2.2.2.2.1.1.2.2.2.1, g.2.2.2.2.2.1.1.2.2.2.2), ()), ()) else some (((((0 : Int), (0 : Int), (0 : Int), (0 : Int), []), ()), (false, ()), ()), ((g.2.1.1.1, g.2.1.1.2.1, g.2.1.1.2.2), (), (), (g.2.1.2.2.2.1.1, g.2.1.2.2.2.1.2.1, g.2.1.2.2.2.1.2.2.1, g.2.1.2.2.2.1.2.2.2), ()), g.2.2.1, (), g.2.2.2.2.1, ()) else some (((((0 : Int), (0 : Int), (0 : Int), (0 : Int), []), ()), (false, ()), ()), ((g.2.1.1.1, g.2.1.1.2.1, g.2.1.1.2.2), (), (), (g.2.1.2.2.2.1.1, g.2.1.2.2.2.1.2.1, g.2.1.2.2.2.1.2.2.1, g.2.1.2.2.2.1.2.2.2), ()), g.2.2.1, (), g.2.2.2.2.1, ())
def e11_0g (k : Nat) (q16 : F16.pre.T → Option F16.post.T) (p : List Int) (m : Int) (d : List Int) (l : Fs) (asks : Bool) (call : Int) (args : List Int) (trap : Int) (c : List Int) (fr : Fr) (g : ((Unit × Unit) × (List Int × Unit) × (Unit × Unit) × (Int × Unit) × (Int × Unit) × Unit) × ((Int × List Int × Fs) × Unit × Unit × (Bool × Int × List Int × Int) × Unit) × List Int × Unit × Fr × ((Int × Int × Int × Int × List Int) × Unit) × Unit) (L : ((Unit × Unit) × (List Int × Unit) × (Unit × Unit) × (Int × Unit) × (Int × Unit) × Unit) × ((Int × List Int × Fs) × Unit × Unit × (Bool × Int × List Int × Int) × Unit) × List Int × Unit × Fr × ((Int × Int × Int × Int × List Int) × Unit) × Unit → Option ((((Int × Int × Int × Int × List Int) × Unit) × (Bool × Unit) × Unit) × ((Int × List Int × Fs) × Unit × Unit × (Bool × Int × List Int × Int) × Unit) × List Int × Unit × Fr × Unit)) : Option ((((Int × Int × Int × Int × List Int) × Unit) × (Bool × Unit) × Unit) × ((Int × List Int × Fs) × Unit × Unit × (Bool × Int × List Int × Int) × Unit) × List Int × Unit × Fr × Unit) := bif decide (g.1.2.2.2.2.1.1 < (9000 : Int)) then bif decide (g.1.2.2.2.1.1 < (4000 : Int)) then bif decide ((↑g.1.2.1.1.length : Int) > (0 : Int)) then bif decide ((↑g.1.2.1.1.length : Int) ≠ (0 : Int)) then bif decide (((0 : Int) ≤ (g.1.2.2.2.2.1.1.tmod (↑g.1.2.1.1.length : Int))) ∧ (g.1.2.2.2.2.1.1.tmod (↑g.1.2.1.1.length : Int)) < (↑g.1.2.1.1.length : Int)) then (q16 ((((), ()), (IntKind.i64.wrap ((1 : Int) + IntKind.i64.wrap (↑(BitVec.ofInt IntKind.i64.bits (ia g.1.2.1.1 (g.1.2.2.2.2.1.1.tmod (↑g.1.2.1.1.length : Int)).toNat) &&& BitVec.ofInt IntKind.i64.bits (63 : Int)).toNat : Int)), ()), ()), ((g.2.1.1.1, g.2.1.1.2.1, g.2.1.1.2.2), (), (), (g.2.1.2.2.2.1.1, g.2.1.2.2.2.1.2.1, g.2.1.2.2.2.1.2.2.1, g.2.1.2.2.2.1.2.2.2), ()), g.2.2.1, g.2.2.2.2.1, ())).bind fun v => bif decide (v.1.1.1.2.2.1 > IntKind.i64.wrap ((1 : Int) + IntKind.i64.wrap (↑(BitVec.ofInt IntKind.i64.bits (ia g.1.2.1.1 (g.1.2.2.2.2.1.1.tmod (↑g.1.2.1.1.length : Int)).toNat) &&& BitVec.ofInt IntKind.i64.bits (63 : Int)).toNat : Int))) then some ((((v.1.1.1.1, v.1.1.1.2.1, v.1.1.1.2.2.1, v.1.1.1.2.2.2.1, v.1.1.1.2.2.2.2), ()), (false, ()), ()), ((v.2.1.1.1, v.2.1.1.2.1, v.2.1.1.2.2), (), (), (v.2.1.2.2.2.1.1, v.2.1.2.2.2.1.2.1, v.2.1.2.2.2.1.2.2.1, v.2.1.2.2.2.1.2.2.2), ()), v.2.2.1, (), v.2.2.2.2.1, ()) else bif v.1.1.1.1 != (2 : Int) then some ((((v.1.1.1.1, v.1.1.1.2.1, v.1.1.1.2.2.1, v.1.1.1.2.2.2.1, v.1.1.1.2.2.2.2), ()), (true, ()), ()), ((v.2.1.1.1, v.2.1.1.2.1, v.2.1.1.2.2), (), (), (v.2.1.2.2.2.1.1, v.2.1.2.2.2.1.2.1, v.2.1.2.2.2.1.2.2.1, v.2.1.2.2.2.1.2.2.2), ()), v.2.2.1, (), v.2.2.2.2.1, ()) else L ((((), ()), (g.1.2.1.1, ()), ((), ()), (IntKind.i64.wrap (g.1.2.2.2.1.1 + v.1.1.1.2.2.1), ()), (IntKind.i64.wrap (g.1.2.2.2.2.1.1 + (1 : Int)), ()), ()), ((v.2.1.1.1, v.2.1.1.2.1, v.2.1.1.2.2), (), (), (v.2.1.2.2.2.1.1, v.2.1.2.2.2.1.2.1, v.2.1.2.2.2.1.2.2.1, v.2.1.2.2.2.1.2.2.2), ()), v.2.2.1, (), v.2.2.2.2.1, ((g.2.2.2.2.2.1.1.1, g.2.2.2.2.2.1.1.2.1, g.2.2.2.2.2.1.1.2.2.1, g.2.2.2.2.2.1.1.2.2.2.1, g.2.2.2.2.2.1.1.2.2.2.2), ()), ()) else none else none else (q16 ((((), ()), ((100 : Int), ()), ()), ((g.2.1.1.1, g.2.1.1.2.1, g.2.1.1.2.2), (), (), (g.2.1.2.2.2.1.1, g.2.1.2.2.2.1.2.1, g.2.1.2.2.2.1.2.2.1, g.2.1.2.2.2.1.2.2.2), ()), g.2.2.1, g.2.2.2.2.1, ())).bind fun v => bif decide (v.1.1.1.2.2.1 > (100 : Int)) then some ((((v.1.1.1.1, v.1.1.1.2.1, v.1.1.1.2.2.1, v.1.1.1.2.2.2.1, v.1.1.1.2.2.2.2), ()), (false, ()), ()), ((v.2.1.1.1, v.2.1.1.2.1, v.2.1.1.2.2), (), (), (v.2.1.2.2.2.1.1, v.2.1.2.2.2.1.2.1, v.2.1.2.2.2.1.2.2.1, v.2.1.2.2.2.1.2.2.2), ()), v.2.2.1, (), v.2.2.2.2.1, ()) else bif v.1.1.1.1 != (2 : Int) then some ((((v.1.1.1.1, v.1.1.1.2.1, v.1.1.1.2.2.1, v.1.1.1.2.2.2.1, v.1.1.1.2.2.2.2), ()), (true, ()), ()), ((v.2.1.1.1, v.2.1.1.2.1, v.2.1.1.2.2), (), (), (v.2.1.2.2.2.1.1, v.2.1.2.2.2.1.2.1, v.2.1.2.2.2.1.2.2.1, v.2.1.2.2.2.1.2.2.2), ()), v.2.2.1, (), v.2.2.2.2.1, ()) else L ((((), ()), (g.1.2.1.1, ()), ((), ()), (IntKind.i64.wrap (g.1.2.2.2.1.1 + v.1.1.1.2.2.1), ()), (IntKind.i64.wrap (g.1.2.2.2.2.1.1 + (1 : Int)), ()), ()), ((v.2.1.1.1, v.2.1.1.2.1, v.2.1.1.2.2), (), (), (v.2.1.2.2.2.1.1, v.2.1.2.2.2.1.2.1, v.2.1.2.2.2.1.2.2.1, v.2.1.2.2.2.1.2.2.2), ()), v.2.2.1, (), v.2.2.2.2.1, ((g.2.2.2.2.2.1.1.1, g.2.2.2.2.2.1.1.2.1, g.2.2.2.2.2.1.1.2.2.1, g.2.2.2.2.2.1.1.2.2.2.1, g.2.2.2.2.2.1.1.2.2.2.2), ()), ()) else some (((((0 : Int), (0 : Int), (0 : Int), (0 : Int), []), ()), (false, ()), ()), ((g.2.1.1.1, g.2.1.1.2.1, g.2.1.1.2.2), (), (), (g.2.1.2.2.2.1.1, g.2.1.2.2.2.1.2.1, g.2.1.2.2.2.1.2.2.1, g.2.1.2.2.2.1.2.2.2), ()), g.2.2.1, (), g.2.2.2.2.1, ()) else some (((((0 : Int), (0 : Int), (0 : Int), (0 : Int), []), ()), (false, ()), ()), ((g.2.1.1.1, g.2.1.1.2.1, g.2.1.1.2.2), (), (), (g.2.1.2.2.2.1.1, g.2.1.2.2.2.1.2.1, g.2.1.2.2.2.1.2.2.1, g.2.1.2.2.2.1.2.2.2), ()), g.2.2.1, (), g.2.2.2.2.1, ())

theorem e11_gen (k : Nat) (q16 : F16.pre.T → Option F16.post.T) (p : List Int) (m : Int) (d : List Int) (l : Fs) (c : List Int) (fr : Fr) (asks : Bool) (call : Int) (args : List Int) (trap : Int) : runFn Try.prog ti [Fm.entry Try.prog F16 16 q16] F11 Try.f11 k ((((), ()), (p, ()), ()), ((m, d, l), (), (), (asks, call, args, trap), ()), c, fr, ()) = loopN (e11_0g k q16 p m d l asks call args trap c fr) k ((((), ()), (p, ()), ((), ()), ((0 : Int), ()), ((0 : Int), ()), ()), ((m, d, l), (), (), (asks, call, args, trap), ()), c, (), List.take (List.length fr) fr, (((0 : Int), (0 : Int), (0 : Int), (0 : Int), []), ()), ()) := by kernel_rfl
theorem e11_eq (k : Nat) (p : List Int) (m : Int) (d : List Int) (l : Fs) (c : List Int) (fr : Fr) (asks : Bool) (call : Int) (args : List Int) (trap : Int) : f11 k ((((), ()), (p, ()), ()), ((m, d, l), (), (), (asks, call, args, trap), ()), c, fr, ()) = loopN (e11_0 k p m d l asks call args trap c fr) k ((((), ()), (p, ()), ((), ()), ((0 : Int), ()), ((0 : Int), ()), ()), ((m, d, l), (), (), (asks, call, args, trap), ()), c, (), List.take (List.length fr) fr, (((0 : Int), (0 : Int), (0 : Int), (0 : Int), []), ()), ()) := e11_gen k (f16 k) p m d l c fr asks call args trap
theorem e103_eq (k : Nat) (m : Int) (d : List Int) (l : Fs) (p : List Int) (q : List Int) : f103 k ((((m, d, l), ()), (p, ()), (q, ()), ()), ()) = (f8 k ((), ())).bind fun v => bif !v.1.1.1 then some (((false, ()), ()), ()) else (f109 k ((((m, d, l), ()), ()), ())).bind fun v_1 => (f109 k ((((m, d, l), ()), ()), ())).bind fun v => bif v_1.1.2.1.1 != v.1.2.1.1 then some (((false, ()), ()), ()) else bif !true == (v_1.1.2.1.1 != (0 : Int)) then some (((false, ()), ()), ()) else some (((true, ()), ()), ()) := by kernel_rfl
def e3_0 (k : Nat) (m : Int) (d : List Int) (l : Fs) (p : List Int) (q : List Int) (L1 : ((List Int × Unit) × (List Int × Unit) × (Unit × Unit) × (Unit × Unit) × (Unit × Unit) × (Int × Unit) × Unit) × ((Int × List Int × Fs) × Unit) × ((Int × List Int × Fs) × Unit × Unit × (Bool × Int × List Int × Int) × Unit) × List Int × Fr × ((Int × List Int × Fs) × Unit × Unit × (Bool × Int × List Int × Int) × Unit) × List Int × Fr × Unit → Option (((Bool × Unit) × Unit) × Unit)) (g : ((List Int × Unit) × (List Int × Unit) × (Unit × Unit) × (Unit × Unit) × (Unit × Unit) × (Int × Unit) × (Int × Unit) × Unit) × ((Int × List Int × Fs) × Unit) × ((Int × List Int × Fs) × Unit × Unit × (Bool × Int × List Int × Int) × Unit) × List Int × Fr × ((Int × List Int × Fs) × Unit × Unit × (Bool × Int × List Int × Int) × Unit) × List Int × Fr × Unit) (L : ((List Int × Unit) × (List Int × Unit) × (Unit × Unit) × (Unit × Unit) × (Unit × Unit) × (Int × Unit) × (Int × Unit) × Unit) × ((Int × List Int × Fs) × Unit) × ((Int × List Int × Fs) × Unit × Unit × (Bool × Int × List Int × Int) × Unit) × List Int × Fr × ((Int × List Int × Fs) × Unit × Unit × (Bool × Int × List Int × Int) × Unit) × List Int × Fr × Unit → Option (((Bool × Unit) × Unit) × Unit)) : Option (((Bool × Unit) × Unit) × Unit) := bif decide (g.1.2.2.2.2.2.2.1.1 < (20 : Int)) then (f11 k ((((), ()), (g.1.1.1, ()), ()), ((g.2.2.1.1.1, g.2.2.1.1.2.1, g.2.2.1.1.2.2), (), (), (g.2.2.1.2.2.2.1.1, g.2.2.1.2.2.2.1.2.1, g.2.2.1.2.2.2.1.2.2.1, g.2.2.1.2.2.2.1.2.2.2), ()), g.2.2.2.1, g.2.2.2.2.1, ())).bind fun v => (f11 k ((((), ()), ([], ()), ()), ((g.2.2.2.2.2.1.1.1, g.2.2.2.2.2.1.1.2.1, g.2.2.2.2.2.1.1.2.2), (), (), (g.2.2.2.2.2.1.2.2.2.1.1, g.2.2.2.2.2.1.2.2.2.1.2.1, g.2.2.2.2.2.1.2.2.2.1.2.2.1, g.2.2.2.2.2.1.2.2.2.1.2.2.2), ()), g.2.2.2.2.2.2.1, g.2.2.2.2.2.2.2.1, ())).bind fun v_1 => bif !v.1.2.1.1 then some (((true, ()), ()), ()) else bif !v_1.1.2.1.1 then some (((true, ()), ()), ()) else bif v.1.1.1.1 != v_1.1.1.1.1 then some (((false, ()), ()), ()) else bif v.1.1.1.2.1 != v_1.1.1.1.2.1 then some (((false, ()), ()), ()) else bif v.1.1.1.2.2.2.1 != v_1.1.1.1.2.2.2.1 then some (((false, ()), ()), ()) else (f12 k (((v.1.1.1.2.2.2.2, ()), (v_1.1.1.1.2.2.2.2, ()), ()), ())).bind fun v_2 => bif !v_2.1.1.1 then some (((false, ()), ()), ()) else (f13 k ((((), ()), ((0 : Int), ()), (g.2.1.1.1, ()), ()), ((v.2.1.1.1, v.2.1.1.2.1, v.2.1.1.2.2), (), (), (v.2.1.2.2.2.1.1, v.2.1.2.2.2.1.2.1, v.2.1.2.2.2.1.2.2.1, v.2.1.2.2.2.1.2.2.2), ()), v.2.2.1, v.2.2.2.2.1, ())).bind fun v_3 => (f13 k ((((), ()), ((0 : Int), ()), (g.2.1.1.1, ()), ()), ((v_1.2.1.1.1, v_1.2.1.1.2.1, v_1.2.1.1.2.2), (), (), (v_1.2.1.2.2.2.1.1, v_1.2.1.2.2.2.1.2.1, v_1.2.1.2.2.2.1.2.2.1, v_1.2.1.2.2.2.1.2.2.2), ()), v_1.2.2.1, v_1.2.2.2.2.1, ())).bind fun v_4 => (f14 k (((v_3.1.1.1, ()), (v_4.1.1.1, ()), ()), ())).bind fun v_5 => bif !v_5.1.1.1 then some (((false, ()), ()), ()) else bif v.1.1.1.1 != (3 : Int) then L1 (((g.1.1.1, ()), (g.1.2.1.1, ()), ((), ()), ((), ()), ((), ()), (IntKind.i64.wrap (g.1.2.2.2.2.2.1.1 + (1 : Int)), ()), ()), ((g.2.1.1.1, g.2.1.1.2.1, g.2.1.1.2.2), ()), ((v.2.1.1.1, v.2.1.1.2.1, v.2.1.1.2.2), (), (), (v.2.1.2.2.2.1.1, v.2.1.2.2.2.1.2.1, v.2.1.2.2.2.1.2.2.1, v.2.1.2.2.2.1.2.2.2), ()), v.2.2.1, v.2.2.2.2.1, ((v_1.2.1.1.1, v_1.2.1.1.2.1, v_1.2.1.1.2.2), (), (), (v_1.2.1.2.2.2.1.1, v_1.2.1.2.2.2.1.2.1, v_1.2.1.2.2.2.1.2.2.1, v_1.2.1.2.2.2.1.2.2.2), ()), v_1.2.2.1, v_1.2.2.2.2.1, ()) else bif decide (g.1.2.2.2.2.2.2.1.1 < (↑g.1.2.1.1.length : Int)) then bif decide ((0 : Int) ≤ g.1.2.2.2.2.2.2.1.1 ∧ g.1.2.2.2.2.2.2.1.1 < (↑g.1.2.1.1.length : Int)) then (f15 k ((((), ()), (ia g.1.2.1.1 g.1.2.2.2.2.2.2.1.1.toNat, ()), ()), ((v.2.1.1.1, v.2.1.1.2.1, v.2.1.1.2.2), (), (), (v.2.1.2.2.2.1.1, v.2.1.2.2.2.1.2.1, v.2.1.2.2.2.1.2.2.1, v.2.1.2.2.2.1.2.2.2), ()), v.2.2.1, v.2.2.2.2.1, ())).bind fun v_6 => bif v_6.1.1.1 != (0 : Int) then some (((false, ()), ()), ()) else (f15 k ((((), ()), (ia g.1.2.1.1 g.1.2.2.2.2.2.2.1.1.toNat, ()), ()), ((v_1.2.1.1.1, v_1.2.1.1.2.1, v_1.2.1.1.2.2), (), (), (v_1.2.1.2.2.2.1.1, v_1.2.1.2.2.2.1.2.1, v_1.2.1.2.2.2.1.2.2.1, v_1.2.1.2.2.2.1.2.2.2), ()), v_1.2.2.1, v_1.2.2.2.2.1, ())).bind fun v => bif v.1.1.1 != (0 : Int) then some (((false, ()), ()), ()) else L (((g.1.1.1, ()), (g.1.2.1.1, ()), ((), ()), ((), ()), ((), ()), (g.1.2.2.2.2.2.1.1, ()), (IntKind.i64.wrap (g.1.2.2.2.2.2.2.1.1 + (1 : Int)), ()), ()), ((g.2.1.1.1, g.2.1.1.2.1, g.2.1.1.2.2), ()), ((v_6.2.1.1.1, v_6.2.1.1.2.1, v_6.2.1.1.2.2), (), (), (v_6.2.1.2.2.2.1.1, v_6.2.1.2.2.2.1.2.1, v_6.2.1.2.2.2.1.2.2.1, v_6.2.1.2.2.2.1.2.2.2), ()), v_6.2.2.1, v_6.2.2.2.1, ((v.2.1.1.1, v.2.1.1.2.1, v.2.1.1.2.2), (), (), (v.2.1.2.2.2.1.1, v.2.1.2.2.2.1.2.1, v.2.1.2.2.2.1.2.2.1, v.2.1.2.2.2.1.2.2.2), ()), v.2.2.1, v.2.2.2.1, ()) else none else (f15 k ((((), ()), (g.1.2.2.2.2.2.2.1.1, ()), ()), ((v.2.1.1.1, v.2.1.1.2.1, v.2.1.1.2.2), (), (), (v.2.1.2.2.2.1.1, v.2.1.2.2.2.1.2.1, v.2.1.2.2.2.1.2.2.1, v.2.1.2.2.2.1.2.2.2), ()), v.2.2.1, v.2.2.2.2.1, ())).bind fun v_6 => bif v_6.1.1.1 != (0 : Int) then some (((false, ()), ()), ()) else (f15 k ((((), ()), (g.1.2.2.2.2.2.2.1.1, ()), ()), ((v_1.2.1.1.1, v_1.2.1.1.2.1, v_1.2.1.1.2.2), (), (), (v_1.2.1.2.2.2.1.1, v_1.2.1.2.2.2.1.2.1, v_1.2.1.2.2.2.1.2.2.1, v_1.2.1.2.2.2.1.2.2.2), ()), v_1.2.2.1, v_1.2.2.2.2.1, ())).bind fun v => bif v.1.1.1 != (0 : Int) then some (((false, ()), ()), ()) else L (((g.1.1.1, ()), (g.1.2.1.1, ()), ((), ()), ((), ()), ((), ()), (g.1.2.2.2.2.2.1.1, ()), (IntKind.i64.wrap (g.1.2.2.2.2.2.2.1.1 + (1 : Int)), ()), ()), ((g.2.1.1.1, g.2.1.1.2.1, g.2.1.1.2.2), ()), ((v_6.2.1.1.1, v_6.2.1.1.2.1, v_6.2.1.1.2.2), (), (), (v_6.2.1.2.2.2.1.1, v_6.2.1.2.2.2.1.2.1, v_6.2.1.2.2.2.1.2.2.1, v_6.2.1.2.2.2.1.2.2.2), ()), v_6.2.2.1, v_6.2.2.2.1, ((v.2.1.1.1, v.2.1.1.2.1, v.2.1.1.2.2), (), (), (v.2.1.2.2.2.1.1, v.2.1.2.2.2.1.2.1, v.2.1.2.2.2.1.2.2.1, v.2.1.2.2.2.1.2.2.2), ()), v.2.2.1, v.2.2.2.1, ()) else L1 (((g.1.1.1, ()), (g.1.2.1.1, ()), ((), ()), ((), ()), ((), ()), (IntKind.i64.wrap (g.1.2.2.2.2.2.1.1 + (1 : Int)), ()), ()), ((g.2.1.1.1, g.2.1.1.2.1, g.2.1.1.2.2), ()), ((g.2.2.1.1.1, g.2.2.1.1.2.1, g.2.2.1.1.2.2), (), (), (g.2.2.1.2.2.2.1.1, g.2.2.1.2.2.2.1.2.1, g.2.2.1.2.2.2.1.2.2.1, g.2.2.1.2.2.2.1.2.2.2), ()), g.2.2.2.1, g.2.2.2.2.1, ((g.2.2.2.2.2.1.1.1, g.2.2.2.2.2.1.1.2.1, g.2.2.2.2.2.1.1.2.2), (), (), (g.2.2.2.2.2.1.2.2.2.1.1, g.2.2.2.2.2.1.2.2.2.1.2.1, g.2.2.2.2.2.1.2.2.2.1.2.2.1, g.2.2.2.2.2.1.2.2.2.1.2.2.2), ()), g.2.2.2.2.2.2.1, g.2.2.2.2.2.2.2.1, ())
def e3_1 (k : Nat) (m : Int) (d : List Int) (l : Fs) (p : List Int) (q : List Int) (g : ((List Int × Unit) × (List Int × Unit) × (Unit × Unit) × (Unit × Unit) × (Unit × Unit) × (Int × Unit) × Unit) × ((Int × List Int × Fs) × Unit) × ((Int × List Int × Fs) × Unit × Unit × (Bool × Int × List Int × Int) × Unit) × List Int × Fr × ((Int × List Int × Fs) × Unit × Unit × (Bool × Int × List Int × Int) × Unit) × List Int × Fr × Unit) (L : ((List Int × Unit) × (List Int × Unit) × (Unit × Unit) × (Unit × Unit) × (Unit × Unit) × (Int × Unit) × Unit) × ((Int × List Int × Fs) × Unit) × ((Int × List Int × Fs) × Unit × Unit × (Bool × Int × List Int × Int) × Unit) × List Int × Fr × ((Int × List Int × Fs) × Unit × Unit × (Bool × Int × List Int × Int) × Unit) × List Int × Fr × Unit → Option (((Bool × Unit) × Unit) × Unit)) : Option (((Bool × Unit) × Unit) × Unit) := bif decide (g.1.2.2.2.2.2.1.1 < (3 : Int)) then (f10 k ((((), ()), (g.1.2.2.2.2.2.1.1, ()), ((5 : Int), ()), ((6 : Int), ()), ()), ((g.2.2.1.1.1, g.2.2.1.1.2.1, g.2.2.1.1.2.2), (), (), (g.2.2.1.2.2.2.1.1, g.2.2.1.2.2.2.1.2.1, g.2.2.1.2.2.2.1.2.2.1, g.2.2.1.2.2.2.1.2.2.2), ()), g.2.2.2.1, g.2.2.2.2.1, ())).bind fun v => (f10 k ((((), ()), (g.1.2.2.2.2.2.1.1, ()), ((5 : Int), ()), ((6 : Int), ()), ()), ((g.2.2.2.2.2.1.1.1, g.2.2.2.2.2.1.1.2.1, g.2.2.2.2.2.1.1.2.2), (), (), (g.2.2.2.2.2.1.2.2.2.1.1, g.2.2.2.2.2.1.2.2.2.1.2.1, g.2.2.2.2.2.1.2.2.2.1.2.2.1, g.2.2.2.2.2.1.2.2.2.1.2.2.2), ()), g.2.2.2.2.2.2.1, g.2.2.2.2.2.2.2.1, ())).bind fun v_1 => loopN (e3_0 k m d l p q L) k (((g.1.1.1, ()), (g.1.2.1.1, ()), ((), ()), ((), ()), ((), ()), (g.1.2.2.2.2.2.1.1, ()), ((0 : Int), ()), ()), ((g.2.1.1.1, g.2.1.1.2.1, g.2.1.1.2.2), ()), ((v.2.1.1.1, v.2.1.1.2.1, v.2.1.1.2.2), (), (), (v.2.1.2.2.2.1.1, v.2.1.2.2.2.1.2.1, v.2.1.2.2.2.1.2.2.1, v.2.1.2.2.2.1.2.2.2), ()), v.2.2.1, v.2.2.2.2.1, ((v_1.2.1.1.1, v_1.2.1.1.2.1, v_1.2.1.1.2.2), (), (), (v_1.2.1.2.2.2.1.1, v_1.2.1.2.2.2.1.2.1, v_1.2.1.2.2.2.1.2.2.1, v_1.2.1.2.2.2.1.2.2.2), ()), v_1.2.2.1, v_1.2.2.2.2.1, ()) else some (((true, ()), ()), ())
def e3_0g (k : Nat) (q8 : F8.pre.T → Option F8.post.T) (q9 : F9.pre.T → Option F9.post.T) (q10 : F10.pre.T → Option F10.post.T) (q11 : F11.pre.T → Option F11.post.T) (q12 : F12.pre.T → Option F12.post.T) (q13 : F13.pre.T → Option F13.post.T) (q14 : F14.pre.T → Option F14.post.T) (q15 : F15.pre.T → Option F15.post.T) (m : Int) (d : List Int) (l : Fs) (p : List Int) (q : List Int) (L1 : ((List Int × Unit) × (List Int × Unit) × (Unit × Unit) × (Unit × Unit) × (Unit × Unit) × (Int × Unit) × Unit) × ((Int × List Int × Fs) × Unit) × ((Int × List Int × Fs) × Unit × Unit × (Bool × Int × List Int × Int) × Unit) × List Int × Fr × ((Int × List Int × Fs) × Unit × Unit × (Bool × Int × List Int × Int) × Unit) × List Int × Fr × Unit → Option (((Bool × Unit) × Unit) × Unit)) (g : ((List Int × Unit) × (List Int × Unit) × (Unit × Unit) × (Unit × Unit) × (Unit × Unit) × (Int × Unit) × (Int × Unit) × Unit) × ((Int × List Int × Fs) × Unit) × ((Int × List Int × Fs) × Unit × Unit × (Bool × Int × List Int × Int) × Unit) × List Int × Fr × ((Int × List Int × Fs) × Unit × Unit × (Bool × Int × List Int × Int) × Unit) × List Int × Fr × Unit) (L : ((List Int × Unit) × (List Int × Unit) × (Unit × Unit) × (Unit × Unit) × (Unit × Unit) × (Int × Unit) × (Int × Unit) × Unit) × ((Int × List Int × Fs) × Unit) × ((Int × List Int × Fs) × Unit × Unit × (Bool × Int × List Int × Int) × Unit) × List Int × Fr × ((Int × List Int × Fs) × Unit × Unit × (Bool × Int × List Int × Int) × Unit) × List Int × Fr × Unit → Option (((Bool × Unit) × Unit) × Unit)) : Option (((Bool × Unit) × Unit) × Unit) := bif decide (g.1.2.2.2.2.2.2.1.1 < (20 : Int)) then (q11 ((((), ()), (g.1.1.1, ()), ()), ((g.2.2.1.1.1, g.2.2.1.1.2.1, g.2.2.1.1.2.2), (), (), (g.2.2.1.2.2.2.1.1, g.2.2.1.2.2.2.1.2.1, g.2.2.1.2.2.2.1.2.2.1, g.2.2.1.2.2.2.1.2.2.2), ()), g.2.2.2.1, g.2.2.2.2.1, ())).bind fun v => (q11 ((((), ()), ([], ()), ()), ((g.2.2.2.2.2.1.1.1, g.2.2.2.2.2.1.1.2.1, g.2.2.2.2.2.1.1.2.2), (), (), (g.2.2.2.2.2.1.2.2.2.1.1, g.2.2.2.2.2.1.2.2.2.1.2.1, g.2.2.2.2.2.1.2.2.2.1.2.2.1, g.2.2.2.2.2.1.2.2.2.1.2.2.2), ()), g.2.2.2.2.2.2.1, g.2.2.2.2.2.2.2.1, ())).bind fun v_1 => bif !v.1.2.1.1 then some (((true, ()), ()), ()) else bif !v_1.1.2.1.1 then some (((true, ()), ()), ()) else bif v.1.1.1.1 != v_1.1.1.1.1 then some (((false, ()), ()), ()) else bif v.1.1.1.2.1 != v_1.1.1.1.2.1 then some (((false, ()), ()), ()) else bif v.1.1.1.2.2.2.1 != v_1.1.1.1.2.2.2.1 then some (((false, ()), ()), ()) else (q12 (((v.1.1.1.2.2.2.2, ()), (v_1.1.1.1.2.2.2.2, ()), ()), ())).bind fun v_2 => bif !v_2.1.1.1 then some (((false, ()), ()), ()) else (q13 ((((), ()), ((0 : Int), ()), (g.2.1.1.1, ()), ()), ((v.2.1.1.1, v.2.1.1.2.1, v.2.1.1.2.2), (), (), (v.2.1.2.2.2.1.1, v.2.1.2.2.2.1.2.1, v.2.1.2.2.2.1.2.2.1, v.2.1.2.2.2.1.2.2.2), ()), v.2.2.1, v.2.2.2.2.1, ())).bind fun v_3 => (q13 ((((), ()), ((0 : Int), ()), (g.2.1.1.1, ()), ()), ((v_1.2.1.1.1, v_1.2.1.1.2.1, v_1.2.1.1.2.2), (), (), (v_1.2.1.2.2.2.1.1, v_1.2.1.2.2.2.1.2.1, v_1.2.1.2.2.2.1.2.2.1, v_1.2.1.2.2.2.1.2.2.2), ()), v_1.2.2.1, v_1.2.2.2.2.1, ())).bind fun v_4 => (q14 (((v_3.1.1.1, ()), (v_4.1.1.1, ()), ()), ())).bind fun v_5 => bif !v_5.1.1.1 then some (((false, ()), ()), ()) else bif v.1.1.1.1 != (3 : Int) then L1 (((g.1.1.1, ()), (g.1.2.1.1, ()), ((), ()), ((), ()), ((), ()), (IntKind.i64.wrap (g.1.2.2.2.2.2.1.1 + (1 : Int)), ()), ()), ((g.2.1.1.1, g.2.1.1.2.1, g.2.1.1.2.2), ()), ((v.2.1.1.1, v.2.1.1.2.1, v.2.1.1.2.2), (), (), (v.2.1.2.2.2.1.1, v.2.1.2.2.2.1.2.1, v.2.1.2.2.2.1.2.2.1, v.2.1.2.2.2.1.2.2.2), ()), v.2.2.1, v.2.2.2.2.1, ((v_1.2.1.1.1, v_1.2.1.1.2.1, v_1.2.1.1.2.2), (), (), (v_1.2.1.2.2.2.1.1, v_1.2.1.2.2.2.1.2.1, v_1.2.1.2.2.2.1.2.2.1, v_1.2.1.2.2.2.1.2.2.2), ()), v_1.2.2.1, v_1.2.2.2.2.1, ()) else bif decide (g.1.2.2.2.2.2.2.1.1 < (↑g.1.2.1.1.length : Int)) then bif decide ((0 : Int) ≤ g.1.2.2.2.2.2.2.1.1 ∧ g.1.2.2.2.2.2.2.1.1 < (↑g.1.2.1.1.length : Int)) then (q15 ((((), ()), (ia g.1.2.1.1 g.1.2.2.2.2.2.2.1.1.toNat, ()), ()), ((v.2.1.1.1, v.2.1.1.2.1, v.2.1.1.2.2), (), (), (v.2.1.2.2.2.1.1, v.2.1.2.2.2.1.2.1, v.2.1.2.2.2.1.2.2.1, v.2.1.2.2.2.1.2.2.2), ()), v.2.2.1, v.2.2.2.2.1, ())).bind fun v_6 => bif v_6.1.1.1 != (0 : Int) then some (((false, ()), ()), ()) else (q15 ((((), ()), (ia g.1.2.1.1 g.1.2.2.2.2.2.2.1.1.toNat, ()), ()), ((v_1.2.1.1.1, v_1.2.1.1.2.1, v_1.2.1.1.2.2), (), (), (v_1.2.1.2.2.2.1.1, v_1.2.1.2.2.2.1.2.1, v_1.2.1.2.2.2.1.2.2.1, v_1.2.1.2.2.2.1.2.2.2), ()), v_1.2.2.1, v_1.2.2.2.2.1, ())).bind fun v => bif v.1.1.1 != (0 : Int) then some (((false, ()), ()), ()) else L (((g.1.1.1, ()), (g.1.2.1.1, ()), ((), ()), ((), ()), ((), ()), (g.1.2.2.2.2.2.1.1, ()), (IntKind.i64.wrap (g.1.2.2.2.2.2.2.1.1 + (1 : Int)), ()), ()), ((g.2.1.1.1, g.2.1.1.2.1, g.2.1.1.2.2), ()), ((v_6.2.1.1.1, v_6.2.1.1.2.1, v_6.2.1.1.2.2), (), (), (v_6.2.1.2.2.2.1.1, v_6.2.1.2.2.2.1.2.1, v_6.2.1.2.2.2.1.2.2.1, v_6.2.1.2.2.2.1.2.2.2), ()), v_6.2.2.1, v_6.2.2.2.1, ((v.2.1.1.1, v.2.1.1.2.1, v.2.1.1.2.2), (), (), (v.2.1.2.2.2.1.1, v.2.1.2.2.2.1.2.1, v.2.1.2.2.2.1.2.2.1, v.2.1.2.2.2.1.2.2.2), ()), v.2.2.1, v.2.2.2.1, ()) else none else (q15 ((((), ()), (g.1.2.2.2.2.2.2.1.1, ()), ()), ((v.2.1.1.1, v.2.1.1.2.1, v.2.1.1.2.2), (), (), (v.2.1.2.2.2.1.1, v.2.1.2.2.2.1.2.1, v.2.1.2.2.2.1.2.2.1, v.2.1.2.2.2.1.2.2.2), ()), v.2.2.1, v.2.2.2.2.1, ())).bind fun v_6 => bif v_6.1.1.1 != (0 : Int) then some (((false, ()), ()), ()) else (q15 ((((), ()), (g.1.2.2.2.2.2.2.1.1, ()), ()), ((v_1.2.1.1.1, v_1.2.1.1.2.1, v_1.2.1.1.2.2), (), (), (v_1.2.1.2.2.2.1.1, v_1.2.1.2.2.2.1.2.1, v_1.2.1.2.2.2.1.2.2.1, v_1.2.1.2.2.2.1.2.2.2), ()), v_1.2.2.1, v_1.2.2.2.2.1, ())).bind fun v => bif v.1.1.1 != (0 : Int) then some (((false, ()), ()), ()) else L (((g.1.1.1, ()), (g.1.2.1.1, ()), ((), ()), ((), ()), ((), ()), (g.1.2.2.2.2.2.1.1, ()), (IntKind.i64.wrap (g.1.2.2.2.2.2.2.1.1 + (1 : Int)), ()), ()), ((g.2.1.1.1, g.2.1.1.2.1, g.2.1.1.2.2), ()), ((v_6.2.1.1.1, v_6.2.1.1.2.1, v_6.2.1.1.2.2), (), (), (v_6.2.1.2.2.2.1.1, v_6.2.1.2.2.2.1.2.1, v_6.2.1.2.2.2.1.2.2.1, v_6.2.1.2.2.2.1.2.2.2), ()), v_6.2.2.1, v_6.2.2.2.1, ((v.2.1.1.1, v.2.1.1.2.1, v.2.1.1.2.2), (), (), (v.2.1.2.2.2.1.1, v.2.1.2.2.2.1.2.1, v.2.1.2.2.2.1.2.2.1, v.2.1.2.2.2.1.2.2.2), ()), v.2.2.1, v.2.2.2.1, ()) else L1 (((g.1.1.1, ()), (g.1.2.1.1, ()), ((), ()), ((), ()), ((), ()), (IntKind.i64.wrap (g.1.2.2.2.2.2.1.1 + (1 : Int)), ()), ()), ((g.2.1.1.1, g.2.1.1.2.1, g.2.1.1.2.2), ()), ((g.2.2.1.1.1, g.2.2.1.1.2.1, g.2.2.1.1.2.2), (), (), (g.2.2.1.2.2.2.1.1, g.2.2.1.2.2.2.1.2.1, g.2.2.1.2.2.2.1.2.2.1, g.2.2.1.2.2.2.1.2.2.2), ()), g.2.2.2.1, g.2.2.2.2.1, ((g.2.2.2.2.2.1.1.1, g.2.2.2.2.2.1.1.2.1, g.2.2.2.2.2.1.1.2.2), (), (), (g.2.2.2.2.2.1.2.2.2.1.1, g.2.2.2.2.2.1.2.2.2.1.2.1, g.2.2.2.2.2.1.2.2.2.1.2.2.1, g.2.2.2.2.2.1.2.2.2.1.2.2.2), ()), g.2.2.2.2.2.2.1, g.2.2.2.2.2.2.2.1, ())
def e3_1g (k : Nat) (q8 : F8.pre.T → Option F8.post.T) (q9 : F9.pre.T → Option F9.post.T) (q10 : F10.pre.T → Option F10.post.T) (q11 : F11.pre.T → Option F11.post.T) (q12 : F12.pre.T → Option F12.post.T) (q13 : F13.pre.T → Option F13.post.T) (q14 : F14.pre.T → Option F14.post.T) (q15 : F15.pre.T → Option F15.post.T) (m : Int) (d : List Int) (l : Fs) (p : List Int) (q : List Int) (g : ((List Int × Unit) × (List Int × Unit) × (Unit × Unit) × (Unit × Unit) × (Unit × Unit) × (Int × Unit) × Unit) × ((Int × List Int × Fs) × Unit) × ((Int × List Int × Fs) × Unit × Unit × (Bool × Int × List Int × Int) × Unit) × List Int × Fr × ((Int × List Int × Fs) × Unit × Unit × (Bool × Int × List Int × Int) × Unit) × List Int × Fr × Unit) (L : ((List Int × Unit) × (List Int × Unit) × (Unit × Unit) × (Unit × Unit) × (Unit × Unit) × (Int × Unit) × Unit) × ((Int × List Int × Fs) × Unit) × ((Int × List Int × Fs) × Unit × Unit × (Bool × Int × List Int × Int) × Unit) × List Int × Fr × ((Int × List Int × Fs) × Unit × Unit × (Bool × Int × List Int × Int) × Unit) × List Int × Fr × Unit → Option (((Bool × Unit) × Unit) × Unit)) : Option (((Bool × Unit) × Unit) × Unit) := bif decide (g.1.2.2.2.2.2.1.1 < (3 : Int)) then (q10 ((((), ()), (g.1.2.2.2.2.2.1.1, ()), ((5 : Int), ()), ((6 : Int), ()), ()), ((g.2.2.1.1.1, g.2.2.1.1.2.1, g.2.2.1.1.2.2), (), (), (g.2.2.1.2.2.2.1.1, g.2.2.1.2.2.2.1.2.1, g.2.2.1.2.2.2.1.2.2.1, g.2.2.1.2.2.2.1.2.2.2), ()), g.2.2.2.1, g.2.2.2.2.1, ())).bind fun v => (q10 ((((), ()), (g.1.2.2.2.2.2.1.1, ()), ((5 : Int), ()), ((6 : Int), ()), ()), ((g.2.2.2.2.2.1.1.1, g.2.2.2.2.2.1.1.2.1, g.2.2.2.2.2.1.1.2.2), (), (), (g.2.2.2.2.2.1.2.2.2.1.1, g.2.2.2.2.2.1.2.2.2.1.2.1, g.2.2.2.2.2.1.2.2.2.1.2.2.1, g.2.2.2.2.2.1.2.2.2.1.2.2.2), ()), g.2.2.2.2.2.2.1, g.2.2.2.2.2.2.2.1, ())).bind fun v_1 => loopN (e3_0g k q8 q9 q10 q11 q12 q13 q14 q15 m d l p q L) k (((g.1.1.1, ()), (g.1.2.1.1, ()), ((), ()), ((), ()), ((), ()), (g.1.2.2.2.2.2.1.1, ()), ((0 : Int), ()), ()), ((g.2.1.1.1, g.2.1.1.2.1, g.2.1.1.2.2), ()), ((v.2.1.1.1, v.2.1.1.2.1, v.2.1.1.2.2), (), (), (v.2.1.2.2.2.1.1, v.2.1.2.2.2.1.2.1, v.2.1.2.2.2.1.2.2.1, v.2.1.2.2.2.1.2.2.2), ()), v.2.2.1, v.2.2.2.2.1, ((v_1.2.1.1.1, v_1.2.1.1.2.1, v_1.2.1.1.2.2), (), (), (v_1.2.1.2.2.2.1.1, v_1.2.1.2.2.2.1.2.1, v_1.2.1.2.2.2.1.2.2.1, v_1.2.1.2.2.2.1.2.2.2), ()), v_1.2.2.1, v_1.2.2.2.2.1, ()) else some (((true, ()), ()), ())

theorem e3_gen (k : Nat) (q8 : F8.pre.T → Option F8.post.T) (q9 : F9.pre.T → Option F9.post.T) (q10 : F10.pre.T → Option F10.post.T) (q11 : F11.pre.T → Option F11.post.T) (q12 : F12.pre.T → Option F12.post.T) (q13 : F13.pre.T → Option F13.post.T) (q14 : F14.pre.T → Option F14.post.T) (q15 : F15.pre.T → Option F15.post.T) (m : Int) (d : List Int) (l : Fs) (p : List Int) (q : List Int) : runFn Try.prog ti [Fm.entry Try.prog F8 8 q8, Fm.entry Try.prog F9 9 q9, Fm.entry Try.prog F10 10 q10, Fm.entry Try.prog F11 11 q11, Fm.entry Try.prog F12 12 q12, Fm.entry Try.prog F13 13 q13, Fm.entry Try.prog F14 14 q14, Fm.entry Try.prog F15 15 q15] F3 Try.f3 k ((((m, d, l), ()), (p, ()), (q, ()), ()), ()) = (q8 ((), ())).bind fun v => bif !v.1.1.1 then some (((false, ()), ()), ()) else (q9 ((((m, d, l), ()), ()), ())).bind fun v_1 => (q9 ((((m, d, l), ()), ()), ())).bind fun v => bif v_1.1.2.1.1 != v.1.2.1.1 then some (((false, ()), ()), ()) else bif !false == (v_1.1.2.1.1 != (0 : Int)) then some (((false, ()), ()), ()) else loopN (e3_1g k q8 q9 q10 q11 q12 q13 q14 q15 m d l p q) k (((p, ()), (q, ()), ((), ()), ((), ()), ((), ()), ((0 : Int), ()), ()), ((m, d, l), ()), ((v_1.2.1.1.1, v_1.2.1.1.2.1, v_1.2.1.1.2.2), (), (), (v_1.2.1.2.2.2.1.1, v_1.2.1.2.2.2.1.2.1, v_1.2.1.2.2.2.1.2.2.1, v_1.2.1.2.2.2.1.2.2.2), ()), v_1.2.2.1, v_1.2.2.2.1, ((v.2.1.1.1, v.2.1.1.2.1, v.2.1.1.2.2), (), (), (v.2.1.2.2.2.1.1, v.2.1.2.2.2.1.2.1, v.2.1.2.2.2.1.2.2.1, v.2.1.2.2.2.1.2.2.2), ()), v.2.2.1, v.2.2.2.1, ()) := by kernel_rfl
theorem e3_eq (k : Nat) (m : Int) (d : List Int) (l : Fs) (p : List Int) (q : List Int) : f3 k ((((m, d, l), ()), (p, ()), (q, ()), ()), ()) = (f8 k ((), ())).bind fun v => bif !v.1.1.1 then some (((false, ()), ()), ()) else (f9 k ((((m, d, l), ()), ()), ())).bind fun v_1 => (f9 k ((((m, d, l), ()), ()), ())).bind fun v => bif v_1.1.2.1.1 != v.1.2.1.1 then some (((false, ()), ()), ()) else bif !false == (v_1.1.2.1.1 != (0 : Int)) then some (((false, ()), ()), ()) else loopN (e3_1 k m d l p q) k (((p, ()), (q, ()), ((), ()), ((), ()), ((), ()), ((0 : Int), ()), ()), ((m, d, l), ()), ((v_1.2.1.1.1, v_1.2.1.1.2.1, v_1.2.1.1.2.2), (), (), (v_1.2.1.2.2.2.1.1, v_1.2.1.2.2.2.1.2.1, v_1.2.1.2.2.2.1.2.2.1, v_1.2.1.2.2.2.1.2.2.2), ()), v_1.2.2.1, v_1.2.2.2.1, ((v.2.1.1.1, v.2.1.1.2.1, v.2.1.1.2.2), (), (), (v.2.1.2.2.2.1.1, v.2.1.2.2.2.1.2.1, v.2.1.2.2.2.1.2.2.1, v.2.1.2.2.2.1.2.2.2), ()), v.2.2.1, v.2.2.2.1, ()) := e3_gen k (f8 k) (f9 k) (f10 k) (f11 k) (f12 k) (f13 k) (f14 k) (f15 k) m d l p q
theorem bytes_loop : ∀ (e i k : Nat) (a : List Int), i + e = a.length → e + 1 ≤ k → a.length ≤ 2000 → loopN e14_0 k (((a, ()), (a, ()), ((i : Int), ()), ()), ()) = some (((true, ()), ()), ()) := by
  intro e
  induction e with
  | zero =>
    intro i k a hi hk hl
    obtain ⟨k, rfl⟩ : ∃ k2, k = k2 + 1 := ⟨k - 1, by omega⟩
    rw [loopN_succ, e14_0]
    simp only []
    rw [cneg (by omega)]
  | succ e ih =>
    intro i k a hi hk hl
    obtain ⟨k, rfl⟩ : ∃ k2, k = k2 + 1 := ⟨k - 1, by omega⟩
    rw [loopN_succ, e14_0]
    simp only []
    rw [cpos (by omega), cpos (by omega), cpos (by omega), nneg rfl, cond_false, wrapId (by omega) (by omega)]
    have h := ih (i + 1) k a (by omega) (by omega) hl
    rw [show ((i + 1 : Nat) : Int) = (i : Int) + 1 by omega] at h
    exact h
theorem bytes_refl (k : Nat) (hk : 2001 ≤ k) (a : List Int) (hl : a.length ≤ 2000) : f14 k (((a, ()), (a, ()), ()), ()) = some (((true, ()), ()), ()) := by
  rw [e14_eq, nneg rfl, cond_false]
  exact bytes_loop a.length 0 k a (by omega) (by omega) hl
/-- what comes next that isn't Fuel -/
def Ends (K : Nat) (m : Int) (l : Fs) (S : St) (t : Tld) (S' : St) : Prop := (S.fr = [] ∧ S' = S ∧ t = (0, 0, 0, 0, [])) ∨ (S.fr ≠ [] ∧ ∃ n u, (runP K m l n S).2 = S' ∧ halted S' ∧ t = tell S' u)
abbrev R11 (m : Int) (l : Fs) (t : Tld) (b : Bool) (S : St) : Option (((Tld × Unit) × (Bool × Unit) × Unit) × MT × List Int × Unit × Fr × Unit) := some (((t, ()), (b, ()), ()), MS m [] l S.ak S.ca S.ar S.tr, S.c, (), S.fr, ())
/-- a slice of a run: it has come to the end, or goes on -/
theorem slice_ends {K : Nat} (hK : 2000 ≤ K) {m : Int} {l : Fs} {hs : Int → List Int} (hM : Mach K m l hs) (n : Int) (S : St) (hI : SInv m l hs S) : ((told K m l n S).1 ≠ 2 ∧ Ends K m l S (told K m l n S) (left K m l n S)) ∨
    ((told K m l n S).1 = 2 ∧ ∀ t S', Ends K m l (left K m l n S) t S' → Ends K m l S t S') := by
  by_cases h : S.fr = []
  · left
    rw [show told K m l n S = (0, 0, 0, 0, []) from if_pos h, show left K m l n S = S from if_pos h]
    exact ⟨by decide, .inl ⟨h, rfl, rfl⟩⟩
  · rw [told_go h, left_go h]
    by_cases hh : halted (runP K m l (fuelN n) S).2
    · left
      refine ⟨?_, .inr ⟨h, fuelN n, _, rfl, hh, rfl⟩⟩
      generalize (runP K m l (fuelN n) S).2 = S1 at *
      generalize (runP K m l (fuelN n) S).1 = u
      by_cases h1 : S1.tr = 0
      · rcases Bool.eq_false_or_eq_true S1.ak with hk | hk
        · rw [tell_asks h1 hk]; exact (show (3 : Int) ≠ 2 by decide)
        · have hf : S1.fr = [] := by
            rcases hh with a | a | a
            · exact absurd h1 a
            · rw [hk] at a; cases a
            · exact a
          rw [tell_done h1 hk hf]; exact (show (1 : Int) ≠ 2 by decide)
      · rw [tell_dead h1]; exact (show (4 : Int) ≠ 2 by decide)
    · right
      have hf : (runP K m l (fuelN n) S).2.fr ≠ [] := fun e => hh (.inr (.inr e))
      have h1 : (runP K m l (fuelN n) S).2.tr = 0 := by
        by_cases e : (runP K m l (fuelN n) S).2.tr = 0
        · exact e
        · exact absurd (.inl e) hh
      have hk : (runP K m l (fuelN n) S).2.ak = false := by
        rcases Bool.eq_false_or_eq_true (runP K m l (fuelN n) S).2.ak with e | e
        · exact absurd (.inr (.inl e)) hh
        · exact e
      refine ⟨by rw [tell_fuel h1 hk hf], fun t S' hE => ?_⟩
      rcases hE with ⟨a, _⟩ | ⟨_, n', u, e1, e2, e3⟩
      · exact absurd a hf
      · exact .inr ⟨h, fuelN n + n', u, by rw [← runP_add K m l _ _ _ hh]; exact e1, e2, e3⟩
abbrev E11s (m : Int) (l : Fs) (p : List Int) (used i : Int) (S : St) (tt : Tld) : ((Unit × Unit) × (List Int × Unit) × (Unit × Unit) × (Int × Unit) × (Int × Unit) × Unit) × MT × List Int × Unit × Fr × (Tld × Unit) × Unit := ((((), ()), (p, ()), ((), ()), (used, ()), (i, ()), ()), MS m [] l S.ak S.ca S.ar S.tr, S.c, (), S.fr, (tt, ()), ())
theorem until_loop {K : Nat} (hK : 6000 ≤ K) {m : Int} {l : Fs} {hs : Int → List Int} (hM : Mach K m l hs) (p : List Int) (P : List Int × Int × List Int × Fs × Bool × Int × List Int × Int × List Int × Fr) : ∀ (e i k : Nat) (used : Int) (S : St), i + e = 9000 → e + 1 ≤ k → SInv m l hs S →
    ∃ t b S', loopN (e11_0 K P.1 P.2.1 P.2.2.1 P.2.2.2.1 P.2.2.2.2.1 P.2.2.2.2.2.1 P.2.2.2.2.2.2.1 P.2.2.2.2.2.2.2.1 P.2.2.2.2.2.2.2.2.1 P.2.2.2.2.2.2.2.2.2) k (E11s m l p used (i : Int) S (0, 0, 0, 0, [])) = R11 m l t b S' ∧ SInv m l hs S' ∧ (b = true → Ends K m l S t S') := by
  intro e
  induction e with
  | zero =>
    intro i k used S hi hk hI
    obtain ⟨k, rfl⟩ : ∃ k2, k = k2 + 1 := ⟨k - 1, by omega⟩
    rw [loopN_succ, e11_0]
    simp only []
    rw [cneg (by omega)]
    exact ⟨_, _, S, rfl, hI, fun h => by cases h⟩
  | succ e ih =>
    intro i k used S hi hk hI
    obtain ⟨k, rfl⟩ : ∃ k2, k = k2 + 1 := ⟨k - 1, by omega⟩
    rw [loopN_succ, e11_0]
    simp only []
    rw [cpos (by omega), wrapId (n := (i : Int) + 1) (by omega) (by omega), show (i : Int) + 1 = ((i + 1 : Nat) : Int) by omega]
    by_cases h4 : used < 4000
    · rw [cpos h4]
      have step : ∀ n : Int, ∃ t b S', ((f16 K ((((), ()), (n, ()), ()), MS m [] l S.ak S.ca S.ar S.tr, S.c, S.fr, ())).bind fun v => bif decide (v.1.1.1.2.2.1 > n) then some ((((v.1.1.1.1, v.1.1.1.2.1, v.1.1.1.2.2.1, v.1.1.1.2.2.2.1, v.1.1.1.2.2.2.2), ()), (false, ()), ()), ((v.2.1.1.1, v.2.1.1.2.1, v.2.1.1.2.2), (), (), (v.2.1.2.2.2.1.1, v.2.1.2.2.2.1.2.1, v.2.1.2.2.2.1.2.2.1, v.2.1.2.2.2.1.2.2.2), ()), v.2.2.1, (), v.2.2.2.2.1, ()) else bif v.1.1.1.1 != (2 : Int) then some ((((v.1.1.1.1, v.1.1.1.2.1, v.1.1.1.2.2.1, v.1.1.1.2.2.2.1, v.1.1.1.2.2.2.2), ()), (true, ()), ()), ((v.2.1.1.1, v.2.1.1.2.1, v.2.1.1.2.2), (), (), (v.2.1.2.2.2.1.1, v.2.1.2.2.2.1.2.1, v.2.1.2.2.2.1.2.2.1, v.2.1.2.2.2.1.2.2.2), ()), v.2.2.1, (), v.2.2.2.2.1, ()) else
            loopN (e11_0 K P.1 P.2.1 P.2.2.1 P.2.2.2.1 P.2.2.2.2.1 P.2.2.2.2.2.1 P.2.2.2.2.2.2.1 P.2.2.2.2.2.2.2.1 P.2.2.2.2.2.2.2.2.1 P.2.2.2.2.2.2.2.2.2) k ((((), ()), (p, ()), ((), ()), (IntKind.i64.wrap (used + v.1.1.1.2.2.1), ()), (((i + 1 : Nat) : Int), ()), ()), ((v.2.1.1.1, v.2.1.1.2.1, v.2.1.1.2.2), (), (), (v.2.1.2.2.2.1.1, v.2.1.2.2.2.1.2.1, v.2.1.2.2.2.1.2.2.1, v.2.1.2.2.2.1.2.2.2), ()), v.2.2.1, (), v.2.2.2.2.1, (((0 : Int), (0 : Int), (0 : Int), (0 : Int), []), ()), ())) = R11 m l t b S' ∧ SInv m l hs S' ∧ (b = true → Ends K m l S t S') := by
        intro n
        rw [run_tot hK hM n S hI, Option.bind_some]
        simp only []
        have hL := left_inv (K := K) (by omega) hM n S hI
        by_cases hu : (told K m l n S).2.2.1 > n
        · rw [cpos hu]
          exact ⟨_, _, _, rfl, hL, fun h => by cases h⟩
        · rw [cneg hu]
          rcases slice_ends (K := K) (by omega) hM n S hI with ⟨a, b⟩ | ⟨a, b⟩
          · rw [npos a, cond_true]
            exact ⟨_, _, _, rfl, hL, fun _ => b⟩
          · rw [nneg a, cond_false]
            obtain ⟨t, b', S', g1, g2, g3⟩ := ih (i + 1) k (IntKind.i64.wrap (used + (told K m l n S).2.2.1)) (left K m l n S) (by omega) (by omega) hL
            exact ⟨t, b', S', g1, g2, fun h => b t S' (g3 h)⟩
      by_cases hp : ((p.length : Nat) : Int) > 0
      · have h1 : 0 ≤ (i : Int).tmod (p.length : Int) := Int.tmod_nonneg _ (by omega)
        have h2 : (i : Int).tmod (p.length : Int) < (p.length : Int) := Int.tmod_lt_of_pos _ hp
        rw [cpos hp, cpos (show ((p.length : Nat) : Int) ≠ 0 by omega), cpos ⟨h1, h2⟩]
        exact step _
      · rw [cneg hp]
        exact step 100
    · rw [cneg h4]
      exact ⟨_, _, S, rfl, hI, fun h => by cases h⟩
theorem until_tot {K : Nat} (hK : 9100 ≤ K) {m : Int} {l : Fs} {hs : Int → List Int} (hM : Mach K m l hs) (p : List Int) (S : St) (hI : SInv m l hs S) :
    ∃ t b S', f11 K ((((), ()), (p, ()), ()), MS m [] l S.ak S.ca S.ar S.tr, S.c, S.fr, ()) = R11 m l t b S' ∧ SInv m l hs S' ∧ (b = true → Ends K m l S t S') := by
  obtain ⟨t, b, S', g1, g2, g3⟩ := until_loop (K := K) (by omega) hM p (p, m, [], l, S.ak, S.ca, S.ar, S.tr, S.c, S.fr) 9000 0 K 0 S (by omega) (by omega) hI
  refine ⟨t, b, S', (e11_eq K p m [] l S.c S.fr S.ak S.ca S.ar S.tr).trans ?_, g2, g3⟩
  rw [List.take_length]
  exact g1
theorem ends_same {K : Nat} {m : Int} {l : Fs} {S S1 S2 : St} {t1 t2 : Tld} (h1 : Ends K m l S t1 S1) (h2 : Ends K m l S t2 S2) : S1 = S2 ∧ t1.1 = t2.1 ∧ t1.2.1 = t2.2.1 ∧ t1.2.2.2 = t2.2.2.2 ∧ (t1.1 = 3 → S1.tr = 0 ∧ S1.ak = true) ∧ (t1.2.2.2.2 = [] ∨ t1.2.2.2.2 = S1.ar) := by
  rcases h1 with ⟨a1, rfl, rfl⟩ | ⟨a1, n1, u1, e1, d1, rfl⟩
  · rcases h2 with ⟨a2, rfl, rfl⟩ | ⟨a2, _⟩
    · exact ⟨rfl, rfl, rfl, rfl, fun h => by simp at h, .inl rfl⟩
    · exact absurd a1 a2
  · rcases h2 with ⟨a2, _⟩ | ⟨a2, n2, u2, e2, d2, rfl⟩
    · exact absurd a2 a1
    · have e : S1 = S2 := by
        rw [← e1, ← e2]
        exact runP_meet K m l n1 n2 S (by rw [e1]; exact d1) (by rw [e2]; exact d2)
      subst e
      refine ⟨rfl, ?_⟩
      by_cases h1 : S1.tr = 0
      · rcases Bool.eq_false_or_eq_true S1.ak with hk | hk
        · rw [tell_asks h1 hk, tell_asks h1 hk]
          exact ⟨rfl, rfl, rfl, fun _ => ⟨h1, hk⟩, .inr rfl⟩
        · have hf : S1.fr = [] := by
            rcases d1 with a | a | a
            · exact absurd h1 a
            · rw [hk] at a; cases a
            · exact a
          rw [tell_done h1 hk hf, tell_done h1 hk hf]
          exact ⟨rfl, rfl, rfl, fun h => by simp at h, .inl rfl⟩
      · rw [tell_dead h1, tell_dead h1]
        exact ⟨rfl, rfl, rfl, fun h => by simp at h, .inl rfl⟩
abbrev E3o (m : Int) (d : List Int) (l : Fs) (p q : List Int) (i : Int) (S : St) : ((List Int × Unit) × (List Int × Unit) × (Unit × Unit) × (Unit × Unit) × (Unit × Unit) × (Int × Unit) × Unit) × ((Int × List Int × Fs) × Unit) × MT × List Int × Fr × MT × List Int × Fr × Unit := (((p, ()), (q, ()), ((), ()), ((), ()), ((), ()), (i, ()), ()), ((m, d, l), ()), MS m [] l S.ak S.ca S.ar S.tr, S.c, S.fr, MS m [] l S.ak S.ca S.ar S.tr, S.c, S.fr, ())
abbrev E3i (m : Int) (d : List Int) (l : Fs) (p q : List Int) (i j : Int) (S : St) : ((List Int × Unit) × (List Int × Unit) × (Unit × Unit) × (Unit × Unit) × (Unit × Unit) × (Int × Unit) × (Int × Unit) × Unit) × ((Int × List Int × Fs) × Unit) × MT × List Int × Fr × MT × List Int × Fr × Unit := (((p, ()), (q, ()), ((), ()), ((), ()), ((), ()), (i, ()), (j, ()), ()), ((m, d, l), ()), MS m [] l S.ak S.ca S.ar S.tr, S.c, S.fr, MS m [] l S.ak S.ca S.ar S.tr, S.c, S.fr, ())
abbrev VT3 : Type := Option (((Bool × Unit) × Unit) × Unit)
theorem parts_in {K : Nat} (hK : 9100 ≤ K) {m : Int} {l : Fs} {hs : Int → List Int} (hM : Mach K m l hs) (d p q : List Int) (m0 : Int) (d0 : List Int) (l0 : Fs) (p0 q0 : List Int) (i : Nat) (hi : i ≤ 10) (L1 : _ → VT3) (hL : ∀ S, SInv m l hs S → L1 (E3o m d l p q ((i : Int) + 1) S) = some (((true, ()), ()), ())) : ∀ (e j k : Nat) (S : St), j + e = 20 → e + 1 ≤ k → SInv m l hs S →
    loopN (e3_0 K m0 d0 l0 p0 q0 L1) k (E3i m d l p q (i : Int) (j : Int) S) = some (((true, ()), ()), ()) := by
  intro e
  induction e with
  | zero =>
    intro j k S hj hk hI
    obtain ⟨k, rfl⟩ : ∃ k2, k = k2 + 1 := ⟨k - 1, by omega⟩
    rw [loopN_succ, e3_0]
    simp only []
    rw [cneg (by omega), wrapId (n := (i : Int) + 1) (by omega) (by omega)]
    exact hL S hI
  | succ e ih =>
    intro j k S hj hk hI
    obtain ⟨k, rfl⟩ : ∃ k2, k = k2 + 1 := ⟨k - 1, by omega⟩
    obtain ⟨t1, b1, S1, r1, i1, c1⟩ := until_tot hK hM p S hI
    obtain ⟨t2, b2, S2, r2, i2, c2⟩ := until_tot hK hM [] S hI
    rw [loopN_succ, e3_0]
    simp only []
    rw [cpos (by omega), r1, Option.bind_some, r2, Option.bind_some]
    simp only []
    cases b1 with
    | false => rfl
    | true =>
      cases b2 with
      | false => rfl
      | true =>
        obtain ⟨rfl, q1, q2, q3, q4, q5⟩ := ends_same (c1 rfl) (c2 rfl)
        have hal : S1.ar.length ≤ 8 := i1.al
        have hmm := hM.mm
        have hmem : (S1.c.length : Int) = m := i1.mem
        have hargs : t1.2.2.2.2.length ≤ 8 := by
          rcases q5 with h | h <;> rw [h]
          · decide
          · exact hal
        rw [Bool.not_true, cond_false, cond_false, nneg q1, cond_false, nneg q2, cond_false, nneg (by rw [q3]), cond_false, ← q3, same_refl K (by omega) _ (by omega), Option.bind_some]
        simp only []
        have hm1 := mem_in (K := K) (a := 0) (n := m) (m := m) (d := []) (l := l) (c := S1.c) (fr := S1.fr) (asks := S1.ak) (call := S1.ca) (trap := S1.tr) (args := S1.ar) (by decide) hmm.1 (by omega) (by omega)
        rw [Bool.not_true, cond_false, hm1, Option.bind_some, Option.bind_some]
        simp only []
        rw [bytes_refl K (by omega) _ (by rw [List.length_take, List.length_drop]; omega), Option.bind_some]
        simp only []
        rw [Bool.not_true, cond_false]
        by_cases h3 : t1.1 = 3
        · obtain ⟨s1, s2⟩ := q4 h3
          have rep := fun v => rep_ok (K := K) hM i1 s2 v
          rw [nneg h3, cond_false, wrapId (n := (j : Int) + 1) (by omega) (by omega), show (j : Int) + 1 = ((j + 1 : Nat) : Int) by omega]
          by_cases h5 : (j : Int) < (q.length : Int)
          · obtain ⟨S2, g1, g2, g3, g4⟩ := rep (ia q (j : Int).toNat)
            rw [cpos h5, cpos ⟨by omega, h5⟩, g1, Option.bind_some, Option.bind_some]
            simp only []
            rw [nneg rfl, cond_false, cond_false]
            exact ih (j + 1) k S2 (by omega) (by omega) g2
          · obtain ⟨S2, g1, g2, g3, g4⟩ := rep (j : Int)
            rw [cneg h5, g1, Option.bind_some, Option.bind_some]
            simp only []
            rw [nneg rfl, cond_false, cond_false]
            exact ih (j + 1) k S2 (by omega) (by omega) g2
        · rw [npos h3, cond_true, wrapId (n := (i : Int) + 1) (by omega) (by omega)]
          exact hL S1 i1
theorem parts_out {K : Nat} (hK : 9100 ≤ K) {m : Int} {l : Fs} {hs : Int → List Int} (hM : Mach K m l hs) (d p q : List Int) (m0 : Int) (d0 : List Int) (l0 : Fs) (p0 q0 : List Int) : ∀ (e i k : Nat) (S : St), i + e = 3 → e + 1 ≤ k → SInv m l hs S →
    loopN (e3_1 K m0 d0 l0 p0 q0) k (E3o m d l p q (i : Int) S) = some (((true, ()), ()), ()) := by
  intro e
  induction e with
  | zero =>
    intro i k S hi hk hI
    obtain ⟨k, rfl⟩ : ∃ k2, k = k2 + 1 := ⟨k - 1, by omega⟩
    rw [loopN_succ, e3_1]
    simp only []
    rw [cneg (by omega)]
  | succ e ih =>
    intro i k S hi hk hI
    obtain ⟨k, rfl⟩ : ∃ k2, k = k2 + 1 := ⟨k - 1, by omega⟩
    rw [loopN_succ, e3_1]
    simp only []
    rw [cpos (by omega)]
    have go : ∀ {x : Int} {S1 : St}, f10 K ((((), ()), ((i : Int), ()), ((5 : Int), ()), ((6 : Int), ()), ()), MS m [] l S.ak S.ca S.ar S.tr, S.c, S.fr, ()) = R10 m l x S1 → SInv m l hs S1 → _ := fun {x S1} g1 g2 => parts_in hK hM d p q m0 d0 l0 p0 q0 i (by omega) (loopN (e3_1 K m0 d0 l0 p0 q0) k) (fun S2 h2 => by
        rw [show (i : Int) + 1 = ((i + 1 : Nat) : Int) by omega]
        exact ih (i + 1) k S2 (by omega) (by omega) h2) 20 0 K S1 (by omega) (by omega) g2
    by_cases h : S.tr = 0 ∧ S.fr = []
    · obtain ⟨g1, g2, _⟩ := beg_ok (K := K) hM hI h.1 h.2 (i : Int) 5 6
      rw [g1, Option.bind_some, Option.bind_some]
      exact go g1 g2
    · have g1 := beg_no (K := K) (m := m) (l := l) h (i : Int) 5 6
      rw [g1, Option.bind_some, Option.bind_some]
      exact go g1 hI
theorem law_parts (K : Nat) (hK : 9100 ≤ K + 60) (m : Int) (d : List Int) (l : Fs) (p q : List Int) :
    f3 (K + 60) ((((m, d, l), ()), (p, ()), (q, ()), ()), ()) = some (((true, ()), ()), ()) ∨ f103 (K + 60) ((((m, d, l), ()), (p, ()), (q, ()), ()), ()) = some (((true, ()), ()), ()) := by
  rcases new_tot (K := K + 60) (by omega) m d l with ⟨h1, hG⟩ | ⟨e, he, h1⟩
  · left
    obtain ⟨hs, hM⟩ := mach_of (K := K + 60) (by omega) hG
    have hmm := hM.mm
    rw [e3_eq, alive, Option.bind_some]
    simp only []
    rw [Bool.not_true, cond_false, h1, Option.bind_some, Option.bind_some]
    simp only []
    rw [nneg rfl, cond_false, show (!false == false) = false from rfl, cond_false]
    exact parts_out hK hM d p q m d l p q 3 0 (K + 60) ⟨false, 0, [], 0, memOf m d, []⟩ (by omega) (by omega) (Inv.done (mem_len m d hmm.1) (show (0 : Nat) ≤ 8 by decide))
  · right
    rw [e103_eq, alive, Option.bind_some]
    simp only []
    rw [Bool.not_true, cond_false, h1, Option.bind_some, Option.bind_some]
    rfl
theorem law3 (k : Nat) : ∀ e ∈ [Fm.entry Try.prog F8 8 (f8 k), Fm.entry Try.prog F9 9 (f9 k), Fm.entry Try.prog F10 10 (f10 k), Fm.entry Try.prog F11 11 (f11 k), Fm.entry Try.prog F12 12 (f12 k), Fm.entry Try.prog F13 13 (f13 k), Fm.entry Try.prog F14 14 (f14 k), Fm.entry Try.prog F15 15 (f15 k)], EGood Try.prog e := goods_cons (g8 k) (goods_cons (g9 k) (goods_cons (g10 k) (goods_cons (g11 k) (goods_cons (g12 k) (goods_cons (g13 k) (goods_cons (g14 k) (goods_cons (g15 k) goods_nil)))))))
theorem law103 (k : Nat) : ∀ e ∈ [Fm.entry Try.prog F8 8 (f8 k), Fm.entry Try.prog F109 9 (f109 k), Fm.entry Try.prog F10 10 (f10 k), Fm.entry Try.prog F11 11 (f11 k), Fm.entry Try.prog F12 12 (f12 k), Fm.entry Try.prog F13 13 (f13 k), Fm.entry Try.prog F14 14 (f14 k), Fm.entry Try.prog F15 15 (f15 k)], EGood Try.prog e := goods_cons (g8 k) (goods_cons (g109 k) (goods_cons (g10 k) (goods_cons (g11 k) (goods_cons (g12 k) (goods_cons (g13 k) (goods_cons (g14 k) (goods_cons (g15 k) goods_nil)))))))
theorem vmParts {p b1 b2 : Prop} (x : Int × List Int × Fs) (y z : List Int) (_ : p) (_ : b1) (_ : b2) : f3 (9100 + 60) (((x, ()), (y, ()), (z, ()), ()), ()) = some (((true, ()), ()), ()) ∨ f103 (9100 + 60) (((x, ()), (y, ()), (z, ()), ()), ()) = some (((true, ()), ()), ()) :=
  law_parts 9100 (by decide) x.1 x.2.1 x.2.2 y z
end
end Go.Proofs.Ytjbdeccohpbegaa.Vm
