import Derived.Test.YtjbdeccohpbegaaVM
import Derived.Test.YtjbdeccohpbegaaVAl
namespace Go.Proofs.Ytjbdeccohpbegaa.Vm
open Go Go.RowKit Go.Proofs Go.Proofs.Ytjbdeccohpbegaa.X
set_option linter.unusedVariables false
set_option linter.unusedSimpArgs false
noncomputable section
/-! The law VmSums -/
def e5_0 (g : ((Int × Unit) × (Int × Unit) × (List Int × Unit) × (List Int × Unit) × (Int × Unit) × (Int × Unit) × (Int × Unit) × Unit) × Unit) (L : ((Int × Unit) × (Int × Unit) × (List Int × Unit) × (List Int × Unit) × (Int × Unit) × (Int × Unit) × (Int × Unit) × Unit) × Unit → Option (((Bool × Unit) × Unit) × Unit)) : Option (((Bool × Unit) × Unit) × Unit) := bif decide (g.1.2.2.2.2.2.2.1.1 ≥ (0 : Int)) then bif decide ((0 : Int) ≤ g.1.2.2.2.2.2.2.1.1 ∧ g.1.2.2.2.2.2.2.1.1 < (↑g.1.2.2.1.1.length : Int)) then bif decide ((0 : Int) ≤ g.1.2.2.2.2.2.2.1.1 ∧ g.1.2.2.2.2.2.2.1.1 < (↑g.1.2.2.2.1.1.length : Int)) then L (((g.1.1.1, ()), (g.1.2.1.1, ()), (g.1.2.2.1.1, ()), (g.1.2.2.2.1.1, ()), (IntKind.u64.wrap (↑(BitVec.ofInt IntKind.u64.bits (IntKind.u64.wrap (g.1.2.2.2.2.1.1 * (2 : Int) ^ min (Int.toNat (8 : Int)) IntKind.u64.bits)) ||| BitVec.ofInt IntKind.u64.bits (IntKind.u64.wrap (ub g.1.2.2.1.1 g.1.2.2.2.2.2.2.1.1.toNat))).toNat : Int), ()), (IntKind.u64.wrap (↑(BitVec.ofInt IntKind.u64.bits (IntKind.u64.wrap (g.1.2.2.2.2.2.1.1 * (2 : Int) ^ min (Int.toNat (8 : Int)) IntKind.u64.bits)) ||| BitVec.ofInt IntKind.u64.bits (IntKind.u64.wrap (ub g.1.2.2.2.1.1 g.1.2.2.2.2.2.2.1.1.toNat))).toNat : Int), ()), (IntKind.i64.wrap (g.1.2.2.2.2.2.2.1.1 - (1 : Int)), ()), ()), ()) else none else none else bif IntKind.i64.wrap g.1.2.2.2.2.1.1 == g.1.2.1.1 then some (((IntKind.i64.wrap g.1.2.2.2.2.2.1.1 == g.1.1.1, ()), ()), ()) else some (((false, ()), ()), ())
def e5_1 (k : Nat) (d : List Int) (v : Int) (at_ : Int) (g : ((Int × Unit) × (Int × Unit) × (Unit × Unit) × (Unit × Unit) × (Int × Unit) × (List Int × Unit) × (Int × Unit) × (Int × Unit) × Unit) × ((Int × List Int × Fs) × Unit × Unit × (Bool × Int × List Int × Int) × Unit) × List Int × Fr × ((Int × Int × Int × Int × List Int) × Unit) × Unit) (L : ((Int × Unit) × (Int × Unit) × (Unit × Unit) × (Unit × Unit) × (Int × Unit) × (List Int × Unit) × (Int × Unit) × (Int × Unit) × Unit) × ((Int × List Int × Fs) × Unit × Unit × (Bool × Int × List Int × Int) × Unit) × List Int × Fr × ((Int × Int × Int × Int × List Int) × Unit) × Unit → Option (((Bool × Unit) × Unit) × Unit)) : Option (((Bool × Unit) × Unit) × Unit) := bif decide (g.1.2.2.2.2.2.2.2.1.1 < g.1.2.2.2.2.2.2.1.1) then bif decide ((0 : Int) ≤ g.1.2.2.2.2.2.2.2.1.1 ∧ g.1.2.2.2.2.2.2.2.1.1 < (↑g.1.2.2.2.2.2.1.1.length : Int)) then L (((g.1.1.1, ()), (g.1.2.1.1, ()), ((), ()), ((), ()), (IntKind.i64.wrap (g.1.2.2.2.2.1.1 + IntKind.i64.wrap (ub g.1.2.2.2.2.2.1.1 g.1.2.2.2.2.2.2.2.1.1.toNat)), ()), (g.1.2.2.2.2.2.1.1, ()), (g.1.2.2.2.2.2.2.1.1, ()), (IntKind.i64.wrap (g.1.2.2.2.2.2.2.2.1.1 + (1 : Int)), ()), ()), ((g.2.1.1.1, g.2.1.1.2.1, g.2.1.1.2.2), (), (), (g.2.1.2.2.2.1.1, g.2.1.2.2.2.1.2.1, g.2.1.2.2.2.1.2.2.1, g.2.1.2.2.2.1.2.2.2), ()), g.2.2.1, g.2.2.2.1, ((g.2.2.2.2.1.1.1, g.2.2.2.2.1.1.2.1, g.2.2.2.2.1.1.2.2.1, g.2.2.2.2.1.1.2.2.2.1, g.2.2.2.2.1.1.2.2.2.2), ()), ()) else none else (f13 k ((((), ()), (g.1.2.1.1, ()), ((8 : Int), ()), ()), ((g.2.1.1.1, g.2.1.1.2.1, g.2.1.1.2.2), (), (), (g.2.1.2.2.2.1.1, g.2.1.2.2.2.1.2.1, g.2.1.2.2.2.1.2.2.1, g.2.1.2.2.2.1.2.2.2), ()), g.2.2.1, g.2.2.2.1, ())).bind fun v_1 => (f13 k ((((), ()), (IntKind.i64.wrap (g.1.2.1.1 + (8 : Int)), ()), ((8 : Int), ()), ()), ((g.2.1.1.1, g.2.1.1.2.1, g.2.1.1.2.2), (), (), (g.2.1.2.2.2.1.1, g.2.1.2.2.2.1.2.1, g.2.1.2.2.2.1.2.2.1, g.2.1.2.2.2.1.2.2.2), ()), g.2.2.1, g.2.2.2.1, ())).bind fun v => bif g.2.2.2.2.1.1.1 != (1 : Int) then some (((false, ()), ()), ()) else bif !v_1.1.2.1.1 then some (((false, ()), ()), ()) else bif !v.1.2.1.1 then some (((false, ()), ()), ()) else loopN e5_0 k (((g.1.1.1, ()), (g.1.2.2.2.2.1.1, ()), (v_1.1.1.1, ()), (v.1.1.1, ()), ((0 : Int), ()), ((0 : Int), ()), ((7 : Int), ()), ()), ())
def e5_1g (k : Nat) (q8 : F8.pre.T → Option F8.post.T) (q19 : F19.pre.T → Option F19.post.T) (q18 : F18.pre.T → Option F18.post.T) (q9 : F9.pre.T → Option F9.post.T) (q10 : F10.pre.T → Option F10.post.T) (q16 : F16.pre.T → Option F16.post.T) (q13 : F13.pre.T → Option F13.post.T) (d : List Int) (v : Int) (at_ : Int) (g : ((Int × Unit) × (Int × Unit) × (Unit × Unit) × (Unit × Unit) × (Int × Unit) × (List Int × Unit) × (Int × Unit) × (Int × Unit) × Unit) × ((Int × List Int × Fs) × Unit × Unit × (Bool × Int × List Int × Int) × Unit) × List Int × Fr × ((Int × Int × Int × Int × List Int) × Unit) × Unit) (L : ((Int × Unit) × (Int × Unit) × (Unit × Unit) × (Unit × Unit) × (Int × Unit) × (List Int × Unit) × (Int × Unit) × (Int × Unit) × Unit) × ((Int × List Int × Fs) × Unit × Unit × (Bool × Int × List Int × Int) × Unit) × List Int × Fr × ((Int × Int × Int × Int × List Int) × Unit) × Unit → Option (((Bool × Unit) × Unit) × Unit)) : Option (((Bool × Unit) × Unit) × Unit) := bif decide (g.1.2.2.2.2.2.2.2.1.1 < g.1.2.2.2.2.2.2.1.1) then bif decide ((0 : Int) ≤ g.1.2.2.2.2.2.2.2.1.1 ∧ g.1.2.2.2.2.2.2.2.1.1 < (↑g.1.2.2.2.2.2.1.1.length : Int)) then L (((g.1.1.1, ()), (g.1.2.1.1, ()), ((), ()), ((), ()), (IntKind.i64.wrap (g.1.2.2.2.2.1.1 + IntKind.i64.wrap (ub g.1.2.2.2.2.2.1.1 g.1.2.2.2.2.2.2.2.1.1.toNat)), ()), (g.1.2.2.2.2.2.1.1, ()), (g.1.2.2.2.2.2.2.1.1, ()), (IntKind.i64.wrap (g.1.2.2.2.2.2.2.2.1.1 + (1 : Int)), ()), ()), ((g.2.1.1.1, g.2.1.1.2.1, g.2.1.1.2.2), (), (), (g.2.1.2.2.2.1.1, g.2.1.2.2.2.1.2.1, g.2.1.2.2.2.1.2.2.1, g.2.1.2.2.2.1.2.2.2), ()), g.2.2.1, g.2.2.2.1, ((g.2.2.2.2.1.1.1, g.2.2.2.2.1.1.2.1, g.2.2.2.2.1.1.2.2.1, g.2.2.2.2.1.1.2.2.2.1, g.2.2.2.2.1.1.2.2.2.2), ()), ()) else none else (q13 ((((), ()), (g.1.2.1.1, ()), ((8 : Int), ()), ()), ((g.2.1.1.1, g.2.1.1.2.1, g.2.1.1.2.2), (), (), (g.2.1.2.2.2.1.1, g.2.1.2.2.2.1.2.1, g.2.1.2.2.2.1.2.2.1, g.2.1.2.2.2.1.2.2.2), ()), g.2.2.1, g.2.2.2.1, ())).bind fun v_1 => (q13 ((((), ()), (IntKind.i64.wrap (g.1.2.1.1 + (8 : Int)), ()), ((8 : Int), ()), ()), ((g.2.1.1.1, g.2.1.1.2.1, g.2.1.1.2.2), (), (), (g.2.1.2.2.2.1.1, g.2.1.2.2.2.1.2.1, g.2.1.2.2.2.1.2.2.1, g.2.1.2.2.2.1.2.2.2), ()), g.2.2.1, g.2.2.2.1, ())).bind fun v => bif g.2.2.2.2.1.1.1 != (1 : Int) then some (((false, ()), ()), ()) else bif !v_1.1.2.1.1 then some (((false, ()), ()), ()) else bif !v.1.2.1.1 then some (((false, ()), ()), ()) else loopN e5_0 k (((g.1.1.1, ()), (g.1.2.2.2.2.1.1, ()), (v_1.1.1.1, ()), (v.1.1.1, ()), ((0 : Int), ()), ((0 : Int), ()), ((7 : Int), ()), ()), ())
def body5 (k : Nat) (d : List Int) (v at_ : Int) : Option (((Bool × Unit) × Unit) × Unit) := (f19 k ((((1 : Int), ()), ((0 : Int), ()), ()), ())).bind fun v_2 => (f19 k ((((6 : Int), ()), ((0 : Int), ()), ()), ())).bind fun v_3 => (f19 k ((((1 : Int), ()), ((0 : Int), ()), ()), ())).bind fun v_4 => (f19 k ((((6 : Int), ()), ((1 : Int), ()), ()), ())).bind fun v_5 => (f19 k ((((5 : Int), ()), ((1 : Int), ()), ()), ())).bind fun v_6 => (f19 k ((((1 : Int), ()), ((↑d.length : Int), ()), ()), ())).bind fun v_7 => (f19 k ((((18 : Int), ()), ((0 : Int), ()), ()), ())).bind fun v_8 => (f19 k ((((19 : Int), ()), ((0 : Int), ()), ()), ())).bind fun v_9 => (f19 k ((((25 : Int), ()), ((19 : Int), ()), ()), ())).bind fun v_10 => (f19 k ((((5 : Int), ()), ((1 : Int), ()), ()), ())).bind fun v_11 => (f19 k ((((20 : Int), ()), ((0 : Int), ()), ()), ())).bind fun v_12 => (f19 k ((((5 : Int), ()), ((0 : Int), ()), ()), ())).bind fun v_13 => (f19 k ((((7 : Int), ()), ((0 : Int), ()), ()), ())).bind fun v_14 => (f19 k ((((6 : Int), ()), ((0 : Int), ()), ()), ())).bind fun v_15 => (f19 k ((((5 : Int), ()), ((1 : Int), ()), ()), ())).bind fun v_16 => (f19 k ((((1 : Int), ()), ((1 : Int), ()), ()), ())).bind fun v_17 => (f19 k ((((7 : Int), ()), ((0 : Int), ()), ()), ())).bind fun v_18 => (f19 k ((((6 : Int), ()), ((1 : Int), ()), ()), ())).bind fun v_19 => (f19 k ((((24 : Int), ()), ((4 : Int), ()), ()), ())).bind fun v_20 => (f19 k ((((1 : Int), ()), ((↑d.length : Int), ()), ()), ())).bind fun v_21 => (f19 k ((((5 : Int), ()), ((0 : Int), ()), ()), ())).bind fun v_22 => (f19 k ((((23 : Int), ()), ((0 : Int), ()), ()), ())).bind fun v_23 => (f19 k ((((1 : Int), ()), (IntKind.i64.wrap (IntKind.i64.wrap at_ + (300 : Int)), ()), ()), ())).bind fun v_24 => (f19 k ((((1 : Int), ()), (v, ()), ()), ())).bind fun v_25 => (f19 k ((((23 : Int), ()), ((0 : Int), ()), ()), ())).bind fun v_26 => (f19 k ((((1 : Int), ()), (IntKind.i64.wrap (IntKind.i64.wrap at_ + (300 : Int)), ()), ()), ())).bind fun v_27 => (f19 k ((((22 : Int), ()), ((0 : Int), ()), ()), ())).bind fun v_28 => (f19 k ((((1 : Int), ()), (IntKind.i64.wrap ((↑d.length : Int) + (8 : Int)), ()), ()), ())).bind fun v_29 => (f19 k ((((4 : Int), ()), ((0 : Int), ()), ()), ())).bind fun v_30 => (f19 k ((((23 : Int), ()), ((0 : Int), ()), ()), ())).bind fun v_31 => (f19 k ((((27 : Int), ()), ((0 : Int), ()), ()), ())).bind fun v_32 => (f18 k ((([(v_2.1.1.1.1, v_2.1.1.1.2), (v_3.1.1.1.1, v_3.1.1.1.2), (v_4.1.1.1.1, v_4.1.1.1.2), (v_5.1.1.1.1, v_5.1.1.1.2), (v_6.1.1.1.1, v_6.1.1.1.2), (v_7.1.1.1.1, v_7.1.1.1.2), (v_8.1.1.1.1, v_8.1.1.1.2), (v_9.1.1.1.1, v_9.1.1.1.2), (v_10.1.1.1.1, v_10.1.1.1.2), (v_11.1.1.1.1, v_11.1.1.1.2), (v_12.1.1.1.1, v_12.1.1.1.2), (v_13.1.1.1.1, v_13.1.1.1.2), (v_14.1.1.1.1, v_14.1.1.1.2), (v_15.1.1.1.1, v_15.1.1.1.2), (v_16.1.1.1.1, v_16.1.1.1.2), (v_17.1.1.1.1, v_17.1.1.1.2), (v_18.1.1.1.1, v_18.1.1.1.2), (v_19.1.1.1.1, v_19.1.1.1.2), (v_20.1.1.1.1, v_20.1.1.1.2), (v_21.1.1.1.1, v_21.1.1.1.2), (v_22.1.1.1.1, v_22.1.1.1.2), (v_23.1.1.1.1, v_23.1.1.1.2), (v_24.1.1.1.1, v_24.1.1.1.2), (v_25.1.1.1.1, v_25.1.1.1.2), (v_26.1.1.1.1, v_26.1.1.1.2), (v_27.1.1.1.1, v_27.1.1.1.2), (v_28.1.1.1.1, v_28.1.1.1.2), (v_29.1.1.1.1, v_29.1.1.1.2), (v_30.1.1.1.1, v_30.1.1.1.2), (v_31.1.1.1.1, v_31.1.1.1.2), (v_32.1.1.1.1, v_32.1.1.1.2)], ()), ()), ())).bind fun v_33 => (f9 k (((((600 : Int), d, v_33.1.1.1.2.2), ()), ()), ())).bind fun v_34 => bif v_34.1.2.1.1 != (0 : Int) then some (((false, ()), ()), ()) else (f10 k ((((), ()), ((9 : Int), ()), ((9 : Int), ()), ((9 : Int), ()), ()), ((v_34.2.1.1.1, v_34.2.1.1.2.1, v_34.2.1.1.2.2), (), (), (v_34.2.1.2.2.2.1.1, v_34.2.1.2.2.2.1.2.1, v_34.2.1.2.2.2.1.2.2.1, v_34.2.1.2.2.2.1.2.2.2), ()), v_34.2.2.1, v_34.2.2.2.1, ())).bind fun v_35 => bif v_35.1.1.1 != (0 : Int) then some (((false, ()), ()), ()) else (f16 k ((((), ()), ((5000 : Int), ()), ()), ((v_35.2.1.1.1, v_35.2.1.1.2.1, v_35.2.1.1.2.2), (), (), (v_35.2.1.2.2.2.1.1, v_35.2.1.2.2.2.1.2.1, v_35.2.1.2.2.2.1.2.2.1, v_35.2.1.2.2.2.1.2.2.2), ()), v_35.2.2.1, v_35.2.2.2.2.1, ())).bind fun v_36 => loopN (e5_1 k d v at_) k (((v, ()), ((↑d.length : Int), ()), ((), ()), ((), ()), ((0 : Int), ()), (d, ()), ((↑d.length : Int), ()), ((0 : Int), ()), ()), ((v_36.2.1.1.1, v_36.2.1.1.2.1, v_36.2.1.1.2.2), (), (), (v_36.2.1.2.2.2.1.1, v_36.2.1.2.2.2.1.2.1, v_36.2.1.2.2.2.1.2.2.1, v_36.2.1.2.2.2.1.2.2.2), ()), v_36.2.2.1, v_36.2.2.2.2.1, ((v_36.1.1.1.1, v_36.1.1.1.2.1, v_36.1.1.1.2.2.1, v_36.1.1.1.2.2.2.1, v_36.1.1.1.2.2.2.2), ()), ())
def body5g (k : Nat) (q8 : F8.pre.T → Option F8.post.T) (q19 : F19.pre.T → Option F19.post.T) (q18 : F18.pre.T → Option F18.post.T) (q9 : F9.pre.T → Option F9.post.T) (q10 : F10.pre.T → Option F10.post.T) (q16 : F16.pre.T → Option F16.post.T) (q13 : F13.pre.T → Option F13.post.T) (d : List Int) (v at_ : Int) : Option (((Bool × Unit) × Unit) × Unit) := (q19 ((((1 : Int), ()), ((0 : Int), ()), ()), ())).bind fun v_2 => (q19 ((((6 : Int), ()), ((0 : Int), ()), ()), ())).bind fun v_3 => (q19 ((((1 : Int), ()), ((0 : Int), ()), ()), ())).bind fun v_4 => (q19 ((((6 : Int), ()), ((1 : Int), ()), ()), ())).bind fun v_5 => (q19 ((((5 : Int), ()), ((1 : Int), ()), ()), ())).bind fun v_6 => (q19 ((((1 : Int), ()), ((↑d.length : Int), ()), ()), ())).bind fun v_7 => (q19 ((((18 : Int), ()), ((0 : Int), ()), ()), ())).bind fun v_8 => (q19 ((((19 : Int), ()), ((0 : Int), ()), ()), ())).bind fun v_9 => (q19 ((((25 : Int), ()), ((19 : Int), ()), ()), ())).bind fun v_10 => (q19 ((((5 : Int), ()), ((1 : Int), ()), ()), ())).bind fun v_11 => (q19 ((((20 : Int), ()), ((0 : Int), ()), ()), ())).bind fun v_12 => (q19 ((((5 : Int), ()), ((0 : Int), ()), ()), ())).bind fun v_13 => (q19 ((((7 : Int), ()), ((0 : Int), ()), ()), ())).bind fun v_14 => (q19 ((((6 : Int), ()), ((0 : Int), ()), ()), ())).bind fun v_15 => (q19 ((((5 : Int), ()), ((1 : Int), ()), ()), ())).bind fun v_16 => (q19 ((((1 : Int), ()), ((1 : Int), ()), ()), ())).bind fun v_17 => (q19 ((((7 : Int), ()), ((0 : Int), ()), ()), ())).bind fun v_18 => (q19 ((((6 : Int), ()), ((1 : Int), ()), ()), ())).bind fun v_19 => (q19 ((((24 : Int), ()), ((4 : Int), ()), ()), ())).bind fun v_20 => (q19 ((((1 : Int), ()), ((↑d.length : Int), ()), ()), ())).bind fun v_21 => (q19 ((((5 : Int), ()), ((0 : Int), ()), ()), ())).bind fun v_22 => (q19 ((((23 : Int), ()), ((0 : Int), ()), ()), ())).bind fun v_23 => (q19 ((((1 : Int), ()), (IntKind.i64.wrap (IntKind.i64.wrap at_ + (300 : Int)), ()), ()), ())).bind fun v_24 => (q19 ((((1 : Int), ()), (v, ()), ()), ())).bind fun v_25 => (q19 ((((23 : Int), ()), ((0 : Int), ()), ()), ())).bind fun v_26 => (q19 ((((1 : Int), ()), (IntKind.i64.wrap (IntKind.i64.wrap at_ + (300 : Int)), ()), ()), ())).bind fun v_27 => (q19 ((((22 : Int), ()), ((0 : Int), ()), ()), ())).bind fun v_28 => (q19 ((((1 : Int), ()), (IntKind.i64.wrap ((↑d.length : Int) + (8 : Int)), ()), ()), ())).bind fun v_29 => (q19 ((((4 : Int), ()), ((0 : Int), ()), ()), ())).bind fun v_30 => (q19 ((((23 : Int), ()), ((0 : Int), ()), ()), ())).bind fun v_31 => (q19 ((((27 : Int), ()), ((0 : Int), ()), ()), ())).bind fun v_32 => (q18 ((([(v_2.1.1.1.1, v_2.1.1.1.2), (v_3.1.1.1.1, v_3.1.1.1.2), (v_4.1.1.1.1, v_4.1.1.1.2), (v_5.1.1.1.1, v_5.1.1.1.2), (v_6.1.1.1.1, v_6.1.1.1.2), (v_7.1.1.1.1, v_7.1.1.1.2), (v_8.1.1.1.1, v_8.1.1.1.2), (v_9.1.1.1.1, v_9.1.1.1.2), (v_10.1.1.1.1, v_10.1.1.1.2), (v_11.1.1.1.1, v_11.1.1.1.2), (v_12.1.1.1.1, v_12.1.1.1.2), (v_13.1.1.1.1, v_13.1.1.1.2), (v_14.1.1.1.1, v_14.1.1.1.2), (v_15.1.1.1.1, v_15.1.1.1.2), (v_16.1.1.1.1, v_16.1.1.1.2), (v_17.1.1.1.1, v_17.1.1.1.2), (v_18.1.1.1.1, v_18.1.1.1.2), (v_19.1.1.1.1, v_19.1.1.1.2), (v_20.1.1.1.1, v_20.1.1.1.2), (v_21.1.1.1.1, v_21.1.1.1.2), (v_22.1.1.1.1, v_22.1.1.1.2), (v_23.1.1.1.1, v_23.1.1.1.2), (v_24.1.1.1.1, v_24.1.1.1.2), (v_25.1.1.1.1, v_25.1.1.1.2), (v_26.1.1.1.1, v_26.1.1.1.2), (v_27.1.1.1.1, v_27.1.1.1.2), (v_28.1.1.1.1, v_28.1.1.1.2), (v_29.1.1.1.1, v_29.1.1.1.2), (v_30.1.1.1.1, v_30.1.1.1.2), (v_31.1.1.1.1, v_31.1.1.1.2), (v_32.1.1.1.1, v_32.1.1.1.2)], ()), ()), ())).bind fun v_33 => (q9 (((((600 : Int), d, v_33.1.1.1.2.2), ()), ()), ())).bind fun v_34 => bif v_34.1.2.1.1 != (0 : Int) then some (((false, ()), ()), ()) else (q10 ((((), ()), ((9 : Int), ()), ((9 : Int), ()), ((9 : Int), ()), ()), ((v_34.2.1.1.1, v_34.2.1.1.2.1, v_34.2.1.1.2.2), (), (), (v_34.2.1.2.2.2.1.1, v_34.2.1.2.2.2.1.2.1, v_34.2.1.2.2.2.1.2.2.1, v_34.2.1.2.2.2.1.2.2.2), ()), v_34.2.2.1, v_34.2.2.2.1, ())).bind fun v_35 => bif v_35.1.1.1 != (0 : Int) then some (((false, ()), ()), ()) else (q16 ((((), ()), ((5000 : Int), ()), ()), ((v_35.2.1.1.1, v_35.2.1.1.2.1, v_35.2.1.1.2.2), (), (), (v_35.2.1.2.2.2.1.1, v_35.2.1.2.2.2.1.2.1, v_35.2.1.2.2.2.1.2.2.1, v_35.2.1.2.2.2.1.2.2.2), ()), v_35.2.2.1, v_35.2.2.2.2.1, ())).bind fun v_36 => loopN (e5_1g k q8 q19 q18 q9 q10 q16 q13 d v at_) k (((v, ()), ((↑d.length : Int), ()), ((), ()), ((), ()), ((0 : Int), ()), (d, ()), ((↑d.length : Int), ()), ((0 : Int), ()), ()), ((v_36.2.1.1.1, v_36.2.1.1.2.1, v_36.2.1.1.2.2), (), (), (v_36.2.1.2.2.2.1.1, v_36.2.1.2.2.2.1.2.1, v_36.2.1.2.2.2.1.2.2.1, v_36.2.1.2.2.2.1.2.2.2), ()), v_36.2.2.1, v_36.2.2.2.2.1, ((v_36.1.1.1.1, v_36.1.1.1.2.1, v_36.1.1.1.2.2.1, v_36.1.1.1.2.2.2.1, v_36.1.1.1.2.2.2.2), ()), ())
theorem e5_gen (k : Nat) (q8 : F8.pre.T → Option F8.post.T) (q19 : F19.pre.T → Option F19.post.T) (q18 : F18.pre.T → Option F18.post.T) (q9 : F9.pre.T → Option F9.post.T) (q10 : F10.pre.T → Option F10.post.T) (q16 : F16.pre.T → Option F16.post.T) (q13 : F13.pre.T → Option F13.post.T) (d : List Int) (v : Int) (at_ : Int) : runFn Try.prog ti [Fm.entry Try.prog F8 8 q8, Fm.entry Try.prog F19 19 q19, Fm.entry Try.prog F18 18 q18, Fm.entry Try.prog F9 9 q9, Fm.entry Try.prog F10 10 q10, Fm.entry Try.prog F16 16 q16, Fm.entry Try.prog F13 13 q13] F5 Try.f5 k (((d, ()), (v, ()), (at_, ()), ()), ()) = (q8 ((), ())).bind fun v_1 => bif !v_1.1.1.1 then some (((false, ()), ()), ()) else bif decide ((↑d.length : Int) > (200 : Int)) then bif decide ((0 : Int) ≤ (0 : Int) ∧ (0 : Int) ≤ (200 : Int) ∧ (200 : Int) ≤ (200 : Int) ∧ (200 : Int) ≤ (↑d.length : Int)) then body5g k q8 q19 q18 q9 q10 q16 q13 (List.drop (Int.toNat (0 : Int)) (List.take (Int.toNat (200 : Int)) d)) v at_ else none else body5g k q8 q19 q18 q9 q10 q16 q13 d v at_ := by kernel_rfl
theorem e5_eq (k : Nat) (d : List Int) (v : Int) (at_ : Int) : f5 k (((d, ()), (v, ()), (at_, ()), ()), ()) = (f8 k ((), ())).bind fun v_1 => bif !v_1.1.1.1 then some (((false, ()), ()), ()) else bif decide ((↑d.length : Int) > (200 : Int)) then bif decide ((0 : Int) ≤ (0 : Int) ∧ (0 : Int) ≤ (200 : Int) ∧ (200 : Int) ≤ (200 : Int) ∧ (200 : Int) ≤ (↑d.length : Int)) then body5 k (List.drop (Int.toNat (0 : Int)) (List.take (Int.toNat (200 : Int)) d)) v at_ else none else body5 k d v at_ := e5_gen k (f8 k) (f19 k) (f18 k) (f9 k) (f10 k) (f16 k) (f13 k) d v at_

theorem ins_eq (k : Nat) (p n : Int) : f19 k (((p, ()), (n, ()), ()), ()) = some ((((p, n), ()), ()), ()) := by kernel_rfl
theorem mod_eq (k : Nat) (c : List (Int × Int)) : f18 k (((c, ()), ()), ()) = some (((((0 : Int), [], one c), ()), ()), ()) := by kernel_rfl
theorem hv (k : Nat) (d : List Int) (n p v q : Int) : f30 (k + 60) ((((600, d, one (cs n p v q)), ()), ((0 : Int), ()), ()), ()) = R21 true [0, 1, 0, 1, 0, 1, 2, 1, 1, 0, 1, 1, 2, 1, 0, 1, 2, 1, 0, 0, 1, 2, 0, 1, 2, 0, 1, 1, 2, 2, 0] := by kernel_rfl
theorem right_of {k : Nat} {m : Int} {d : List Int} {c : List (Int × Int)} (hm : 0 ≤ m ∧ m ≤ 1024) (hd : (d.length : Int) ≤ m) (h : loopN (e37_1 k m d (one c)) k (((one c, ()), ((1 : Int), ()), ((0 : Int), ()), ()), ()) = some (((true, ()), ()), ())) :
    f37 k ((((m, d, one c), ()), ()), ()) = some (((true, ()), ()), ()) := by
  rw [e37_eq, cneg (by omega), cneg (by omega), cneg (by omega)]
  have hl : ((one c).length : Int) = 1 := rfl
  rw [hl, cneg (by decide), cneg (by decide)]
  exact h
theorem okV (k : Nat) (d : List Int) (n p v q : Int) (i : Nat) (hi : i < (cs n p v q).length) : OkI k 600 d (one (cs n p v q)) 0 3 0 ((cs n p v q).length : Int) (ca (cs n p v q) i) := by
  have no : ∀ x y : Int, (x ≠ 5 ∧ x ≠ 6 ∧ x ≠ 24 ∧ x ≠ 25 ∧ x ≠ 26 ∧ x ≠ 28) → OkI k 600 d (one (cs n p v q)) 0 3 0 ((cs n p v q).length : Int) (x, y) := fun x y h => ⟨fun q => by simp only at q; omega, fun q => by simp only at q; omega, fun q => by simp only at q; omega⟩
  have loc : ∀ x y : Int, (x = 5 ∨ x = 6) → 0 ≤ y ∧ y ≤ 2 → OkI k 600 d (one (cs n p v q)) 0 3 0 ((cs n p v q).length : Int) (x, y) := fun x y h h2 => ⟨fun _ => ⟨h2.1, by rw [show IntKind.i64.wrap (3 + 0) = 3 from by decide]; show y < 3; omega⟩, fun q => by simp only at q; omega, fun q => by simp only at q; omega⟩
  have jmp : ∀ x y : Int, (x = 24 ∨ x = 25) → 0 ≤ y ∧ y ≤ 30 → OkI k 600 d (one (cs n p v q)) 0 3 0 ((cs n p v q).length : Int) (x, y) := fun x y h h2 => ⟨fun q => by simp only at q; omega, fun _ => ⟨h2.1, by show y < 31; omega⟩, fun q => by simp only at q; omega⟩
  have hi31 : i < 31 := hi
  match i, hi31 with
  | 0, _ => exact no 1 0 (by decide)
  | 1, _ => exact loc 6 0 (by decide) (by decide)
  | 2, _ => exact no 1 0 (by decide)
  | 3, _ => exact loc 6 1 (by decide) (by decide)
  | 4, _ => exact loc 5 1 (by decide) (by decide)
  | 5, _ => exact no 1 n (by decide)
  | 6, _ => exact no 18 0 (by decide)
  | 7, _ => exact no 19 0 (by decide)
  | 8, _ => exact jmp 25 19 (by decide) (by decide)
  | 9, _ => exact loc 5 1 (by decide) (by decide)
  | 10, _ => exact no 20 0 (by decide)
  | 11, _ => exact loc 5 0 (by decide) (by decide)
  | 12, _ => exact no 7 0 (by decide)
  | 13, _ => exact loc 6 0 (by decide) (by decide)
  | 14, _ => exact loc 5 1 (by decide) (by decide)
  | 15, _ => exact no 1 1 (by decide)
  | 16, _ => exact no 7 0 (by decide)
  | 17, _ => exact loc 6 1 (by decide) (by decide)
  | 18, _ => exact jmp 24 4 (by decide) (by decide)
  | 19, _ => exact no 1 n (by decide)
  | 20, _ => exact loc 5 0 (by decide) (by decide)
  | 21, _ => exact no 23 0 (by decide)
  | 22, _ => exact no 1 p (by decide)
  | 23, _ => exact no 1 v (by decide)
  | 24, _ => exact no 23 0 (by decide)
  | 25, _ => exact no 1 p (by decide)
  | 26, _ => exact no 22 0 (by decide)
  | 27, _ => exact no 1 q (by decide)
  | 28, _ => exact no 4 0 (by decide)
  | 29, _ => exact no 23 0 (by decide)
  | 30, _ => exact no 27 0 (by decide)
  | i + 31, h => omega
theorem chkV (k : Nat) (hk : 2000 ≤ k + 60) (d : List Int) (hd : d.length ≤ 200) (n p v q : Int) : f20 (k + 60) ((((600, d, one (cs n p v q)), ()), ()), ()) = r20 0 0 0 :=
  check1 (k + 60) hk 600 d (cs n p v q) hd (by simp only [List.length_cons, List.length_nil]; omega) (right_of (by decide) (by omega) (rv k d n p v q)) (okV (k + 60) d n p v q) ⟨_, hv k d n p v q⟩
/-- the sum, byte by byte -/
def SS (d : List Int) : Nat → Int
  | 0 => 0
  | j + 1 => IntKind.i64.wrap (SS d j + ub d j)
theorem SS_in (d : List Int) (j : Nat) : -9223372036854775808 ≤ SS d j ∧ SS d j < 9223372036854775808 := by
  cases j with
  | zero => show (-9223372036854775808 : Int) ≤ 0 ∧ (0 : Int) < 9223372036854775808; decide
  | succ j => rw [SS, IntKind.wrap_i64]; omega
theorem one_turn (k : Nat) (n p v q : Int) (c : List Int) (hc : c.length = 600) (S j b u : Int) (hj : 0 ≤ j ∧ j < n ∧ n ≤ 200) (hb : 0 ≤ b ∧ b < 256) (hbc : ub c j.toNat = b) (hu : 0 ≤ u ∧ u ≤ 4900) (fuel : Nat) :
    loopN (lp (k + 60)) (fuel + 15) (GS 5000 (MV n p v q) c [(0, 4, [S, j, 9], [])] (0, 0, u, 0, [])) = loopN (lp (k + 60)) fuel (GS 5000 (MV n p v q) c [(0, 4, [IntKind.i64.wrap (b + S), j + 1, 9], [])] (0, 0, u + 15, 0, [])) := by
  have s6 : f26 (k + 60) (SV n p v q c 6 [S, j, 9] [j, n]) = RV n p v q c 7 [S, j, 9] [1] := by rw [v6, cpos hj.2.1]
  have s10 : f26 (k + 60) (SV n p v q c 10 [S, j, 9] [j]) = RV n p v q c 11 [S, j, 9] [b] := by
    rw [v10 k n p v q c S j 9 j 0, load1 (by omega) j 600 [] (one (cs n p v q)) c 0 11 [S, j, 9] [] (by decide) 0 [] (by omega) (by omega) (by rw [hbc]; exact hb), hbc]
    rfl
  have s16 : f26 (k + 60) (SV n p v q c 16 [IntKind.i64.wrap (b + S), j, 9] [j, 1]) = RV n p v q c 17 [IntKind.i64.wrap (b + S), j, 9] [j + 1] := by
    rw [v16, wrapId (n := j + 1) (by omega) (by omega)]
  show loopN (lp (k + 60)) (fuel + 14 + 1) _ = _
  rw [run_step (by omega) (v4 k n p v q c S j 9 0 0)]
  show loopN (lp (k + 60)) (fuel + 13 + 1) _ = _
  rw [run_step (by omega) (v5 k n p v q c S j 9 j 0)]
  show loopN (lp (k + 60)) (fuel + 12 + 1) _ = _
  rw [run_step (by omega) (s6)]
  show loopN (lp (k + 60)) (fuel + 11 + 1) _ = _
  rw [run_step (by omega) (v7a k n p v q c S j 9 0 0)]
  show loopN (lp (k + 60)) (fuel + 10 + 1) _ = _
  rw [run_step (by omega) (v8a k n p v q c S j 9 0 0)]
  show loopN (lp (k + 60)) (fuel + 9 + 1) _ = _
  rw [run_step (by omega) (v9 k n p v q c S j 9 0 0)]
  show loopN (lp (k + 60)) (fuel + 8 + 1) _ = _
  rw [run_step (by omega) (s10)]
  show loopN (lp (k + 60)) (fuel + 7 + 1) _ = _
  rw [run_step (by omega) (v11 k n p v q c S j 9 b 0)]
  show loopN (lp (k + 60)) (fuel + 6 + 1) _ = _
  rw [run_step (by omega) (v12 k n p v q c S j 9 b S)]
  show loopN (lp (k + 60)) (fuel + 5 + 1) _ = _
  rw [run_step (by omega) (v13 k n p v q c S j 9 (IntKind.i64.wrap (b + S)) 0)]
  show loopN (lp (k + 60)) (fuel + 4 + 1) _ = _
  rw [run_step (by omega) (v14 k n p v q c (IntKind.i64.wrap (b + S)) j 9 0 0)]
  show loopN (lp (k + 60)) (fuel + 3 + 1) _ = _
  rw [run_step (by omega) (v15 k n p v q c (IntKind.i64.wrap (b + S)) j 9 j 0)]
  show loopN (lp (k + 60)) (fuel + 2 + 1) _ = _
  rw [run_step (by omega) (s16)]
  show loopN (lp (k + 60)) (fuel + 1 + 1) _ = _
  rw [run_step (by omega) (v17 k n p v q c (IntKind.i64.wrap (b + S)) j 9 (j + 1) 0)]
  show loopN (lp (k + 60)) (fuel + 0 + 1) _ = _
  rw [run_step (by omega) (v18 k n p v q c (IntKind.i64.wrap (b + S)) (j + 1) 9 0 0)]
  rw [show u + 1 + 1 + 1 + 1 + 1 + 1 + 1 + 1 + 1 + 1 + 1 + 1 + 1 + 1 + 1 = u + 15 by omega]
theorem all_turns (k : Nat) (d : List Int) (p v q : Int) (c : List Int) (hc : c.length = 600) (hd : d.length ≤ 200) (hb : ∀ i, i < d.length → 0 ≤ ub d i ∧ ub d i < 256) (hcd : ∀ i, i < d.length → ub c i = ub d i) : ∀ (e j : Nat) (u : Int) (fuel : Nat), j + e = d.length → 0 ≤ u ∧ u + 15 * e ≤ 4900 →
    loopN (lp (k + 60)) (fuel + 15 * e) (GS 5000 (MV (d.length : Int) p v q) c [(0, 4, [SS d j, (j : Int), 9], [])] (0, 0, u, 0, [])) = loopN (lp (k + 60)) fuel (GS 5000 (MV (d.length : Int) p v q) c [(0, 4, [SS d d.length, (d.length : Int), 9], [])] (0, 0, u + 15 * e, 0, [])) := by
  intro e
  induction e with
  | zero =>
    intro j u fuel h1 h2
    rw [show j = d.length by omega, show u + 15 * ((0 : Nat) : Int) = u by omega]
    rfl
  | succ e ih =>
    intro j u fuel h1 h2
    rw [show fuel + 15 * (e + 1) = fuel + 15 * e + 15 by omega]
    have hbj := hb j (by omega)
    rw [one_turn k (d.length : Int) p v q c hc (SS d j) (j : Int) (ub d j) u (by omega) hbj (by rw [Int.toNat_natCast]; exact hcd j (by omega)) (by omega) (fuel + 15 * e)]
    have h := ih (j + 1) (u + 15) fuel (by omega) (by omega)
    rw [SS, show ((j + 1 : Nat) : Int) = (j : Int) + 1 by omega, Int.add_comm (SS d j)] at h
    rw [h, show u + 15 + 15 * (e : Int) = u + 15 * ((e + 1 : Nat) : Int) by omega]
theorem last_turn (k : Nat) (n p v q : Int) (c : List Int) (hc : c.length = 600) (S u : Int) (hn : 0 ≤ n ∧ n ≤ 200) (hp : 300 ≤ p ∧ p ≤ 592) (hq : q = n + 8) (hv : -9223372036854775808 ≤ v ∧ v < 9223372036854775808) (hu : 0 ≤ u ∧ u ≤ 4900) (fuel : Nat) :
    loopN (lp (k + 60)) (fuel + 1 + 17) (GS 5000 (MV n p v q) c [(0, 4, [S, n, 9], [])] (0, 0, u, 0, [])) = some ((((1, 0, u + 17, 0, []), ()), ()), MV n p v q, puts (puts (puts c n.toNat S 8) p.toNat v 8) q.toNat v 8, (), [], ()) := by
  have hl1 : (puts c n.toNat S 8).length = 600 := by rw [puts_len]; exact hc
  have hl2 : (puts (puts c n.toNat S 8) p.toNat v 8).length = 600 := by rw [puts_len]; exact hl1
  have hg : ∀ i : Nat, i < 8 → ub (puts (puts c n.toNat S 8) p.toNat v 8) (p.toNat + i) = bt v i := fun i hi => by
    rw [ub_puts (puts c n.toNat S 8) p.toNat v (p.toNat + i) 8 (by omega), if_pos (by omega), show ((p.toNat + i : Nat) : Int) - (p.toNat : Int) = (i : Int) by omega]
  obtain ⟨c1, h1⟩ : ∃ c1, c1 = puts c n.toNat S 8 := ⟨_, rfl⟩
  rw [← h1] at hl1 hl2 hg ⊢
  obtain ⟨c2, h2⟩ : ∃ c2, c2 = puts c1 p.toNat v 8 := ⟨_, rfl⟩
  rw [← h2] at hl2 hg ⊢
  obtain ⟨c3, h3⟩ : ∃ c3, c3 = puts c2 q.toNat v 8 := ⟨_, rfl⟩
  rw [← h3]
  have s6 : f26 (k + 60) (SV n p v q c 6 [S, n, 9] [n, n]) = RV n p v q c 7 [S, n, 9] [0] := by rw [v6, cneg (by omega)]
  have s21 : f26 (k + 60) (SV n p v q c 21 [S, n, 9] [n, S]) = RV n p v q c1 22 [S, n, 9] [] := by
    rw [v21 k n p v q c S n 9 n S, store8 (by omega) n S 600 [] (one (cs n p v q)) c _ 0 [] (by omega), if_pos (by omega), ← h1]
    rfl
  have s24 : f26 (k + 60) (SV n p v q c1 24 [S, n, 9] [p, v]) = RV n p v q c2 25 [S, n, 9] [] := by
    rw [v24 k n p v q c1 S n 9 p v, store8 (by omega) p v 600 [] (one (cs n p v q)) c1 _ 0 [] (by omega), if_pos (by omega), ← h2]
    rfl
  have s26 : f26 (k + 60) (SV n p v q c2 26 [S, n, 9] [p]) = RV n p v q c2 27 [S, n, 9] [v] := by
    rw [v26 k n p v q c2 S n 9 p 0, load8 (by omega) p v 600 [] (one (cs n p v q)) c2 0 27 [S, n, 9] [] (by decide) 0 [] (by omega) (by omega) hv hg]
    rfl
  have s29 : f26 (k + 60) (SV n p v q c2 29 [S, n, 9] [q, v]) = RV n p v q c3 30 [S, n, 9] [] := by
    rw [v29 k n p v q c2 S n 9 q v, store8 (by omega) q v 600 [] (one (cs n p v q)) c2 _ 0 [] (by omega), if_pos (by omega), ← h3]
    rfl
  show loopN (lp (k + 60)) (fuel + 1 + 16 + 1) _ = _
  rw [run_step (by omega) (v4 k n p v q c S n 9 0 0)]
  show loopN (lp (k + 60)) (fuel + 1 + 15 + 1) _ = _
  rw [run_step (by omega) (v5 k n p v q c S n 9 n 0)]
  show loopN (lp (k + 60)) (fuel + 1 + 14 + 1) _ = _
  rw [run_step (by omega) (s6)]
  show loopN (lp (k + 60)) (fuel + 1 + 13 + 1) _ = _
  rw [run_step (by omega) (v7b k n p v q c S n 9 0 0)]
  show loopN (lp (k + 60)) (fuel + 1 + 12 + 1) _ = _
  rw [run_step (by omega) (v8b k n p v q c S n 9 0 0)]
  show loopN (lp (k + 60)) (fuel + 1 + 11 + 1) _ = _
  rw [run_step (by omega) (v19 k n p v q c S n 9 0 0)]
  show loopN (lp (k + 60)) (fuel + 1 + 10 + 1) _ = _
  rw [run_step (by omega) (v20 k n p v q c S n 9 n 0)]
  show loopN (lp (k + 60)) (fuel + 1 + 9 + 1) _ = _
  rw [run_step (by omega) (s21)]
  show loopN (lp (k + 60)) (fuel + 1 + 8 + 1) _ = _
  rw [run_step (by omega) (v22 k n p v q c1 S n 9 0 0)]
  show loopN (lp (k + 60)) (fuel + 1 + 7 + 1) _ = _
  rw [run_step (by omega) (v23 k n p v q c1 S n 9 p 0)]
  show loopN (lp (k + 60)) (fuel + 1 + 6 + 1) _ = _
  rw [run_step (by omega) (s24)]
  show loopN (lp (k + 60)) (fuel + 1 + 5 + 1) _ = _
  rw [run_step (by omega) (v25 k n p v q c2 S n 9 0 0)]
  show loopN (lp (k + 60)) (fuel + 1 + 4 + 1) _ = _
  rw [run_step (by omega) (s26)]
  show loopN (lp (k + 60)) (fuel + 1 + 3 + 1) _ = _
  rw [run_step (by omega) (v27 k n p v q c2 S n 9 v 0)]
  show loopN (lp (k + 60)) (fuel + 1 + 2 + 1) _ = _
  rw [run_step (by omega) (v28 k n p v q c2 S n 9 v q)]
  show loopN (lp (k + 60)) (fuel + 1 + 1 + 1) _ = _
  rw [run_step (by omega) (s29)]
  show loopN (lp (k + 60)) (fuel + 1 + 0 + 1) _ = _
  rw [run_step (by omega) (v30 k n p v q c3 S n 9 0 0)]
  rw [show u + 1 + 1 + 1 + 1 + 1 + 1 + 1 + 1 + 1 + 1 + 1 + 1 + 1 + 1 + 1 + 1 + 1 = u + 17 by omega]
  exact run_done fuel
end
end Go.Proofs.Ytjbdeccohpbegaa.Vm
