import Derived.Test.YtjbdeccohpbegaaVJ
import Derived.Test.YtjbdeccohpbegaaVAl
namespace Go.Proofs.Ytjbdeccohpbegaa.Vm
open Go Go.RowKit Go.Proofs Go.Proofs.Ytjbdeccohpbegaa.X
set_option linter.unusedVariables false
set_option linter.unusedSimpArgs false
noncomputable section
/-! The law VmBounds -/
def mev (me : Int) : Int := IntKind.i64.wrap (↑(BitVec.ofInt IntKind.i64.bits me &&& BitVec.ofInt IntKind.i64.bits (63 : Int)).toNat : Int)
def e7_0 (g : ((Int × Unit) × (Int × Unit) × (Int × Unit) × (Bool × Unit) × (List Int × Unit) × (Int × Unit) × (Int × Unit) × Unit) × Unit) (L : ((Int × Unit) × (Int × Unit) × (Int × Unit) × (Bool × Unit) × (List Int × Unit) × (Int × Unit) × (Int × Unit) × Unit) × Unit → Option (((Bool × Unit) × Unit) × Unit)) : Option (((Bool × Unit) × Unit) × Unit) := bif decide (g.1.2.2.2.2.2.2.1.1 < g.1.2.2.2.2.2.1.1) then bif decide ((0 : Int) ≤ g.1.2.2.2.2.2.2.1.1 ∧ g.1.2.2.2.2.2.2.1.1 < (↑g.1.2.2.2.2.1.1.length : Int)) then bif g.1.2.2.2.1.1 then bif decide (IntKind.i64.wrap (g.1.2.2.2.2.2.2.1.1 - g.1.1.1) ≥ (0 : Int)) then bif decide (IntKind.i64.wrap (g.1.2.2.2.2.2.2.1.1 - g.1.1.1) < g.1.2.2.1.1) then bif decide ((0 : Int) ≤ IntKind.u64.wrap ((8 : Int) * IntKind.u64.wrap (IntKind.i64.wrap (g.1.2.2.2.2.2.2.1.1 - g.1.1.1)))) then bif ub g.1.2.2.2.2.1.1 g.1.2.2.2.2.2.2.1.1.toNat != IntKind.u8.wrap ((IntKind.u64.wrap g.1.2.1.1).fdiv ((2 : Int) ^ min (IntKind.u64.wrap ((8 : Int) * IntKind.u64.wrap (IntKind.i64.wrap (g.1.2.2.2.2.2.2.1.1 - g.1.1.1)))).toNat IntKind.u64.bits)) then some (((false, ()), ()), ()) else L (((g.1.1.1, ()), (g.1.2.1.1, ()), (g.1.2.2.1.1, ()), (g.1.2.2.2.1.1, ()), (g.1.2.2.2.2.1.1, ()), (g.1.2.2.2.2.2.1.1, ()), (IntKind.i64.wrap (g.1.2.2.2.2.2.2.1.1 + (1 : Int)), ()), ()), ()) else none else bif ub g.1.2.2.2.2.1.1 g.1.2.2.2.2.2.2.1.1.toNat != (0 : Int) then some (((false, ()), ()), ()) else L (((g.1.1.1, ()), (g.1.2.1.1, ()), (g.1.2.2.1.1, ()), (g.1.2.2.2.1.1, ()), (g.1.2.2.2.2.1.1, ()), (g.1.2.2.2.2.2.1.1, ()), (IntKind.i64.wrap (g.1.2.2.2.2.2.2.1.1 + (1 : Int)), ()), ()), ()) else bif ub g.1.2.2.2.2.1.1 g.1.2.2.2.2.2.2.1.1.toNat != (0 : Int) then some (((false, ()), ()), ()) else L (((g.1.1.1, ()), (g.1.2.1.1, ()), (g.1.2.2.1.1, ()), (g.1.2.2.2.1.1, ()), (g.1.2.2.2.2.1.1, ()), (g.1.2.2.2.2.2.1.1, ()), (IntKind.i64.wrap (g.1.2.2.2.2.2.2.1.1 + (1 : Int)), ()), ()), ()) else bif ub g.1.2.2.2.2.1.1 g.1.2.2.2.2.2.2.1.1.toNat != (0 : Int) then some (((false, ()), ()), ()) else L (((g.1.1.1, ()), (g.1.2.1.1, ()), (g.1.2.2.1.1, ()), (g.1.2.2.2.1.1, ()), (g.1.2.2.2.2.1.1, ()), (g.1.2.2.2.2.2.1.1, ()), (IntKind.i64.wrap (g.1.2.2.2.2.2.2.1.1 + (1 : Int)), ()), ()), ()) else none else some (((true, ()), ()), ())

theorem e7_gen (k : Nat) (q8 : F8.pre.T → Option F8.post.T) (q19 : F19.pre.T → Option F19.post.T) (q18 : F18.pre.T → Option F18.post.T) (q9 : F9.pre.T → Option F9.post.T) (q10 : F10.pre.T → Option F10.post.T) (q16 : F16.pre.T → Option F16.post.T) (q13 : F13.pre.T → Option F13.post.T) (me : Int) (at_ : Int) (v : Int) (eight : Bool) : runFn Try.prog ti [Fm.entry Try.prog F8 8 q8, Fm.entry Try.prog F19 19 q19, Fm.entry Try.prog F18 18 q18, Fm.entry Try.prog F9 9 q9, Fm.entry Try.prog F10 10 q10, Fm.entry Try.prog F16 16 q16, Fm.entry Try.prog F13 13 q13] F7 Try.f7 k (((me, ()), (at_, ()), (v, ()), (eight, ()), ()), ()) = (q8 ((), ())).bind fun v_1 => bif !v_1.1.1.1 then some (((false, ()), ()), ()) else bif eight then (q19 ((((1 : Int), ()), (at_, ()), ()), ())).bind fun v_2 => (q19 ((((1 : Int), ()), (v, ()), ()), ())).bind fun v_3 => (q19 ((((23 : Int), ()), ((0 : Int), ()), ()), ())).bind fun v_4 => (q19 ((((27 : Int), ()), ((0 : Int), ()), ()), ())).bind fun v_5 => (q18 ((([(v_2.1.1.1.1, v_2.1.1.1.2), (v_3.1.1.1.1, v_3.1.1.1.2), (v_4.1.1.1.1, v_4.1.1.1.2), (v_5.1.1.1.1, v_5.1.1.1.2)], ()), ()), ())).bind fun v_6 => (q9 ((((mev me, v_6.1.1.1.2.1, v_6.1.1.1.2.2), ()), ()), ())).bind fun v_7 => bif v_7.1.2.1.1 != (0 : Int) then some (((false, ()), ()), ()) else (q10 ((((), ()), ((0 : Int), ()), ((0 : Int), ()), ((0 : Int), ()), ()), ((v_7.2.1.1.1, v_7.2.1.1.2.1, v_7.2.1.1.2.2), (), (), (v_7.2.1.2.2.2.1.1, v_7.2.1.2.2.2.1.2.1, v_7.2.1.2.2.2.1.2.2.1, v_7.2.1.2.2.2.1.2.2.2), ()), v_7.2.2.1, v_7.2.2.2.1, ())).bind fun v_8 => bif v_8.1.1.1 != (0 : Int) then some (((false, ()), ()), ()) else (q16 ((((), ()), ((99 : Int), ()), ()), ((v_8.2.1.1.1, v_8.2.1.1.2.1, v_8.2.1.1.2.2), (), (), (v_8.2.1.2.2.2.1.1, v_8.2.1.2.2.2.1.2.1, v_8.2.1.2.2.2.1.2.2.1, v_8.2.1.2.2.2.1.2.2.2), ()), v_8.2.2.1, v_8.2.2.2.2.1, ())).bind fun v_9 => (q13 ((((), ()), ((0 : Int), ()), (mev me, ()), ()), ((v_9.2.1.1.1, v_9.2.1.1.2.1, v_9.2.1.1.2.2), (), (), (v_9.2.1.2.2.2.1.1, v_9.2.1.2.2.2.1.2.1, v_9.2.1.2.2.2.1.2.2.1, v_9.2.1.2.2.2.1.2.2.2), ()), v_9.2.2.1, v_9.2.2.2.2.1, ())).bind fun v_10 => bif !v_10.1.2.1.1 then some (((false, ()), ()), ()) else bif (↑(List.length v_10.1.1.1) : Int) != mev me then some (((false, ()), ()), ()) else bif decide (at_ ≥ (0 : Int)) then bif !decide (at_ ≤ IntKind.i64.wrap (mev me - (8 : Int))) == (v_9.1.1.1.1 == (1 : Int)) then some (((false, ()), ()), ()) else bif !decide (at_ ≤ IntKind.i64.wrap (mev me - (8 : Int))) then bif v_9.1.1.1.1 != (4 : Int) then some (((false, ()), ()), ()) else bif v_9.1.1.1.2.1 != (2 : Int) then some (((false, ()), ()), ()) else bif v_9.1.1.1.2.2.1 != (3 : Int) then some (((false, ()), ()), ()) else loopN e7_0 k (((at_, ()), (v, ()), ((8 : Int), ()), (decide (at_ ≤ IntKind.i64.wrap (mev me - (8 : Int))), ()), (v_10.1.1.1, ()), ((↑(List.length v_10.1.1.1) : Int), ()), ((0 : Int), ()), ()), ()) else loopN e7_0 k (((at_, ()), (v, ()), ((8 : Int), ()), (decide (at_ ≤ IntKind.i64.wrap (mev me - (8 : Int))), ()), (v_10.1.1.1, ()), ((↑(List.length v_10.1.1.1) : Int), ()), ((0 : Int), ()), ()), ()) else bif !false == (v_9.1.1.1.1 == (1 : Int)) then some (((false, ()), ()), ()) else bif v_9.1.1.1.1 != (4 : Int) then some (((false, ()), ()), ()) else bif v_9.1.1.1.2.1 != (2 : Int) then some (((false, ()), ()), ()) else bif v_9.1.1.1.2.2.1 != (3 : Int) then some (((false, ()), ()), ()) else loopN e7_0 k (((at_, ()), (v, ()), ((8 : Int), ()), (false, ()), (v_10.1.1.1, ()), ((↑(List.length v_10.1.1.1) : Int), ()), ((0 : Int), ()), ()), ()) else (q19 ((((1 : Int), ()), (at_, ()), ()), ())).bind fun v_2 => (q19 ((((1 : Int), ()), (v, ()), ()), ())).bind fun v_3 => (q19 ((((21 : Int), ()), ((0 : Int), ()), ()), ())).bind fun v_4 => (q19 ((((27 : Int), ()), ((0 : Int), ()), ()), ())).bind fun v_5 => (q18 ((([(v_2.1.1.1.1, v_2.1.1.1.2), (v_3.1.1.1.1, v_3.1.1.1.2), (v_4.1.1.1.1, v_4.1.1.1.2), (v_5.1.1.1.1, v_5.1.1.1.2)], ()), ()), ())).bind fun v_6 => (q9 ((((mev me, v_6.1.1.1.2.1, v_6.1.1.1.2.2), ()), ()), ())).bind fun v_7 => bif v_7.1.2.1.1 != (0 : Int) then some (((false, ()), ()), ()) else (q10 ((((), ()), ((0 : Int), ()), ((0 : Int), ()), ((0 : Int), ()), ()), ((v_7.2.1.1.1, v_7.2.1.1.2.1, v_7.2.1.1.2.2), (), (), (v_7.2.1.2.2.2.1.1, v_7.2.1.2.2.2.1.2.1, v_7.2.1.2.2.2.1.2.2.1, v_7.2.1.2.2.2.1.2.2.2), ()), v_7.2.2.1, v_7.2.2.2.1, ())).bind fun v_8 => bif v_8.1.1.1 != (0 : Int) then some (((false, ()), ()), ()) else (q16 ((((), ()), ((99 : Int), ()), ()), ((v_8.2.1.1.1, v_8.2.1.1.2.1, v_8.2.1.1.2.2), (), (), (v_8.2.1.2.2.2.1.1, v_8.2.1.2.2.2.1.2.1, v_8.2.1.2.2.2.1.2.2.1, v_8.2.1.2.2.2.1.2.2.2), ()), v_8.2.2.1, v_8.2.2.2.2.1, ())).bind fun v_9 => (q13 ((((), ()), ((0 : Int), ()), (mev me, ()), ()), ((v_9.2.1.1.1, v_9.2.1.1.2.1, v_9.2.1.1.2.2), (), (), (v_9.2.1.2.2.2.1.1, v_9.2.1.2.2.2.1.2.1, v_9.2.1.2.2.2.1.2.2.1, v_9.2.1.2.2.2.1.2.2.2), ()), v_9.2.2.1, v_9.2.2.2.2.1, ())).bind fun v_10 => bif !v_10.1.2.1.1 then some (((false, ()), ()), ()) else bif (↑(List.length v_10.1.1.1) : Int) != mev me then some (((false, ()), ()), ()) else bif decide (at_ ≥ (0 : Int)) then bif !decide (at_ ≤ IntKind.i64.wrap (mev me - (1 : Int))) == (v_9.1.1.1.1 == (1 : Int)) then some (((false, ()), ()), ()) else bif !decide (at_ ≤ IntKind.i64.wrap (mev me - (1 : Int))) then bif v_9.1.1.1.1 != (4 : Int) then some (((false, ()), ()), ()) else bif v_9.1.1.1.2.1 != (2 : Int) then some (((false, ()), ()), ()) else bif v_9.1.1.1.2.2.1 != (3 : Int) then some (((false, ()), ()), ()) else loopN e7_0 k (((at_, ()), (v, ()), ((1 : Int), ()), (decide (at_ ≤ IntKind.i64.wrap (mev me - (1 : Int))), ()), (v_10.1.1.1, ()), ((↑(List.length v_10.1.1.1) : Int), ()), ((0 : Int), ()), ()), ()) else loopN e7_0 k (((at_, ()), (v, ()), ((1 : Int), ()), (decide (at_ ≤ IntKind.i64.wrap (mev me - (1 : Int))), ()), (v_10.1.1.1, ()), ((↑(List.length v_10.1.1.1) : Int), ()), ((0 : Int), ()), ()), ()) else bif !false == (v_9.1.1.1.1 == (1 : Int)) then some (((false, ()), ()), ()) else bif v_9.1.1.1.1 != (4 : Int) then some (((false, ()), ()), ()) else bif v_9.1.1.1.2.1 != (2 : Int) then some (((false, ()), ()), ()) else bif v_9.1.1.1.2.2.1 != (3 : Int) then some (((false, ()), ()), ()) else loopN e7_0 k (((at_, ()), (v, ()), ((1 : Int), ()), (false, ()), (v_10.1.1.1, ()), ((↑(List.length v_10.1.1.1) : Int), ()), ((0 : Int), ()), ()), ()) := by kernel_rfl
theorem e7_eq (k : Nat) (me : Int) (at_ : Int) (v : Int) (eight : Bool) : f7 k (((me, ()), (at_, ()), (v, ()), (eight, ()), ()), ()) = (f8 k ((), ())).bind fun v_1 => bif !v_1.1.1.1 then some (((false, ()), ()), ()) else bif eight then (f19 k ((((1 : Int), ()), (at_, ()), ()), ())).bind fun v_2 => (f19 k ((((1 : Int), ()), (v, ()), ()), ())).bind fun v_3 => (f19 k ((((23 : Int), ()), ((0 : Int), ()), ()), ())).bind fun v_4 => (f19 k ((((27 : Int), ()), ((0 : Int), ()), ()), ())).bind fun v_5 => (f18 k ((([(v_2.1.1.1.1, v_2.1.1.1.2), (v_3.1.1.1.1, v_3.1.1.1.2), (v_4.1.1.1.1, v_4.1.1.1.2), (v_5.1.1.1.1, v_5.1.1.1.2)], ()), ()), ())).bind fun v_6 => (f9 k ((((mev me, v_6.1.1.1.2.1, v_6.1.1.1.2.2), ()), ()), ())).bind fun v_7 => bif v_7.1.2.1.1 != (0 : Int) then some (((false, ()), ()), ()) else (f10 k ((((), ()), ((0 : Int), ()), ((0 : Int), ()), ((0 : Int), ()), ()), ((v_7.2.1.1.1, v_7.2.1.1.2.1, v_7.2.1.1.2.2), (), (), (v_7.2.1.2.2.2.1.1, v_7.2.1.2.2.2.1.2.1, v_7.2.1.2.2.2.1.2.2.1, v_7.2.1.2.2.2.1.2.2.2), ()), v_7.2.2.1, v_7.2.2.2.1, ())).bind fun v_8 => bif v_8.1.1.1 != (0 : Int) then some (((false, ()), ()), ()) else (f16 k ((((), ()), ((99 : Int), ()), ()), ((v_8.2.1.1.1, v_8.2.1.1.2.1, v_8.2.1.1.2.2), (), (), (v_8.2.1.2.2.2.1.1, v_8.2.1.2.2.2.1.2.1, v_8.2.1.2.2.2.1.2.2.1, v_8.2.1.2.2.2.1.2.2.2), ()), v_8.2.2.1, v_8.2.2.2.2.1, ())).bind fun v_9 => (f13 k ((((), ()), ((0 : Int), ()), (mev me, ()), ()), ((v_9.2.1.1.1, v_9.2.1.1.2.1, v_9.2.1.1.2.2), (), (), (v_9.2.1.2.2.2.1.1, v_9.2.1.2.2.2.1.2.1, v_9.2.1.2.2.2.1.2.2.1, v_9.2.1.2.2.2.1.2.2.2), ()), v_9.2.2.1, v_9.2.2.2.2.1, ())).bind fun v_10 => bif !v_10.1.2.1.1 then some (((false, ()), ()), ()) else bif (↑(List.length v_10.1.1.1) : Int) != mev me then some (((false, ()), ()), ()) else bif decide (at_ ≥ (0 : Int)) then bif !decide (at_ ≤ IntKind.i64.wrap (mev me - (8 : Int))) == (v_9.1.1.1.1 == (1 : Int)) then some (((false, ()), ()), ()) else bif !decide (at_ ≤ IntKind.i64.wrap (mev me - (8 : Int))) then bif v_9.1.1.1.1 != (4 : Int) then some (((false, ()), ()), ()) else bif v_9.1.1.1.2.1 != (2 : Int) then some (((false, ()), ()), ()) else bif v_9.1.1.1.2.2.1 != (3 : Int) then some (((false, ()), ()), ()) else loopN e7_0 k (((at_, ()), (v, ()), ((8 : Int), ()), (decide (at_ ≤ IntKind.i64.wrap (mev me - (8 : Int))), ()), (v_10.1.1.1, ()), ((↑(List.length v_10.1.1.1) : Int), ()), ((0 : Int), ()), ()), ()) else loopN e7_0 k (((at_, ()), (v, ()), ((8 : Int), ()), (decide (at_ ≤ IntKind.i64.wrap (mev me - (8 : Int))), ()), (v_10.1.1.1, ()), ((↑(List.length v_10.1.1.1) : Int), ()), ((0 : Int), ()), ()), ()) else bif !false == (v_9.1.1.1.1 == (1 : Int)) then some (((false, ()), ()), ()) else bif v_9.1.1.1.1 != (4 : Int) then some (((false, ()), ()), ()) else bif v_9.1.1.1.2.1 != (2 : Int) then some (((false, ()), ()), ()) else bif v_9.1.1.1.2.2.1 != (3 : Int) then some (((false, ()), ()), ()) else loopN e7_0 k (((at_, ()), (v, ()), ((8 : Int), ()), (false, ()), (v_10.1.1.1, ()), ((↑(List.length v_10.1.1.1) : Int), ()), ((0 : Int), ()), ()), ()) else (f19 k ((((1 : Int), ()), (at_, ()), ()), ())).bind fun v_2 => (f19 k ((((1 : Int), ()), (v, ()), ()), ())).bind fun v_3 => (f19 k ((((21 : Int), ()), ((0 : Int), ()), ()), ())).bind fun v_4 => (f19 k ((((27 : Int), ()), ((0 : Int), ()), ()), ())).bind fun v_5 => (f18 k ((([(v_2.1.1.1.1, v_2.1.1.1.2), (v_3.1.1.1.1, v_3.1.1.1.2), (v_4.1.1.1.1, v_4.1.1.1.2), (v_5.1.1.1.1, v_5.1.1.1.2)], ()), ()), ())).bind fun v_6 => (f9 k ((((mev me, v_6.1.1.1.2.1, v_6.1.1.1.2.2), ()), ()), ())).bind fun v_7 => bif v_7.1.2.1.1 != (0 : Int) then some (((false, ()), ()), ()) else (f10 k ((((), ()), ((0 : Int), ()), ((0 : Int), ()), ((0 : Int), ()), ()), ((v_7.2.1.1.1, v_7.2.1.1.2.1, v_7.2.1.1.2.2), (), (), (v_7.2.1.2.2.2.1.1, v_7.2.1.2.2.2.1.2.1, v_7.2.1.2.2.2.1.2.2.1, v_7.2.1.2.2.2.1.2.2.2), ()), v_7.2.2.1, v_7.2.2.2.1, ())).bind fun v_8 => bif v_8.1.1.1 != (0 : Int) then some (((false, ()), ()), ()) else (f16 k ((((), ()), ((99 : Int), ()), ()), ((v_8.2.1.1.1, v_8.2.1.1.2.1, v_8.2.1.1.2.2), (), (), (v_8.2.1.2.2.2.1.1, v_8.2.1.2.2.2.1.2.1, v_8.2.1.2.2.2.1.2.2.1, v_8.2.1.2.2.2.1.2.2.2), ()), v_8.2.2.1, v_8.2.2.2.2.1, ())).bind fun v_9 => (f13 k ((((), ()), ((0 : Int), ()), (mev me, ()), ()), ((v_9.2.1.1.1, v_9.2.1.1.2.1, v_9.2.1.1.2.2), (), (), (v_9.2.1.2.2.2.1.1, v_9.2.1.2.2.2.1.2.1, v_9.2.1.2.2.2.1.2.2.1, v_9.2.1.2.2.2.1.2.2.2), ()), v_9.2.2.1, v_9.2.2.2.2.1, ())).bind fun v_10 => bif !v_10.1.2.1.1 then some (((false, ()), ()), ()) else bif (↑(List.length v_10.1.1.1) : Int) != mev me then some (((false, ()), ()), ()) else bif decide (at_ ≥ (0 : Int)) then bif !decide (at_ ≤ IntKind.i64.wrap (mev me - (1 : Int))) == (v_9.1.1.1.1 == (1 : Int)) then some (((false, ()), ()), ()) else bif !decide (at_ ≤ IntKind.i64.wrap (mev me - (1 : Int))) then bif v_9.1.1.1.1 != (4 : Int) then some (((false, ()), ()), ()) else bif v_9.1.1.1.2.1 != (2 : Int) then some (((false, ()), ()), ()) else bif v_9.1.1.1.2.2.1 != (3 : Int) then some (((false, ()), ()), ()) else loopN e7_0 k (((at_, ()), (v, ()), ((1 : Int), ()), (decide (at_ ≤ IntKind.i64.wrap (mev me - (1 : Int))), ()), (v_10.1.1.1, ()), ((↑(List.length v_10.1.1.1) : Int), ()), ((0 : Int), ()), ()), ()) else loopN e7_0 k (((at_, ()), (v, ()), ((1 : Int), ()), (decide (at_ ≤ IntKind.i64.wrap (mev me - (1 : Int))), ()), (v_10.1.1.1, ()), ((↑(List.length v_10.1.1.1) : Int), ()), ((0 : Int), ()), ()), ()) else bif !false == (v_9.1.1.1.1 == (1 : Int)) then some (((false, ()), ()), ()) else bif v_9.1.1.1.1 != (4 : Int) then some (((false, ()), ()), ()) else bif v_9.1.1.1.2.1 != (2 : Int) then some (((false, ()), ()), ()) else bif v_9.1.1.1.2.2.1 != (3 : Int) then some (((false, ()), ()), ()) else loopN e7_0 k (((at_, ()), (v, ()), ((1 : Int), ()), (false, ()), (v_10.1.1.1, ()), ((↑(List.length v_10.1.1.1) : Int), ()), ((0 : Int), ()), ()), ()) := e7_gen k (f8 k) (f19 k) (f18 k) (f9 k) (f10 k) (f16 k) (f13 k) me at_ v eight


theorem mev_in (me : Int) : 0 ≤ mev me ∧ mev me ≤ 63 := by
  have hx : ∃ n : Nat, (↑(BitVec.ofInt IntKind.i64.bits me &&& BitVec.ofInt IntKind.i64.bits (63 : Int)).toNat : Int) = n ∧ n < 64 := by
    refine ⟨_, rfl, ?_⟩
    rw [BitVec.toNat_and]
    exact Nat.lt_of_le_of_lt Nat.and_le_right (by decide)
  obtain ⟨n, hn, hl⟩ := hx
  rw [mev, hn, wrapId (n := (n : Int)) (by omega) (by omega)]
  omega
theorem ins_eq (k : Nat) (p n : Int) : f19 k (((p, ()), (n, ()), ()), ()) = some ((((p, n), ()), ()), ()) := by kernel_rfl
theorem mod_eq (k : Nat) (c : List (Int × Int)) : f18 k (((c, ()), ()), ()) = some (((((0 : Int), [], one c), ()), ()), ()) := by kernel_rfl
abbrev cb (o a v : Int) : List (Int × Int) := [(1, a), (1, v), (o, 0), (27, 0)]
abbrev MB (M o a v : Int) : (Int × List Int × Fs) × Unit × Unit × (Bool × Int × List Int × Int) × Unit := MS M [] (one (cb o a v)) false 0 [] 0
theorem beg_b (k : Nat) (M o a v : Int) (c : List Int) : f10 (k + 60) ((((), ()), ((0 : Int), ()), ((0 : Int), ()), ((0 : Int), ()), ()), MB M o a v, c, [], ()) = some ((((0 : Int), ()), ()), MB M o a v, c, (), [(0, 0, [0, 0, 0], [])], ()) := by kernel_rfl
theorem sb0 (k : Nat) (M o a v : Int) (c : List Int) : f26 (k + 60) ((((), ()), ()), MB M o a v, c, [(0, 0, [0, 0, 0], [])], ()) = some ((), MB M o a v, c, (), [(0, 1, [0, 0, 0], [a])], ()) := by kernel_rfl
theorem sb1 (k : Nat) (M o a v : Int) (c : List Int) : f26 (k + 60) ((((), ()), ()), MB M o a v, c, [(0, 1, [0, 0, 0], [a])], ()) = some ((), MB M o a v, c, (), [(0, 2, [0, 0, 0], [a, v])], ()) := by kernel_rfl
theorem sb3 (k : Nat) (M o a v : Int) (c : List Int) : f26 (k + 60) ((((), ()), ()), MB M o a v, c, [(0, 3, [0, 0, 0], [])], ()) = some ((), MB M o a v, c, (), [], ()) := by kernel_rfl
theorem sb2_21 (k : Nat) (M a v : Int) (c : List Int) : f26 (k + 60) ((((), ()), ()), MB M 21 a v, c, [(0, 2, [0, 0, 0], [a, v])], ()) = (f34 (k + 60) ((((), ()), ((21 : Int), ()), ([a, v], ()), ()), MB M 21 a v, c, [(0, 3, [0, 0, 0], [])], ())).bind fun v => some ((), ((v.2.1.1.1, v.2.1.1.2.1, v.2.1.1.2.2), (), (), (v.2.1.2.2.2.1.1, v.2.1.2.2.2.1.2.1, v.2.1.2.2.2.1.2.2.1, v.2.1.2.2.2.1.2.2.2), ()), v.2.2.1, (), List.take (List.length v.2.2.2.1) v.2.2.2.1, ()) := by kernel_rfl
theorem rb21 (k : Nat) (M a v : Int) : loopN (e37_1 (k + 60) M [] (one (cb 21 a v))) (k + 60) (((one (cb 21 a v), ()), ((1 : Int), ()), ((0 : Int), ()), ()), ()) = some (((true, ()), ()), ()) := by kernel_rfl
theorem hb21 (k : Nat) (M a v : Int) : f30 (k + 60) ((((M, [], one (cb 21 a v)), ()), ((0 : Int), ()), ()), ()) = R21 true [0, 1, 2, 0] := by kernel_rfl
theorem sb2_23 (k : Nat) (M a v : Int) (c : List Int) : f26 (k + 60) ((((), ()), ()), MB M 23 a v, c, [(0, 2, [0, 0, 0], [a, v])], ()) = (f34 (k + 60) ((((), ()), ((23 : Int), ()), ([a, v], ()), ()), MB M 23 a v, c, [(0, 3, [0, 0, 0], [])], ())).bind fun v => some ((), ((v.2.1.1.1, v.2.1.1.2.1, v.2.1.1.2.2), (), (), (v.2.1.2.2.2.1.1, v.2.1.2.2.2.1.2.1, v.2.1.2.2.2.1.2.2.1, v.2.1.2.2.2.1.2.2.2), ()), v.2.2.1, (), List.take (List.length v.2.2.2.1) v.2.2.2.1, ()) := by kernel_rfl
theorem rb23 (k : Nat) (M a v : Int) : loopN (e37_1 (k + 60) M [] (one (cb 23 a v))) (k + 60) (((one (cb 23 a v), ()), ((1 : Int), ()), ((0 : Int), ()), ()), ()) = some (((true, ()), ()), ()) := by kernel_rfl
theorem hb23 (k : Nat) (M a v : Int) : f30 (k + 60) ((((M, [], one (cb 23 a v)), ()), ((0 : Int), ()), ()), ()) = R21 true [0, 1, 2, 0] := by kernel_rfl

theorem right_of {k : Nat} {m : Int} {d : List Int} {c : List (Int × Int)} (hm : 0 ≤ m ∧ m ≤ 1024) (hd : (d.length : Int) ≤ m) (h : loopN (e37_1 k m d (one c)) k (((one c, ()), ((1 : Int), ()), ((0 : Int), ()), ()), ()) = some (((true, ()), ()), ())) :
    f37 k ((((m, d, one c), ()), ()), ()) = some (((true, ()), ()), ()) := by
  rw [e37_eq, cneg (by omega), cneg (by omega), cneg (by omega)]
  have hl : ((one c).length : Int) = 1 := rfl
  rw [hl, cneg (by decide), cneg (by decide)]
  exact h
theorem okB (k : Nat) (M o a v : Int) (ho : o = 21 ∨ o = 23) (p : Nat) (hp : p < (cb o a v).length) : OkI k M [] (one (cb o a v)) 0 3 0 ((cb o a v).length : Int) (ca (cb o a v) p) := by
  have no : ∀ x y : Int, (x ≠ 5 ∧ x ≠ 6 ∧ x ≠ 24 ∧ x ≠ 25 ∧ x ≠ 26 ∧ x ≠ 28) → OkI k M [] (one (cb o a v)) 0 3 0 ((cb o a v).length : Int) (x, y) := fun x y h => ⟨fun q => by simp only at q; omega, fun q => by simp only at q; omega, fun q => by simp only at q; omega⟩
  have hp4 : p < 4 := hp
  match p, hp4 with
  | 0, _ => exact no 1 a (by decide)
  | 1, _ => exact no 1 v (by decide)
  | 2, _ => exact no o 0 (by omega)
  | 3, _ => exact no 27 0 (by decide)
  | p + 4, h => omega
theorem want_eq (v : Int) (j : Nat) (hj : j < 8) : IntKind.u8.wrap ((IntKind.u64.wrap v).fdiv ((2 : Int) ^ min (IntKind.u64.wrap ((8 : Int) * IntKind.u64.wrap (j : Int))).toNat IntKind.u64.bits)) = bt v j := by
  match j, hj with
  | 0, _ =>
    rw [show (2 : Int) ^ min (IntKind.u64.wrap ((8 : Int) * IntKind.u64.wrap ((0 : Nat) : Int))).toNat IntKind.u64.bits = 1 from by decide, Int.fdiv_eq_ediv_of_nonneg _ (by decide), IntKind.wrap_u8, IntKind.wrap_u64, bt_at v ((0 : Nat) : Int) 1 (by decide) (by decide)]
    omega
  | 1, _ =>
    rw [show (2 : Int) ^ min (IntKind.u64.wrap ((8 : Int) * IntKind.u64.wrap ((1 : Nat) : Int))).toNat IntKind.u64.bits = 256 from by decide, Int.fdiv_eq_ediv_of_nonneg _ (by decide), IntKind.wrap_u8, IntKind.wrap_u64, bt_at v ((1 : Nat) : Int) 256 (by decide) (by decide)]
    omega
  | 2, _ =>
    rw [show (2 : Int) ^ min (IntKind.u64.wrap ((8 : Int) * IntKind.u64.wrap ((2 : Nat) : Int))).toNat IntKind.u64.bits = 65536 from by decide, Int.fdiv_eq_ediv_of_nonneg _ (by decide), IntKind.wrap_u8, IntKind.wrap_u64, bt_at v ((2 : Nat) : Int) 65536 (by decide) (by decide)]
    omega
  | 3, _ =>
    rw [show (2 : Int) ^ min (IntKind.u64.wrap ((8 : Int) * IntKind.u64.wrap ((3 : Nat) : Int))).toNat IntKind.u64.bits = 16777216 from by decide, Int.fdiv_eq_ediv_of_nonneg _ (by decide), IntKind.wrap_u8, IntKind.wrap_u64, bt_at v ((3 : Nat) : Int) 16777216 (by decide) (by decide)]
    omega
  | 4, _ =>
    rw [show (2 : Int) ^ min (IntKind.u64.wrap ((8 : Int) * IntKind.u64.wrap ((4 : Nat) : Int))).toNat IntKind.u64.bits = 4294967296 from by decide, Int.fdiv_eq_ediv_of_nonneg _ (by decide), IntKind.wrap_u8, IntKind.wrap_u64, bt_at v ((4 : Nat) : Int) 4294967296 (by decide) (by decide)]
    omega
  | 5, _ =>
    rw [show (2 : Int) ^ min (IntKind.u64.wrap ((8 : Int) * IntKind.u64.wrap ((5 : Nat) : Int))).toNat IntKind.u64.bits = 1099511627776 from by decide, Int.fdiv_eq_ediv_of_nonneg _ (by decide), IntKind.wrap_u8, IntKind.wrap_u64, bt_at v ((5 : Nat) : Int) 1099511627776 (by decide) (by decide)]
    omega
  | 6, _ =>
    rw [show (2 : Int) ^ min (IntKind.u64.wrap ((8 : Int) * IntKind.u64.wrap ((6 : Nat) : Int))).toNat IntKind.u64.bits = 281474976710656 from by decide, Int.fdiv_eq_ediv_of_nonneg _ (by decide), IntKind.wrap_u8, IntKind.wrap_u64, bt_at v ((6 : Nat) : Int) 281474976710656 (by decide) (by decide)]
    omega
  | 7, _ =>
    rw [show (2 : Int) ^ min (IntKind.u64.wrap ((8 : Int) * IntKind.u64.wrap ((7 : Nat) : Int))).toNat IntKind.u64.bits = 72057594037927936 from by decide, Int.fdiv_eq_ediv_of_nonneg _ (by decide), IntKind.wrap_u8, IntKind.wrap_u64, bt_at v ((7 : Nat) : Int) 72057594037927936 (by decide) (by decide)]
    omega
  | j + 8, h => omega
/-- what the law finds in the memory -/
def Lies (at_ v n : Int) (inb : Bool) (c : List Int) : Prop := ∀ i : Nat, i < c.length → ub c i = bif inb && (decide (at_ ≤ (i : Int)) && decide ((i : Int) < at_ + n)) then bt v ((i : Int) - at_) else 0
abbrev BS (at_ v n : Int) (inb : Bool) (c : List Int) (i : Int) : ((Int × Unit) × (Int × Unit) × (Int × Unit) × (Bool × Unit) × (List Int × Unit) × (Int × Unit) × (Int × Unit) × Unit) × Unit := (((at_, ()), (v, ()), (n, ()), (inb, ()), (c, ()), ((c.length : Int), ()), (i, ()), ()), ())
theorem lies_loop (at_ v n : Int) (inb : Bool) (c : List Int) (hc : c.length ≤ 100) (hn : 0 ≤ n ∧ n ≤ 8) (ha : inb = true → 0 ≤ at_ ∧ at_ ≤ 100) (H : Lies at_ v n inb c) : ∀ (e i k : Nat), c.length - i ≤ e → e + 1 ≤ k →
    loopN e7_0 k (BS at_ v n inb c i) = some (((true, ()), ()), ()) := by
  intro e
  induction e with
  | zero =>
    intro i k he hk
    obtain ⟨k, rfl⟩ : ∃ k2, k = k2 + 1 := ⟨k - 1, by omega⟩
    rw [loopN_succ, e7_0]
    simp only []
    rw [cneg (by omega)]
  | succ e ih =>
    intro i k he hk
    obtain ⟨k, rfl⟩ : ∃ k2, k = k2 + 1 := ⟨k - 1, by omega⟩
    rw [loopN_succ, e7_0]
    simp only []
    by_cases h : (i : Int) < (c.length : Int)
    · have hh := H i (by omega)
      have step := ih (i + 1) k (by omega) (by omega)
      rw [show ((i + 1 : Nat) : Int) = (i : Int) + 1 by omega] at step
      rw [cpos h, cpos (p := 0 ≤ (i : Int) ∧ (i : Int) < (c.length : Int)) (by omega), Int.toNat_natCast, wrapId (n := (i : Int) + 1) (by omega) (by omega)]
      cases inb with
      | false =>
        rw [cond_false, nneg (by rw [hh]; rfl), cond_false]
        exact step
      | true =>
        have hat := ha rfl
        rw [cond_true, wrapId (n := (i : Int) - at_) (by omega) (by omega)]
        by_cases h1 : (i : Int) - at_ ≥ 0
        · rw [cpos h1]
          by_cases h2 : (i : Int) - at_ < n
          · obtain ⟨j, hj⟩ : ∃ j : Nat, (i : Int) - at_ = j := ⟨((i : Int) - at_).toNat, by omega⟩
            rw [decide_eq_true (show at_ ≤ (i : Int) by omega), decide_eq_true (show (i : Int) < at_ + n by omega), hj] at hh
            rw [cpos h2, hj, cpos (by rw [IntKind.wrap_u64]; omega), want_eq v j (by omega), nneg (show ub c i = bt v j from hh), cond_false]
            exact step
          · rw [decide_eq_false (show ¬ (i : Int) < at_ + n by omega), Bool.and_false, Bool.and_false] at hh
            rw [cneg h2, nneg (show ub c i = 0 from hh), cond_false]
            exact step
        · rw [decide_eq_false (show ¬ at_ ≤ (i : Int) by omega), Bool.false_and, Bool.and_false] at hh
          rw [cneg h1, nneg (show ub c i = 0 from hh), cond_false]
          exact step
    · rw [cneg h]
theorem mem0 (M : Int) (hM : 0 ≤ M) : memOf M [] = List.replicate M.toNat 0 := by
  simp [memOf]
theorem ub_rep (n i : Nat) : ub (List.replicate n 0) i = 0 := by
  show (List.replicate n (0 : Int)).getD i 0 = 0
  rw [List.getD_eq_getElem?_getD, List.getElem?_replicate]
  split <;> rfl
theorem lies_in (M : Int) (hM : 0 ≤ M ∧ M ≤ 63) (at_ v : Int) (n : Nat) (h : 0 ≤ at_ ∧ at_ + n ≤ M) : Lies at_ v n true (puts (List.replicate M.toNat 0) at_.toNat v n) := fun i hi => by
  rw [ub_puts _ _ _ _ _ (by rw [List.length_replicate]; omega), ub_rep]
  by_cases h1 : at_.toNat ≤ i ∧ i < at_.toNat + n
  · rw [if_pos h1, decide_eq_true (show at_ ≤ (i : Int) by omega), decide_eq_true (show (i : Int) < at_ + n by omega)]
    rw [show ((at_.toNat : Nat) : Int) = at_ by omega]
    rfl
  · rw [if_neg h1]
    by_cases h2 : at_ ≤ (i : Int)
    · rw [decide_eq_false (show ¬ (i : Int) < at_ + n by omega), Bool.and_false, Bool.and_false]; rfl
    · rw [decide_eq_false h2, Bool.false_and, Bool.and_false]; rfl
theorem lies_out (M : Int) (at_ v n : Int) : Lies at_ v n false (List.replicate M.toNat 0) := fun i hi => by
  rw [ub_rep]; rfl
theorem run21 (k : Nat) (M a v : Int) (c : List Int) (hc : c.length ≤ 2000) :
    f16 (k + 60) ((((), ()), ((99 : Int), ()), ()), MB M 21 a v, c, [(0, 0, [0, 0, 0], [])], ()) = if 0 ≤ a ∧ a + 1 ≤ (c.length : Int) then some ((((1, 0, 4, 0, []), ()), ()), MB M 21 a v, puts c a.toNat v 1, (), [], ()) else some ((((4, 2, 3, 0, []), ()), ()), MS M [] (one (cb 21 a v)) false 0 [] 2, c, (), [(0, 3, [0, 0, 0], [])], ()) := by
  rw [run_eq (k + 60) 99 (by omega)]
  show loopN (lp (k + 60)) (k + 59 + 1) _ = _
  rw [run_step (by decide) (sb0 k M 21 a v c)]
  show loopN (lp (k + 60)) (k + 58 + 1) _ = _
  rw [run_step (by decide) (sb1 k M 21 a v c)]
  show loopN (lp (k + 60)) (k + 57 + 1) _ = _
  by_cases h : 0 ≤ a ∧ a + 1 ≤ (c.length : Int)
  · have h2 : f26 (k + 60) ((((), ()), ()), MB M 21 a v, c, [(0, 2, [0, 0, 0], [a, v])], ()) = some ((), MB M 21 a v, puts c a.toNat v 1, (), [(0, 3, [0, 0, 0], [])], ()) := by
      rw [sb2_21, store1 (K := k + 60) (by omega) a v M [] (one (cb 21 a v)) c [(0, 3, [0, 0, 0], [])] 0 [] hc, if_pos h]
      rfl
    rw [if_pos h, run_step (by decide) h2]
    show loopN (lp (k + 60)) (k + 56 + 1) _ = _
    rw [run_step (by decide) (sb3 k M 21 a v _)]
    exact run_done (k + 55)
  · have h2 : f26 (k + 60) ((((), ()), ()), MB M 21 a v, c, [(0, 2, [0, 0, 0], [a, v])], ()) = some ((), MS M [] (one (cb 21 a v)) false 0 [] 2, c, (), [(0, 3, [0, 0, 0], [])], ()) := by
      rw [sb2_21, store1 (K := k + 60) (by omega) a v M [] (one (cb 21 a v)) c [(0, 3, [0, 0, 0], [])] 0 [] hc, if_neg h]
      rfl
    rw [if_neg h, run_step (by decide) h2]
    exact run_dead (by decide) (k + 56)
theorem chk21 (k : Nat) (hk : 2000 ≤ k + 60) (M a v : Int) (hM : 0 ≤ M ∧ M ≤ 63) : f20 (k + 60) ((((M, [], one (cb 21 a v)), ()), ()), ()) = r20 0 0 0 :=
  check1 (k + 60) hk M [] (cb 21 a v) (by decide) (by simp only [List.length_cons, List.length_nil]; omega) (right_of (by omega) hM.1 (rb21 k M a v)) (okB (k + 60) M 21 a v (by decide)) ⟨_, hb21 k M a v⟩
theorem run23 (k : Nat) (M a v : Int) (c : List Int) (hc : c.length ≤ 2000) :
    f16 (k + 60) ((((), ()), ((99 : Int), ()), ()), MB M 23 a v, c, [(0, 0, [0, 0, 0], [])], ()) = if 0 ≤ a ∧ a + 8 ≤ (c.length : Int) then some ((((1, 0, 4, 0, []), ()), ()), MB M 23 a v, puts c a.toNat v 8, (), [], ()) else some ((((4, 2, 3, 0, []), ()), ()), MS M [] (one (cb 23 a v)) false 0 [] 2, c, (), [(0, 3, [0, 0, 0], [])], ()) := by
  rw [run_eq (k + 60) 99 (by omega)]
  show loopN (lp (k + 60)) (k + 59 + 1) _ = _
  rw [run_step (by decide) (sb0 k M 23 a v c)]
  show loopN (lp (k + 60)) (k + 58 + 1) _ = _
  rw [run_step (by decide) (sb1 k M 23 a v c)]
  show loopN (lp (k + 60)) (k + 57 + 1) _ = _
  by_cases h : 0 ≤ a ∧ a + 8 ≤ (c.length : Int)
  · have h2 : f26 (k + 60) ((((), ()), ()), MB M 23 a v, c, [(0, 2, [0, 0, 0], [a, v])], ()) = some ((), MB M 23 a v, puts c a.toNat v 8, (), [(0, 3, [0, 0, 0], [])], ()) := by
      rw [sb2_23, store8 (K := k + 60) (by omega) a v M [] (one (cb 23 a v)) c [(0, 3, [0, 0, 0], [])] 0 [] hc, if_pos h]
      rfl
    rw [if_pos h, run_step (by decide) h2]
    show loopN (lp (k + 60)) (k + 56 + 1) _ = _
    rw [run_step (by decide) (sb3 k M 23 a v _)]
    exact run_done (k + 55)
  · have h2 : f26 (k + 60) ((((), ()), ()), MB M 23 a v, c, [(0, 2, [0, 0, 0], [a, v])], ()) = some ((), MS M [] (one (cb 23 a v)) false 0 [] 2, c, (), [(0, 3, [0, 0, 0], [])], ()) := by
      rw [sb2_23, store8 (K := k + 60) (by omega) a v M [] (one (cb 23 a v)) c [(0, 3, [0, 0, 0], [])] 0 [] hc, if_neg h]
      rfl
    rw [if_neg h, run_step (by decide) h2]
    exact run_dead (by decide) (k + 56)
theorem chk23 (k : Nat) (hk : 2000 ≤ k + 60) (M a v : Int) (hM : 0 ≤ M ∧ M ≤ 63) : f20 (k + 60) ((((M, [], one (cb 23 a v)), ()), ()), ()) = r20 0 0 0 :=
  check1 (k + 60) hk M [] (cb 23 a v) (by decide) (by simp only [List.length_cons, List.length_nil]; omega) (right_of (by omega) hM.1 (rb23 k M a v)) (okB (k + 60) M 23 a v (by decide)) ⟨_, hb23 k M a v⟩

theorem take_all {c : List Int} {M : Int} (h : (c.length : Int) = M) : List.take ((0 + M).toNat - Int.toNat 0) (List.drop (Int.toNat 0) c) = c := by
  rw [Int.toNat_zero, List.drop_zero, Nat.sub_zero, List.take_of_length_le (by omega)]
theorem law_b (k : Nat) (hk : 2000 ≤ k + 60) (me at_ v : Int) (eight : Bool) : f7 (k + 60) (((me, ()), (at_, ()), (v, ()), (eight, ()), ()), ()) = some (((true, ()), ()), ()) := by
  rw [e7_eq, alive, Option.bind_some]
  simp only []
  rw [Bool.not_true, cond_false]
  have hM := mev_in me
  generalize mev me = M at hM ⊢
  cases eight with
  | true =>
    rw [cond_true, ins_eq, Option.bind_some, ins_eq, Option.bind_some, ins_eq, Option.bind_some, ins_eq, Option.bind_some, mod_eq, Option.bind_some]
    simp only []
    rw [new1 (k + 60) hk M [] (cb 23 at_ v) (by omega) (by simp only [List.length_cons, List.length_nil]; omega) (chk23 k hk M at_ v hM), Option.bind_some]
    simp only []
    rw [nneg rfl, cond_false, beg_b, Option.bind_some]
    simp only []
    rw [nneg rfl, cond_false, mem0 M hM.1]
    have hl : ((List.replicate M.toNat (0 : Int)).length : Int) = M := by rw [List.length_replicate]; omega
    rw [run23 k M at_ v _ (by omega), hl]
    by_cases h : 0 ≤ at_ ∧ at_ + 8 ≤ M
    · have hp : ((puts (List.replicate M.toNat 0) at_.toNat v 8).length : Int) = M := by rw [puts_len]; exact hl
      rw [if_pos h, Option.bind_some]
      simp only []
      rw [mem_in (by decide) hM.1 (by omega) (by omega), Option.bind_some, take_all hp]
      simp only []
      rw [Bool.not_true, cond_false, nneg hp, cond_false, cpos h.1, wrapId (n := M - 8) (by omega) (by omega), decide_eq_true (show at_ ≤ M - 8 by omega)]
      exact lies_loop at_ v 8 true _ (by omega) (by decide) (fun _ => by omega) (lies_in M hM at_ v 8 h) 100 0 (k + 60) (by omega) (by omega)
    · rw [if_neg h, Option.bind_some]
      simp only []
      rw [mem_in (by decide) hM.1 (by omega) (by omega), Option.bind_some, take_all hl]
      simp only []
      rw [Bool.not_true, cond_false, nneg hl, cond_false]
      by_cases h1 : at_ ≥ 0
      · rw [cpos h1, wrapId (n := M - 8) (by omega) (by omega), decide_eq_false (show ¬ at_ ≤ M - 8 by omega)]
        exact lies_loop at_ v 8 false _ (by omega) (by decide) (fun q => by cases q) (lies_out M at_ v 8) 100 0 (k + 60) (by omega) (by omega)
      · rw [cneg h1]
        exact lies_loop at_ v 8 false _ (by omega) (by decide) (fun q => by cases q) (lies_out M at_ v 8) 100 0 (k + 60) (by omega) (by omega)
  | false =>
    rw [cond_false, ins_eq, Option.bind_some, ins_eq, Option.bind_some, ins_eq, Option.bind_some, ins_eq, Option.bind_some, mod_eq, Option.bind_some]
    simp only []
    rw [new1 (k + 60) hk M [] (cb 21 at_ v) (by omega) (by simp only [List.length_cons, List.length_nil]; omega) (chk21 k hk M at_ v hM), Option.bind_some]
    simp only []
    rw [nneg rfl, cond_false, beg_b, Option.bind_some]
    simp only []
    rw [nneg rfl, cond_false, mem0 M hM.1]
    have hl : ((List.replicate M.toNat (0 : Int)).length : Int) = M := by rw [List.length_replicate]; omega
    rw [run21 k M at_ v _ (by omega), hl]
    by_cases h : 0 ≤ at_ ∧ at_ + 1 ≤ M
    · have hp : ((puts (List.replicate M.toNat 0) at_.toNat v 1).length : Int) = M := by rw [puts_len]; exact hl
      rw [if_pos h, Option.bind_some]
      simp only []
      rw [mem_in (by decide) hM.1 (by omega) (by omega), Option.bind_some, take_all hp]
      simp only []
      rw [Bool.not_true, cond_false, nneg hp, cond_false, cpos h.1, wrapId (n := M - 1) (by omega) (by omega), decide_eq_true (show at_ ≤ M - 1 by omega)]
      exact lies_loop at_ v 1 true _ (by omega) (by decide) (fun _ => by omega) (lies_in M hM at_ v 1 h) 100 0 (k + 60) (by omega) (by omega)
    · rw [if_neg h, Option.bind_some]
      simp only []
      rw [mem_in (by decide) hM.1 (by omega) (by omega), Option.bind_some, take_all hl]
      simp only []
      rw [Bool.not_true, cond_false, nneg hl, cond_false]
      by_cases h1 : at_ ≥ 0
      · rw [cpos h1, wrapId (n := M - 1) (by omega) (by omega), decide_eq_false (show ¬ at_ ≤ M - 1 by omega)]
        exact lies_loop at_ v 1 false _ (by omega) (by decide) (fun q => by cases q) (lies_out M at_ v 1) 100 0 (k + 60) (by omega) (by omega)
      · rw [cneg h1]
        exact lies_loop at_ v 1 false _ (by omega) (by decide) (fun q => by cases q) (lies_out M at_ v 1) 100 0 (k + 60) (by omega) (by omega)

theorem law7 (k : Nat) : ∀ e ∈ [Fm.entry Try.prog F8 8 (f8 k), Fm.entry Try.prog F19 19 (f19 k), Fm.entry Try.prog F18 18 (f18 k), Fm.entry Try.prog F9 9 (f9 k), Fm.entry Try.prog F10 10 (f10 k), Fm.entry Try.prog F16 16 (f16 k), Fm.entry Try.prog F13 13 (f13 k)], EGood Try.prog e := goods_cons (g8 k) (goods_cons (g19 k) (goods_cons (g18 k) (goods_cons (g9 k) (goods_cons (g10 k) (goods_cons (g16 k) (goods_cons (g13 k) goods_nil))))))
theorem vmBounds (me at_ v : Int) (eight : Bool) : f7 (2000 + 60) (((me, ()), (at_, ()), (v, ()), (eight, ()), ()), ()) = some (((true, ()), ()), ()) :=
  law_b 2000 (by decide) me at_ v eight
end
end Go.Proofs.Ytjbdeccohpbegaa.Vm
