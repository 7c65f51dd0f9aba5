import Derived.Orders
import Derived.Below
import Derived.Laws.AppendOwn
import Derived.Laws.MakeOwn
namespace Go.Proofs.YtaklapcbbdcdpaaDoor.X
open Go Go.RowKit
set_option linter.unusedVariables false
noncomputable section

inductive DV where
  | lit (v : Value)
  | sl (n : Nat) (cs : List DV)
/-! Types that hold slices of themselves: none -/
@[reducible] def RT : Nat → Type := fun _ => Unit
def RT.dv : (r : Nat) → RT r → List DV := fun _ _ => []
/-! Shapes of what is read and never written -/
inductive Sh where
  | unit | int (k : IntKind) | bool | str | sl (s : Sh) | pair (a b : Sh) | rs (r : Nat)
  deriving DecidableEq, Inhabited
@[reducible] def Sh.T : Sh → Type
  | .unit => Unit
  | .int _ => Int
  | .bool => Bool
  | .str => ByteArray
  | .sl s => List s.T
  | .pair a b => a.T × b.T
  | .rs r => List (RT r)
def Sh.sz : Sh → Nat
  | .unit => 0
  | .pair a b => a.sz + b.sz
  | _ => 1
def Sh.dflt : (s : Sh) → s.T
  | .unit => ()
  | .int _ => (0 : Int)
  | .bool => false
  | .str => ByteArray.empty
  | .sl _ => []
  | .pair a b => (a.dflt, b.dflt)
  | .rs _ => []
def Sh.dv : (s : Sh) → s.T → List DV
  | .unit, _ => []
  | .int k, n => [.lit (.int k n)]
  | .bool, b => [.lit (.bool b)]
  | .str, b => [.lit (.string b)]
  | .sl s, xs => [.sl xs.length (xs.flatMap s.dv)]
  | .pair a b, x => a.dv x.1 ++ b.dv x.2
  | .rs r, xs => [.sl xs.length (xs.flatMap (RT.dv r))]
/-- what an element of such a slice is made of -/
@[reducible] def body : Nat → Sh := fun _ => .unit
def out : (r : Nat) → RT r → (body r).T := fun _ x => x
def inn : (r : Nat) → (body r).T → RT r := fun _ x => x
theorem out_inn (r : Nat) (x : (body r).T) : out r (inn r x) = x := rfl
theorem inn_out (r : Nat) (x : RT r) : inn r (out r x) = x := rfl
theorem out_dv (r : Nat) (x : RT r) : RT.dv r x = (body r).dv (out r x) := rfl
/-! The rest holds for all seats -/
theorem rs_dv (r : Nat) (xs : List (RT r)) : (Sh.rs r).dv xs = (Sh.sl (body r)).dv (xs.map (out r)) := by
  have h : ∀ l : List (RT r), l.flatMap (RT.dv r) = (l.map (out r)).flatMap (body r).dv := fun l => by
    induction l with
    | nil => rfl
    | cons x l ih => rw [List.flatMap_cons, List.map_cons, List.flatMap_cons, ih, out_dv]
  show [DV.sl xs.length (xs.flatMap (RT.dv r))] = [DV.sl (xs.map (out r)).length ((xs.map (out r)).flatMap (body r).dv)]
  rw [h, List.length_map]
theorem map_out_inn (r : Nat) (ys : List (body r).T) : (ys.map (inn r)).map (out r) = ys := by
  rw [List.map_map]
  have : (out r ∘ inn r) = id := funext fun x => out_inn r x
  rw [this, List.map_id]
theorem map_inn_out (r : Nat) (xs : List (RT r)) : (xs.map (out r)).map (inn r) = xs := by
  rw [List.map_map]
  have : (inn r ∘ out r) = id := funext fun x => inn_out r x
  rw [this, List.map_id]
theorem rs_dv_inn (r : Nat) (ys : List (body r).T) : (Sh.rs r).dv (ys.map (inn r)) = (Sh.sl (body r)).dv ys := by rw [rs_dv, map_out_inn]
end
end Go.Proofs.YtaklapcbbdcdpaaDoor.X
