import Derived.Orders
import Derived.Below
import Derived.Laws.AppendOwn
import Derived.Laws.MakeOwn
namespace Go.Proofs.Ytjbdeccohpbegaa.X
open Go Go.RowKit
set_option linter.unusedVariables false
noncomputable section

/-! Shapes of what is read and never written -/
inductive Sh where
  | unit | int (k : IntKind) | bool | str | sl (s : Sh) | pair (a b : Sh)
  deriving DecidableEq, Inhabited
@[reducible] def Sh.T : Sh → Type
  | .unit => Unit
  | .int _ => Int
  | .bool => Bool
  | .str => ByteArray
  | .sl s => List s.T
  | .pair a b => a.T × b.T
def Sh.sz : Sh → Nat
  | .unit => 0
  | .pair a b => a.sz + b.sz
  | _ => 1
def Sh.dflt : (s : Sh) → s.T
  | .unit => ()
  | .int _ => (0 : Int)
  | .bool => false
  | .str => ByteArray.empty
  | .sl _ => []
  | .pair a b => (a.dflt, b.dflt)
end
end Go.Proofs.Ytjbdeccohpbegaa.X
