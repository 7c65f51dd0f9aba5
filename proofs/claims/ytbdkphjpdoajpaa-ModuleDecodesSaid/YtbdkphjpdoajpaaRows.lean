/-
  No cell of these rows narrows 'for every input' (looked for: loops, veiled, ifaces, maps, wideKeys, modest, calm, conditions, laid).
  DERIVED. THE GIVEN ROWS OF THIS SEAT. 6 by the template 'for every input the law returns true; each argument reads behind the call as it read before'; 0 by the template 'total and deterministic' (their statements: YtbdkphjpdoajpaaTotals.lean).
  GIVEN WITH THE SEED: the statements are not yours to turn. If you find one false, say at which input.
  Laid BY PROGRAM, IN A SANDBOX (cutbox-rows.mjs): the forced cells as the released guide's own fill.sh prints them over the translation 2094882d22316731… (all of the seat's roots in one cut). By AI agents, Wed Nov 11 2026. No macro, syntax, notation, axiom, sorry.
-/
import Derived.Test.YtbdkphjpdoajpaaChecked
import GoSem.Claim
import GoSem.ClaimJoined
import GoSem.ClaimMapViews
import Derived.JoinedTies
import Derived.KernelRfl
namespace Go.Proofs.Ytbdkphjpdoajpaa
/- THE CELL 'sum', in the pinned program and in every row, IS THE sha256 OF THE DUMP (.gsa) THAT YtbdkphjpdoajpaaProg.lean LOADS. Nothing in Lean hashes anything: it is a label: what it is worth is what the hold of that sum in a sandbox is worth. -/
noncomputable def Try.pinned : Pinned := { name := "ytbdkphjpdoajpaa", sum := "2094882d22316731b04d644c16a462c32decea4c15c12eb14d54a937e57e9cb4", checked := Try.checked }
namespace Rows
def none {H : Type} : Left H := { results := [], args := [] }

/-- 'casementlaw12.ModuleDecodes': WHATEVER THE INPUT: true; the input reads as it did. -/
def moduleDecodesSpec : ChangeSpec := { name := "moduleDecodes", fn := fun _ => fun
  | [d] => { results := [.lit (.bool true)], args := [d] }
  | _ => none }
def moduleDecodesRow : OpenClaim := { program := "ytbdkphjpdoajpaa", sum := "2094882d22316731b04d644c16a462c32decea4c15c12eb14d54a937e57e9cb4", func := "casement/casementlaw12.ModuleDecodes", spec := "moduleDecodes", apart := false }
def ModuleDecodesSaid : Prop := moduleDecodesRow.holds Try.pinned (OpenSpec.ofChange moduleDecodesSpec)

/-- ITS FALSE NEIGHBOUR: 'it returns false'. Refute it at one input. -/
def moduleDecodesWrong : ChangeSpec := { name := "moduleDecodes", fn := fun _ => fun
  | [d] => { results := [.lit (.bool false)], args := [d] }
  | _ => none }
def ModuleDecodesWrongFalsely : Prop := moduleDecodesRow.holds Try.pinned (OpenSpec.ofChange moduleDecodesWrong)

/-- 'casementlaw12.ModuleEncodes': WHATEVER THE INPUT: true; the input reads as it did. -/
def moduleEncodesSpec : ChangeSpec := { name := "moduleEncodes", fn := fun _ => fun
  | [d] => { results := [.lit (.bool true)], args := [d] }
  | _ => none }
def moduleEncodesRow : OpenClaim := { program := "ytbdkphjpdoajpaa", sum := "2094882d22316731b04d644c16a462c32decea4c15c12eb14d54a937e57e9cb4", func := "casement/casementlaw12.ModuleEncodes", spec := "moduleEncodes", apart := false }
def ModuleEncodesSaid : Prop := moduleEncodesRow.holds Try.pinned (OpenSpec.ofChange moduleEncodesSpec)

/-- ITS FALSE NEIGHBOUR: 'it returns false'. Refute it at one input. -/
def moduleEncodesWrong : ChangeSpec := { name := "moduleEncodes", fn := fun _ => fun
  | [d] => { results := [.lit (.bool false)], args := [d] }
  | _ => none }
def ModuleEncodesWrongFalsely : Prop := moduleEncodesRow.holds Try.pinned (OpenSpec.ofChange moduleEncodesWrong)

/-- 'casementlaw12.ModuleBack': WHATEVER THE INPUT: true; the input reads as it did. -/
def moduleBackSpec : ChangeSpec := { name := "moduleBack", fn := fun _ => fun
  | [d] => { results := [.lit (.bool true)], args := [d] }
  | _ => none }
def moduleBackRow : OpenClaim := { program := "ytbdkphjpdoajpaa", sum := "2094882d22316731b04d644c16a462c32decea4c15c12eb14d54a937e57e9cb4", func := "casement/casementlaw12.ModuleBack", spec := "moduleBack", apart := false }
def ModuleBackSaid : Prop := moduleBackRow.holds Try.pinned (OpenSpec.ofChange moduleBackSpec)

/-- ITS FALSE NEIGHBOUR: 'it returns false'. Refute it at one input. -/
def moduleBackWrong : ChangeSpec := { name := "moduleBack", fn := fun _ => fun
  | [d] => { results := [.lit (.bool false)], args := [d] }
  | _ => none }
def ModuleBackWrongFalsely : Prop := moduleBackRow.holds Try.pinned (OpenSpec.ofChange moduleBackWrong)

/-- 'casementlaw12.ModuleBegins': WHATEVER THE INPUT: true; the input reads as it did. -/
def moduleBeginsSpec : ChangeSpec := { name := "moduleBegins", fn := fun _ => fun
  | [d1, d2, d3] => { results := [.lit (.bool true)], args := [d1, d2, d3] }
  | _ => none }
def moduleBeginsRow : OpenClaim := { program := "ytbdkphjpdoajpaa", sum := "2094882d22316731b04d644c16a462c32decea4c15c12eb14d54a937e57e9cb4", func := "casement/casementlaw12.ModuleBegins", spec := "moduleBegins", apart := false }
def ModuleBeginsSaid : Prop := moduleBeginsRow.holds Try.pinned (OpenSpec.ofChange moduleBeginsSpec)

/-- ITS FALSE NEIGHBOUR: 'it returns false'. Refute it at one input. -/
def moduleBeginsWrong : ChangeSpec := { name := "moduleBegins", fn := fun _ => fun
  | [d1, d2, d3] => { results := [.lit (.bool false)], args := [d1, d2, d3] }
  | _ => none }
def ModuleBeginsWrongFalsely : Prop := moduleBeginsRow.holds Try.pinned (OpenSpec.ofChange moduleBeginsWrong)

/-- 'casementlaw12.ModuleTurns': WHATEVER THE INPUT: true; the input reads as it did. -/
def moduleTurnsSpec : ChangeSpec := { name := "moduleTurns", fn := fun _ => fun
  | [d1, d2, d3] => { results := [.lit (.bool true)], args := [d1, d2, d3] }
  | _ => none }
def moduleTurnsRow : OpenClaim := { program := "ytbdkphjpdoajpaa", sum := "2094882d22316731b04d644c16a462c32decea4c15c12eb14d54a937e57e9cb4", func := "casement/casementlaw12.ModuleTurns", spec := "moduleTurns", apart := false }
def ModuleTurnsSaid : Prop := moduleTurnsRow.holds Try.pinned (OpenSpec.ofChange moduleTurnsSpec)

/-- ITS FALSE NEIGHBOUR: 'it returns false'. Refute it at one input. -/
def moduleTurnsWrong : ChangeSpec := { name := "moduleTurns", fn := fun _ => fun
  | [d1, d2, d3] => { results := [.lit (.bool false)], args := [d1, d2, d3] }
  | _ => none }
def ModuleTurnsWrongFalsely : Prop := moduleTurnsRow.holds Try.pinned (OpenSpec.ofChange moduleTurnsWrong)

/-- 'casementlaw12.ModuleNumbers': WHATEVER THE INPUT: true; the input reads as it did. -/
def moduleNumbersSpec : ChangeSpec := { name := "moduleNumbers", fn := fun _ => fun
  | [d] => { results := [.lit (.bool true)], args := [d] }
  | _ => none }
def moduleNumbersRow : OpenClaim := { program := "ytbdkphjpdoajpaa", sum := "2094882d22316731b04d644c16a462c32decea4c15c12eb14d54a937e57e9cb4", func := "casement/casementlaw12.ModuleNumbers", spec := "moduleNumbers", apart := false }
def ModuleNumbersSaid : Prop := moduleNumbersRow.holds Try.pinned (OpenSpec.ofChange moduleNumbersSpec)

/-- ITS FALSE NEIGHBOUR: 'it returns false'. Refute it at one input. -/
def moduleNumbersWrong : ChangeSpec := { name := "moduleNumbers", fn := fun _ => fun
  | [d] => { results := [.lit (.bool false)], args := [d] }
  | _ => none }
def ModuleNumbersWrongFalsely : Prop := moduleNumbersRow.holds Try.pinned (OpenSpec.ofChange moduleNumbersWrong)

/- THE SECOND FORM. 'bulk': how many values and letters a reading holds, each counted each time it is reached (what is shared counts as often as it is met; a slice's spare places count too). A statement '..UptoSaid' is the law's where the arguments, and the package variables that the reading takes, are together of bulk at most 1048576: NARROWER than '..Said'. Prove '..Said' where nothing that the law and all that it calls make is longer than what came in: it says more and counts as full. Else prove '..UptoSaid'. A law counts once. -/
mutual
def uptoBulk {H : Type} : DataW H → Nat
  | .lit (.string bytes) => bytes.length + 1
  | .lit _ => 1
  | .nil => 1
  | .ptr d => uptoBulk d + 1
  | .slice elems spare => uptoBulkAll elems + uptoBulkAll spare + 1
  | .agg parts => uptoBulkAll parts + 1
  | .iface _ d => uptoBulk d + 1
  | .map entries => uptoBulkEntries entries + 1
  | .held _ => 1
def uptoBulkAll {H : Type} : List (DataW H) → Nat
  | [] => 0
  | d :: r => uptoBulk d + uptoBulkAll r
def uptoBulkEntries {H : Type} : List (Lit × DataW H) → Nat
  | [] => 0
  | x :: r => uptoBulkEntry x + uptoBulkEntries r
def uptoBulkEntry {H : Type} : Lit × DataW H → Nat
  | (.string bytes, d) => bytes.length + uptoBulk d + 1
  | (_, d) => uptoBulk d + 1
 end
def uptoSmall : (H : Type) → List (DataW H) → Bool := fun _ ds => decide (uptoBulkAll ds ≤ 1048576)
def OpenSpec.upto (s : _root_.Go.ChangeSpec) : _root_.Go.OpenSpec := { _root_.Go.OpenSpec.ofChange s with cond := some uptoSmall }

/-- 'casementlaw12.ModuleDecodes', WHERE WHAT IT READS IS OF BULK AT MOST 1048576: true; the input reads as it did. -/
def moduleDecodesUptoRow : OpenClaim := { program := "ytbdkphjpdoajpaa", sum := "2094882d22316731b04d644c16a462c32decea4c15c12eb14d54a937e57e9cb4", func := "casement/casementlaw12.ModuleDecodes", spec := "moduleDecodes", apart := false, narrowed := true }
def ModuleDecodesUptoSaid : Prop := moduleDecodesUptoRow.holds Try.pinned (OpenSpec.upto moduleDecodesSpec)

/-- 'casementlaw12.ModuleEncodes', WHERE WHAT IT READS IS OF BULK AT MOST 1048576: true; the input reads as it did. -/
def moduleEncodesUptoRow : OpenClaim := { program := "ytbdkphjpdoajpaa", sum := "2094882d22316731b04d644c16a462c32decea4c15c12eb14d54a937e57e9cb4", func := "casement/casementlaw12.ModuleEncodes", spec := "moduleEncodes", apart := false, narrowed := true }
def ModuleEncodesUptoSaid : Prop := moduleEncodesUptoRow.holds Try.pinned (OpenSpec.upto moduleEncodesSpec)

/-- 'casementlaw12.ModuleBack', WHERE WHAT IT READS IS OF BULK AT MOST 1048576: true; the input reads as it did. -/
def moduleBackUptoRow : OpenClaim := { program := "ytbdkphjpdoajpaa", sum := "2094882d22316731b04d644c16a462c32decea4c15c12eb14d54a937e57e9cb4", func := "casement/casementlaw12.ModuleBack", spec := "moduleBack", apart := false, narrowed := true }
def ModuleBackUptoSaid : Prop := moduleBackUptoRow.holds Try.pinned (OpenSpec.upto moduleBackSpec)

/-- 'casementlaw12.ModuleBegins', WHERE WHAT IT READS IS OF BULK AT MOST 1048576: true; the input reads as it did. -/
def moduleBeginsUptoRow : OpenClaim := { program := "ytbdkphjpdoajpaa", sum := "2094882d22316731b04d644c16a462c32decea4c15c12eb14d54a937e57e9cb4", func := "casement/casementlaw12.ModuleBegins", spec := "moduleBegins", apart := false, narrowed := true }
def ModuleBeginsUptoSaid : Prop := moduleBeginsUptoRow.holds Try.pinned (OpenSpec.upto moduleBeginsSpec)

/-- 'casementlaw12.ModuleTurns', WHERE WHAT IT READS IS OF BULK AT MOST 1048576: true; the input reads as it did. -/
def moduleTurnsUptoRow : OpenClaim := { program := "ytbdkphjpdoajpaa", sum := "2094882d22316731b04d644c16a462c32decea4c15c12eb14d54a937e57e9cb4", func := "casement/casementlaw12.ModuleTurns", spec := "moduleTurns", apart := false, narrowed := true }
def ModuleTurnsUptoSaid : Prop := moduleTurnsUptoRow.holds Try.pinned (OpenSpec.upto moduleTurnsSpec)

/-- 'casementlaw12.ModuleNumbers', WHERE WHAT IT READS IS OF BULK AT MOST 1048576: true; the input reads as it did. -/
def moduleNumbersUptoRow : OpenClaim := { program := "ytbdkphjpdoajpaa", sum := "2094882d22316731b04d644c16a462c32decea4c15c12eb14d54a937e57e9cb4", func := "casement/casementlaw12.ModuleNumbers", spec := "moduleNumbers", apart := false, narrowed := true }
def ModuleNumbersUptoSaid : Prop := moduleNumbersUptoRow.holds Try.pinned (OpenSpec.upto moduleNumbersSpec)

end Rows
end Go.Proofs.Ytbdkphjpdoajpaa
