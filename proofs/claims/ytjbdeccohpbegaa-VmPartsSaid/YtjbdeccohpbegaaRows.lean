/-
  No cell of these rows narrows 'for every input' (looked for: loops, veiled, ifaces, maps, wideKeys, modest, calm, conditions, laid).
  DERIVED. THE GIVEN ROWS OF THIS SEAT. 5 by the template 'for every input the law returns true; each argument reads behind the call as it read before'; 0 by the template 'total and deterministic' (their statements: YtjbdeccohpbegaaTotals.lean).
  GIVEN WITH THE SEED: the statements are not yours to turn. If you find one false, say at which input.
  Laid BY PROGRAM, IN A SANDBOX (cutbox-rows.mjs): the forced cells as the released guide's own fill.sh prints them over the translation 03df07e0f49d4f0b… (all of the seat's roots in one cut). By AI agents, Wed Nov 11 2026. No macro, syntax, notation, axiom, sorry.
-/
import Derived.Test.YtjbdeccohpbegaaChecked
import GoSem.Claim
import GoSem.ClaimJoined
import GoSem.ClaimMapViews
import Derived.JoinedTies
import Derived.KernelRfl
namespace Go.Proofs.Ytjbdeccohpbegaa
/- THE CELL 'sum', in the pinned program and in every row, IS THE sha256 OF THE DUMP (.gsa) THAT YtjbdeccohpbegaaProg.lean LOADS. Nothing in Lean hashes anything: it is a label: what it is worth is what the hold of that sum in a sandbox is worth. -/
noncomputable def Try.pinned : Pinned := { name := "ytjbdeccohpbegaa", sum := "03df07e0f49d4f0be6315d0c0f3b68b2a6c428708f9da72303b8cac342129d1e", checked := Try.checked }
namespace Rows
def none {H : Type} : Left H := { results := [], args := [] }

/-- 'casementlaw14.VmParts': WHATEVER THE INPUT: true; the input reads as it did. -/
def vmPartsSpec : ChangeSpec := { name := "vmParts", fn := fun _ => fun
  | [d1, d2, d3] => { results := [.lit (.bool true)], args := [d1, d2, d3] }
  | _ => none }
def vmPartsRow : OpenClaim := { program := "ytjbdeccohpbegaa", sum := "03df07e0f49d4f0be6315d0c0f3b68b2a6c428708f9da72303b8cac342129d1e", func := "casement/casementlaw14.VmParts", spec := "vmParts", apart := false }
def VmPartsSaid : Prop := vmPartsRow.holds Try.pinned (OpenSpec.ofChange vmPartsSpec)

/-- ITS FALSE NEIGHBOUR: 'it returns false'. Refute it at one input. -/
def vmPartsWrong : ChangeSpec := { name := "vmParts", fn := fun _ => fun
  | [d1, d2, d3] => { results := [.lit (.bool false)], args := [d1, d2, d3] }
  | _ => none }
def VmPartsWrongFalsely : Prop := vmPartsRow.holds Try.pinned (OpenSpec.ofChange vmPartsWrong)

/-- 'casementlaw14.VmEnds': WHATEVER THE INPUT: true; the input reads as it did. -/
def vmEndsSpec : ChangeSpec := { name := "vmEnds", fn := fun _ => fun
  | [d1, d2, d3] => { results := [.lit (.bool true)], args := [d1, d2, d3] }
  | _ => none }
def vmEndsRow : OpenClaim := { program := "ytjbdeccohpbegaa", sum := "03df07e0f49d4f0be6315d0c0f3b68b2a6c428708f9da72303b8cac342129d1e", func := "casement/casementlaw14.VmEnds", spec := "vmEnds", apart := false }
def VmEndsSaid : Prop := vmEndsRow.holds Try.pinned (OpenSpec.ofChange vmEndsSpec)

/-- ITS FALSE NEIGHBOUR: 'it returns false'. Refute it at one input. -/
def vmEndsWrong : ChangeSpec := { name := "vmEnds", fn := fun _ => fun
  | [d1, d2, d3] => { results := [.lit (.bool false)], args := [d1, d2, d3] }
  | _ => none }
def VmEndsWrongFalsely : Prop := vmEndsRow.holds Try.pinned (OpenSpec.ofChange vmEndsWrong)

/-- 'casementlaw14.VmSums': WHATEVER THE INPUT: true; the input reads as it did. -/
def vmSumsSpec : ChangeSpec := { name := "vmSums", fn := fun _ => fun
  | [d1, d2, d3] => { results := [.lit (.bool true)], args := [d1, d2, d3] }
  | _ => none }
def vmSumsRow : OpenClaim := { program := "ytjbdeccohpbegaa", sum := "03df07e0f49d4f0be6315d0c0f3b68b2a6c428708f9da72303b8cac342129d1e", func := "casement/casementlaw14.VmSums", spec := "vmSums", apart := false }
def VmSumsSaid : Prop := vmSumsRow.holds Try.pinned (OpenSpec.ofChange vmSumsSpec)

/-- ITS FALSE NEIGHBOUR: 'it returns false'. Refute it at one input. -/
def vmSumsWrong : ChangeSpec := { name := "vmSums", fn := fun _ => fun
  | [d1, d2, d3] => { results := [.lit (.bool false)], args := [d1, d2, d3] }
  | _ => none }
def VmSumsWrongFalsely : Prop := vmSumsRow.holds Try.pinned (OpenSpec.ofChange vmSumsWrong)

/-- 'casementlaw14.VmWorth': WHATEVER THE INPUT: true; the input reads as it did. -/
def vmWorthSpec : ChangeSpec := { name := "vmWorth", fn := fun _ => fun
  | [d1, d2, d3] => { results := [.lit (.bool true)], args := [d1, d2, d3] }
  | _ => none }
def vmWorthRow : OpenClaim := { program := "ytjbdeccohpbegaa", sum := "03df07e0f49d4f0be6315d0c0f3b68b2a6c428708f9da72303b8cac342129d1e", func := "casement/casementlaw14.VmWorth", spec := "vmWorth", apart := false }
def VmWorthSaid : Prop := vmWorthRow.holds Try.pinned (OpenSpec.ofChange vmWorthSpec)

/-- ITS FALSE NEIGHBOUR: 'it returns false'. Refute it at one input. -/
def vmWorthWrong : ChangeSpec := { name := "vmWorth", fn := fun _ => fun
  | [d1, d2, d3] => { results := [.lit (.bool false)], args := [d1, d2, d3] }
  | _ => none }
def VmWorthWrongFalsely : Prop := vmWorthRow.holds Try.pinned (OpenSpec.ofChange vmWorthWrong)

/-- 'casementlaw14.VmBounds': WHATEVER THE INPUT: true; the input reads as it did. -/
def vmBoundsSpec : ChangeSpec := { name := "vmBounds", fn := fun _ => fun
  | [d1, d2, d3, d4] => { results := [.lit (.bool true)], args := [d1, d2, d3, d4] }
  | _ => none }
def vmBoundsRow : OpenClaim := { program := "ytjbdeccohpbegaa", sum := "03df07e0f49d4f0be6315d0c0f3b68b2a6c428708f9da72303b8cac342129d1e", func := "casement/casementlaw14.VmBounds", spec := "vmBounds", apart := false }
def VmBoundsSaid : Prop := vmBoundsRow.holds Try.pinned (OpenSpec.ofChange vmBoundsSpec)

/-- ITS FALSE NEIGHBOUR: 'it returns false'. Refute it at one input. -/
def vmBoundsWrong : ChangeSpec := { name := "vmBounds", fn := fun _ => fun
  | [d1, d2, d3, d4] => { results := [.lit (.bool false)], args := [d1, d2, d3, d4] }
  | _ => none }
def VmBoundsWrongFalsely : Prop := vmBoundsRow.holds Try.pinned (OpenSpec.ofChange vmBoundsWrong)

/- THE SECOND FORM. 'bulk': how many values and letters a reading holds, each counted each time it is reached (what is shared counts as often as it is met; a slice's spare places count too). A statement '..UptoSaid' is the law's where the arguments, and the package variables that the reading takes, are together of bulk at most 1048576: NARROWER than '..Said'. Prove '..Said' where nothing that the law and all that it calls make is longer than what came in: it says more and counts as full. Else prove '..UptoSaid'. A law counts once. -/
mutual
def uptoBulk {H : Type} : DataW H → Nat
  | .lit (.string bytes) => bytes.length + 1
  | .lit _ => 1
  | .nil => 1
  | .ptr d => uptoBulk d + 1
  | .slice elems spare => uptoBulkAll elems + uptoBulkAll spare + 1
  | .agg parts => uptoBulkAll parts + 1
  | .iface _ d => uptoBulk d + 1
  | .map entries => uptoBulkEntries entries + 1
  | .held _ => 1
def uptoBulkAll {H : Type} : List (DataW H) → Nat
  | [] => 0
  | d :: r => uptoBulk d + uptoBulkAll r
def uptoBulkEntries {H : Type} : List (Lit × DataW H) → Nat
  | [] => 0
  | x :: r => uptoBulkEntry x + uptoBulkEntries r
def uptoBulkEntry {H : Type} : Lit × DataW H → Nat
  | (.string bytes, d) => bytes.length + uptoBulk d + 1
  | (_, d) => uptoBulk d + 1
 end
def uptoSmall : (H : Type) → List (DataW H) → Bool := fun _ ds => decide (uptoBulkAll ds ≤ 1048576)
def OpenSpec.upto (s : _root_.Go.ChangeSpec) : _root_.Go.OpenSpec := { _root_.Go.OpenSpec.ofChange s with cond := some uptoSmall }

/-- 'casementlaw14.VmParts', WHERE WHAT IT READS IS OF BULK AT MOST 1048576: true; the input reads as it did. -/
def vmPartsUptoRow : OpenClaim := { program := "ytjbdeccohpbegaa", sum := "03df07e0f49d4f0be6315d0c0f3b68b2a6c428708f9da72303b8cac342129d1e", func := "casement/casementlaw14.VmParts", spec := "vmParts", apart := false, narrowed := true }
def VmPartsUptoSaid : Prop := vmPartsUptoRow.holds Try.pinned (OpenSpec.upto vmPartsSpec)

/-- 'casementlaw14.VmEnds', WHERE WHAT IT READS IS OF BULK AT MOST 1048576: true; the input reads as it did. -/
def vmEndsUptoRow : OpenClaim := { program := "ytjbdeccohpbegaa", sum := "03df07e0f49d4f0be6315d0c0f3b68b2a6c428708f9da72303b8cac342129d1e", func := "casement/casementlaw14.VmEnds", spec := "vmEnds", apart := false, narrowed := true }
def VmEndsUptoSaid : Prop := vmEndsUptoRow.holds Try.pinned (OpenSpec.upto vmEndsSpec)

/-- 'casementlaw14.VmSums', WHERE WHAT IT READS IS OF BULK AT MOST 1048576: true; the input reads as it did. -/
def vmSumsUptoRow : OpenClaim := { program := "ytjbdeccohpbegaa", sum := "03df07e0f49d4f0be6315d0c0f3b68b2a6c428708f9da72303b8cac342129d1e", func := "casement/casementlaw14.VmSums", spec := "vmSums", apart := false, narrowed := true }
def VmSumsUptoSaid : Prop := vmSumsUptoRow.holds Try.pinned (OpenSpec.upto vmSumsSpec)

/-- 'casementlaw14.VmWorth', WHERE WHAT IT READS IS OF BULK AT MOST 1048576: true; the input reads as it did. -/
def vmWorthUptoRow : OpenClaim := { program := "ytjbdeccohpbegaa", sum := "03df07e0f49d4f0be6315d0c0f3b68b2a6c428708f9da72303b8cac342129d1e", func := "casement/casementlaw14.VmWorth", spec := "vmWorth", apart := false, narrowed := true }
def VmWorthUptoSaid : Prop := vmWorthUptoRow.holds Try.pinned (OpenSpec.upto vmWorthSpec)

/-- 'casementlaw14.VmBounds', WHERE WHAT IT READS IS OF BULK AT MOST 1048576: true; the input reads as it did. -/
def vmBoundsUptoRow : OpenClaim := { program := "ytjbdeccohpbegaa", sum := "03df07e0f49d4f0be6315d0c0f3b68b2a6c428708f9da72303b8cac342129d1e", func := "casement/casementlaw14.VmBounds", spec := "vmBounds", apart := false, narrowed := true }
def VmBoundsUptoSaid : Prop := vmBoundsUptoRow.holds Try.pinned (OpenSpec.upto vmBoundsSpec)

end Rows
end Go.Proofs.Ytjbdeccohpbegaa
