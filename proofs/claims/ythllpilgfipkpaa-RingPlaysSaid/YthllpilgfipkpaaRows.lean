/-
  No cell of these rows narrows 'for every input' (looked for: loops, veiled, ifaces, maps, wideKeys, modest, calm, conditions, laid).
  DERIVED. THE GIVEN ROWS OF THIS SEAT. 9 by the template 'for every input the law returns true; each argument reads behind the call as it read before'; 0 by the template 'total and deterministic' (their statements: YthllpilgfipkpaaTotals.lean).
  GIVEN WITH THE SEED: the statements are not yours to turn. If you find one false, say at which input.
  Laid BY PROGRAM, IN A SANDBOX (cutbox-rows.mjs): the forced cells as the released guide's own fill.sh prints them over the translation 2f07f1239208b64d… (all of the seat's roots in one cut). By AI agents, Wed Nov 11 2026. No macro, syntax, notation, axiom, sorry.
-/
import Derived.Test.YthllpilgfipkpaaChecked
import GoSem.Claim
import GoSem.ClaimJoined
import GoSem.ClaimMapViews
import Derived.JoinedTies
import Derived.KernelRfl
namespace Go.Proofs.Ythllpilgfipkpaa
/- THE CELL 'sum', in the pinned program and in every row, IS THE sha256 OF THE DUMP (.gsa) THAT YthllpilgfipkpaaProg.lean LOADS. Nothing in Lean hashes anything: it is a label: what it is worth is what the hold of that sum in a sandbox is worth. -/
noncomputable def Try.pinned : Pinned := { name := "ythllpilgfipkpaa", sum := "2f07f1239208b64d74001fc109bf2f43602f81c67be86e6a97c6648539237418", checked := Try.checked }
namespace Rows
def none {H : Type} : Left H := { results := [], args := [] }

/-- 'casementlaw03.RingLast': WHATEVER THE INPUT: true; the input reads as it did. -/
def ringLastSpec : ChangeSpec := { name := "ringLast", fn := fun _ => fun
  | [d1, d2] => { results := [.lit (.bool true)], args := [d1, d2] }
  | _ => none }
def ringLastRow : OpenClaim := { program := "ythllpilgfipkpaa", sum := "2f07f1239208b64d74001fc109bf2f43602f81c67be86e6a97c6648539237418", func := "casement/casementlaw03.RingLast", spec := "ringLast", apart := false }
def RingLastSaid : Prop := ringLastRow.holds Try.pinned (OpenSpec.ofChange ringLastSpec)

/-- ITS FALSE NEIGHBOUR: 'it returns false'. Refute it at one input. -/
def ringLastWrong : ChangeSpec := { name := "ringLast", fn := fun _ => fun
  | [d1, d2] => { results := [.lit (.bool false)], args := [d1, d2] }
  | _ => none }
def RingLastWrongFalsely : Prop := ringLastRow.holds Try.pinned (OpenSpec.ofChange ringLastWrong)

/-- 'casementlaw03.RingStack': WHATEVER THE INPUT: true; the input reads as it did. -/
def ringStackSpec : ChangeSpec := { name := "ringStack", fn := fun _ => fun
  | [d1, d2] => { results := [.lit (.bool true)], args := [d1, d2] }
  | _ => none }
def ringStackRow : OpenClaim := { program := "ythllpilgfipkpaa", sum := "2f07f1239208b64d74001fc109bf2f43602f81c67be86e6a97c6648539237418", func := "casement/casementlaw03.RingStack", spec := "ringStack", apart := false }
def RingStackSaid : Prop := ringStackRow.holds Try.pinned (OpenSpec.ofChange ringStackSpec)

/-- ITS FALSE NEIGHBOUR: 'it returns false'. Refute it at one input. -/
def ringStackWrong : ChangeSpec := { name := "ringStack", fn := fun _ => fun
  | [d1, d2] => { results := [.lit (.bool false)], args := [d1, d2] }
  | _ => none }
def RingStackWrongFalsely : Prop := ringStackRow.holds Try.pinned (OpenSpec.ofChange ringStackWrong)

/-- 'casementlaw03.RingPlaces': WHATEVER THE INPUT: true; the input reads as it did. -/
def ringPlacesSpec : ChangeSpec := { name := "ringPlaces", fn := fun _ => fun
  | [d1, d2, d3] => { results := [.lit (.bool true)], args := [d1, d2, d3] }
  | _ => none }
def ringPlacesRow : OpenClaim := { program := "ythllpilgfipkpaa", sum := "2f07f1239208b64d74001fc109bf2f43602f81c67be86e6a97c6648539237418", func := "casement/casementlaw03.RingPlaces", spec := "ringPlaces", apart := false }
def RingPlacesSaid : Prop := ringPlacesRow.holds Try.pinned (OpenSpec.ofChange ringPlacesSpec)

/-- ITS FALSE NEIGHBOUR: 'it returns false'. Refute it at one input. -/
def ringPlacesWrong : ChangeSpec := { name := "ringPlaces", fn := fun _ => fun
  | [d1, d2, d3] => { results := [.lit (.bool false)], args := [d1, d2, d3] }
  | _ => none }
def RingPlacesWrongFalsely : Prop := ringPlacesRow.holds Try.pinned (OpenSpec.ofChange ringPlacesWrong)

/-- 'casementlaw03.RingPlays': WHATEVER THE INPUT: true; the input reads as it did. -/
def ringPlaysSpec : ChangeSpec := { name := "ringPlays", fn := fun _ => fun
  | [d1, d2] => { results := [.lit (.bool true)], args := [d1, d2] }
  | _ => none }
def ringPlaysRow : OpenClaim := { program := "ythllpilgfipkpaa", sum := "2f07f1239208b64d74001fc109bf2f43602f81c67be86e6a97c6648539237418", func := "casement/casementlaw03.RingPlays", spec := "ringPlays", apart := false }
def RingPlaysSaid : Prop := ringPlaysRow.holds Try.pinned (OpenSpec.ofChange ringPlaysSpec)

/-- ITS FALSE NEIGHBOUR: 'it returns false'. Refute it at one input. -/
def ringPlaysWrong : ChangeSpec := { name := "ringPlays", fn := fun _ => fun
  | [d1, d2] => { results := [.lit (.bool false)], args := [d1, d2] }
  | _ => none }
def RingPlaysWrongFalsely : Prop := ringPlaysRow.holds Try.pinned (OpenSpec.ofChange ringPlaysWrong)

/-- 'casementlaw03.RingShrinks': WHATEVER THE INPUT: true; the input reads as it did. -/
def ringShrinksSpec : ChangeSpec := { name := "ringShrinks", fn := fun _ => fun
  | [d1, d2, d3] => { results := [.lit (.bool true)], args := [d1, d2, d3] }
  | _ => none }
def ringShrinksRow : OpenClaim := { program := "ythllpilgfipkpaa", sum := "2f07f1239208b64d74001fc109bf2f43602f81c67be86e6a97c6648539237418", func := "casement/casementlaw03.RingShrinks", spec := "ringShrinks", apart := false }
def RingShrinksSaid : Prop := ringShrinksRow.holds Try.pinned (OpenSpec.ofChange ringShrinksSpec)

/-- ITS FALSE NEIGHBOUR: 'it returns false'. Refute it at one input. -/
def ringShrinksWrong : ChangeSpec := { name := "ringShrinks", fn := fun _ => fun
  | [d1, d2, d3] => { results := [.lit (.bool false)], args := [d1, d2, d3] }
  | _ => none }
def RingShrinksWrongFalsely : Prop := ringShrinksRow.holds Try.pinned (OpenSpec.ofChange ringShrinksWrong)

/-- 'casementlaw09.SolvePlays': WHATEVER THE INPUT: true; the input reads as it did. -/
def solvePlaysSpec : ChangeSpec := { name := "solvePlays", fn := fun _ => fun
  | [d1, d2] => { results := [.lit (.bool true)], args := [d1, d2] }
  | _ => none }
def solvePlaysRow : OpenClaim := { program := "ythllpilgfipkpaa", sum := "2f07f1239208b64d74001fc109bf2f43602f81c67be86e6a97c6648539237418", func := "casement/casementlaw09.SolvePlays", spec := "solvePlays", unfollowed := true, recurses := true, apart := false }
def SolvePlaysSaid : Prop := solvePlaysRow.holds Try.pinned (OpenSpec.ofChange solvePlaysSpec)

/-- ITS FALSE NEIGHBOUR: 'it returns false'. Refute it at one input. -/
def solvePlaysWrong : ChangeSpec := { name := "solvePlays", fn := fun _ => fun
  | [d1, d2] => { results := [.lit (.bool false)], args := [d1, d2] }
  | _ => none }
def SolvePlaysWrongFalsely : Prop := solvePlaysRow.holds Try.pinned (OpenSpec.ofChange solvePlaysWrong)

/-- 'casementlaw09.SolveFills': WHATEVER THE INPUT: true; the input reads as it did. -/
def solveFillsSpec : ChangeSpec := { name := "solveFills", fn := fun _ => fun
  | [d1, d2] => { results := [.lit (.bool true)], args := [d1, d2] }
  | _ => none }
def solveFillsRow : OpenClaim := { program := "ythllpilgfipkpaa", sum := "2f07f1239208b64d74001fc109bf2f43602f81c67be86e6a97c6648539237418", func := "casement/casementlaw09.SolveFills", spec := "solveFills", unfollowed := true, recurses := true, apart := false }
def SolveFillsSaid : Prop := solveFillsRow.holds Try.pinned (OpenSpec.ofChange solveFillsSpec)

/-- ITS FALSE NEIGHBOUR: 'it returns false'. Refute it at one input. -/
def solveFillsWrong : ChangeSpec := { name := "solveFills", fn := fun _ => fun
  | [d1, d2] => { results := [.lit (.bool false)], args := [d1, d2] }
  | _ => none }
def SolveFillsWrongFalsely : Prop := solveFillsRow.holds Try.pinned (OpenSpec.ofChange solveFillsWrong)

/-- 'casementlaw09.SolveKeeps': WHATEVER THE INPUT: true; the input reads as it did. -/
def solveKeepsSpec : ChangeSpec := { name := "solveKeeps", fn := fun _ => fun
  | [d1, d2] => { results := [.lit (.bool true)], args := [d1, d2] }
  | _ => none }
def solveKeepsRow : OpenClaim := { program := "ythllpilgfipkpaa", sum := "2f07f1239208b64d74001fc109bf2f43602f81c67be86e6a97c6648539237418", func := "casement/casementlaw09.SolveKeeps", spec := "solveKeeps", unfollowed := true, recurses := true, apart := false }
def SolveKeepsSaid : Prop := solveKeepsRow.holds Try.pinned (OpenSpec.ofChange solveKeepsSpec)

/-- ITS FALSE NEIGHBOUR: 'it returns false'. Refute it at one input. -/
def solveKeepsWrong : ChangeSpec := { name := "solveKeeps", fn := fun _ => fun
  | [d1, d2] => { results := [.lit (.bool false)], args := [d1, d2] }
  | _ => none }
def SolveKeepsWrongFalsely : Prop := solveKeepsRow.holds Try.pinned (OpenSpec.ofChange solveKeepsWrong)

/-- 'casementlaw09.SolveAlike': WHATEVER THE INPUT: true; the input reads as it did. -/
def solveAlikeSpec : ChangeSpec := { name := "solveAlike", fn := fun _ => fun
  | [d1, d2, d3] => { results := [.lit (.bool true)], args := [d1, d2, d3] }
  | _ => none }
def solveAlikeRow : OpenClaim := { program := "ythllpilgfipkpaa", sum := "2f07f1239208b64d74001fc109bf2f43602f81c67be86e6a97c6648539237418", func := "casement/casementlaw09.SolveAlike", spec := "solveAlike", unfollowed := true, recurses := true, apart := false }
def SolveAlikeSaid : Prop := solveAlikeRow.holds Try.pinned (OpenSpec.ofChange solveAlikeSpec)

/-- ITS FALSE NEIGHBOUR: 'it returns false'. Refute it at one input. -/
def solveAlikeWrong : ChangeSpec := { name := "solveAlike", fn := fun _ => fun
  | [d1, d2, d3] => { results := [.lit (.bool false)], args := [d1, d2, d3] }
  | _ => none }
def SolveAlikeWrongFalsely : Prop := solveAlikeRow.holds Try.pinned (OpenSpec.ofChange solveAlikeWrong)

/- THE SECOND FORM. 'bulk': how many values and letters a reading holds, each counted each time it is reached (what is shared counts as often as it is met; a slice's spare places count too). A statement '..UptoSaid' is the law's where the arguments, and the package variables that the reading takes, are together of bulk at most 1048576: NARROWER than '..Said'. Prove '..Said' where nothing that the law and all that it calls make is longer than what came in: it says more and counts as full. Else prove '..UptoSaid'. A law counts once. -/
mutual
def uptoBulk {H : Type} : DataW H → Nat
  | .lit (.string bytes) => bytes.length + 1
  | .lit _ => 1
  | .nil => 1
  | .ptr d => uptoBulk d + 1
  | .slice elems spare => uptoBulkAll elems + uptoBulkAll spare + 1
  | .agg parts => uptoBulkAll parts + 1
  | .iface _ d => uptoBulk d + 1
  | .map entries => uptoBulkEntries entries + 1
  | .held _ => 1
def uptoBulkAll {H : Type} : List (DataW H) → Nat
  | [] => 0
  | d :: r => uptoBulk d + uptoBulkAll r
def uptoBulkEntries {H : Type} : List (Lit × DataW H) → Nat
  | [] => 0
  | x :: r => uptoBulkEntry x + uptoBulkEntries r
def uptoBulkEntry {H : Type} : Lit × DataW H → Nat
  | (.string bytes, d) => bytes.length + uptoBulk d + 1
  | (_, d) => uptoBulk d + 1
 end
def uptoSmall : (H : Type) → List (DataW H) → Bool := fun _ ds => decide (uptoBulkAll ds ≤ 1048576)
def OpenSpec.upto (s : _root_.Go.ChangeSpec) : _root_.Go.OpenSpec := { _root_.Go.OpenSpec.ofChange s with cond := some uptoSmall }

/-- 'casementlaw03.RingLast', WHERE WHAT IT READS IS OF BULK AT MOST 1048576: true; the input reads as it did. -/
def ringLastUptoRow : OpenClaim := { program := "ythllpilgfipkpaa", sum := "2f07f1239208b64d74001fc109bf2f43602f81c67be86e6a97c6648539237418", func := "casement/casementlaw03.RingLast", spec := "ringLast", apart := false, narrowed := true }
def RingLastUptoSaid : Prop := ringLastUptoRow.holds Try.pinned (OpenSpec.upto ringLastSpec)

/-- 'casementlaw03.RingStack', WHERE WHAT IT READS IS OF BULK AT MOST 1048576: true; the input reads as it did. -/
def ringStackUptoRow : OpenClaim := { program := "ythllpilgfipkpaa", sum := "2f07f1239208b64d74001fc109bf2f43602f81c67be86e6a97c6648539237418", func := "casement/casementlaw03.RingStack", spec := "ringStack", apart := false, narrowed := true }
def RingStackUptoSaid : Prop := ringStackUptoRow.holds Try.pinned (OpenSpec.upto ringStackSpec)

/-- 'casementlaw03.RingPlaces', WHERE WHAT IT READS IS OF BULK AT MOST 1048576: true; the input reads as it did. -/
def ringPlacesUptoRow : OpenClaim := { program := "ythllpilgfipkpaa", sum := "2f07f1239208b64d74001fc109bf2f43602f81c67be86e6a97c6648539237418", func := "casement/casementlaw03.RingPlaces", spec := "ringPlaces", apart := false, narrowed := true }
def RingPlacesUptoSaid : Prop := ringPlacesUptoRow.holds Try.pinned (OpenSpec.upto ringPlacesSpec)

/-- 'casementlaw03.RingPlays', WHERE WHAT IT READS IS OF BULK AT MOST 1048576: true; the input reads as it did. -/
def ringPlaysUptoRow : OpenClaim := { program := "ythllpilgfipkpaa", sum := "2f07f1239208b64d74001fc109bf2f43602f81c67be86e6a97c6648539237418", func := "casement/casementlaw03.RingPlays", spec := "ringPlays", apart := false, narrowed := true }
def RingPlaysUptoSaid : Prop := ringPlaysUptoRow.holds Try.pinned (OpenSpec.upto ringPlaysSpec)

/-- 'casementlaw03.RingShrinks', WHERE WHAT IT READS IS OF BULK AT MOST 1048576: true; the input reads as it did. -/
def ringShrinksUptoRow : OpenClaim := { program := "ythllpilgfipkpaa", sum := "2f07f1239208b64d74001fc109bf2f43602f81c67be86e6a97c6648539237418", func := "casement/casementlaw03.RingShrinks", spec := "ringShrinks", apart := false, narrowed := true }
def RingShrinksUptoSaid : Prop := ringShrinksUptoRow.holds Try.pinned (OpenSpec.upto ringShrinksSpec)

/-- 'casementlaw09.SolvePlays', WHERE WHAT IT READS IS OF BULK AT MOST 1048576: true; the input reads as it did. -/
def solvePlaysUptoRow : OpenClaim := { program := "ythllpilgfipkpaa", sum := "2f07f1239208b64d74001fc109bf2f43602f81c67be86e6a97c6648539237418", func := "casement/casementlaw09.SolvePlays", spec := "solvePlays", unfollowed := true, recurses := true, apart := false, narrowed := true }
def SolvePlaysUptoSaid : Prop := solvePlaysUptoRow.holds Try.pinned (OpenSpec.upto solvePlaysSpec)

/-- 'casementlaw09.SolveFills', WHERE WHAT IT READS IS OF BULK AT MOST 1048576: true; the input reads as it did. -/
def solveFillsUptoRow : OpenClaim := { program := "ythllpilgfipkpaa", sum := "2f07f1239208b64d74001fc109bf2f43602f81c67be86e6a97c6648539237418", func := "casement/casementlaw09.SolveFills", spec := "solveFills", unfollowed := true, recurses := true, apart := false, narrowed := true }
def SolveFillsUptoSaid : Prop := solveFillsUptoRow.holds Try.pinned (OpenSpec.upto solveFillsSpec)

/-- 'casementlaw09.SolveKeeps', WHERE WHAT IT READS IS OF BULK AT MOST 1048576: true; the input reads as it did. -/
def solveKeepsUptoRow : OpenClaim := { program := "ythllpilgfipkpaa", sum := "2f07f1239208b64d74001fc109bf2f43602f81c67be86e6a97c6648539237418", func := "casement/casementlaw09.SolveKeeps", spec := "solveKeeps", unfollowed := true, recurses := true, apart := false, narrowed := true }
def SolveKeepsUptoSaid : Prop := solveKeepsUptoRow.holds Try.pinned (OpenSpec.upto solveKeepsSpec)

/-- 'casementlaw09.SolveAlike', WHERE WHAT IT READS IS OF BULK AT MOST 1048576: true; the input reads as it did. -/
def solveAlikeUptoRow : OpenClaim := { program := "ythllpilgfipkpaa", sum := "2f07f1239208b64d74001fc109bf2f43602f81c67be86e6a97c6648539237418", func := "casement/casementlaw09.SolveAlike", spec := "solveAlike", unfollowed := true, recurses := true, apart := false, narrowed := true }
def SolveAlikeUptoSaid : Prop := solveAlikeUptoRow.holds Try.pinned (OpenSpec.upto solveAlikeSpec)

end Rows
end Go.Proofs.Ythllpilgfipkpaa
