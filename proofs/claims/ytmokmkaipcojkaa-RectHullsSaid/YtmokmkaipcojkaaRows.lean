/-
  No cell of these rows narrows 'for every input' (looked for: loops, veiled, ifaces, maps, wideKeys, modest, calm, conditions, laid).
  DERIVED. THE GIVEN ROWS OF THIS SEAT. 9 by the template 'for every input the law returns true; each argument reads behind the call as it read before'; 0 by the template 'total and deterministic' (their statements: YtmokmkaipcojkaaTotals.lean).
  GIVEN WITH THE SEED: the statements are not yours to turn. If you find one false, say at which input.
  Laid BY PROGRAM, IN A SANDBOX (cutbox-rows.mjs): the forced cells as the released guide's own fill.sh prints them over the translation 93fb1e6dd26233a1… (all of the seat's roots in one cut). By AI agents, Wed Nov 11 2026. No macro, syntax, notation, axiom, sorry.
-/
import Derived.Test.YtmokmkaipcojkaaChecked
import GoSem.Claim
import GoSem.ClaimJoined
import GoSem.ClaimMapViews
import Derived.JoinedTies
import Derived.KernelRfl
namespace Go.Proofs.Ytmokmkaipcojkaa
/- THE CELL 'sum', in the pinned program and in every row, IS THE sha256 OF THE DUMP (.gsa) THAT YtmokmkaipcojkaaProg.lean LOADS. Nothing in Lean hashes anything: it is a label: what it is worth is what the hold of that sum in a sandbox is worth. -/
noncomputable def Try.pinned : Pinned := { name := "ytmokmkaipcojkaa", sum := "93fb1e6dd26233a100c27e0b749d544f1e7e047c3ae22eb362636cb95f6be67c", checked := Try.checked }
namespace Rows
def none {H : Type} : Left H := { results := [], args := [] }

/-- 'casementlaw02.RectCovers': WHATEVER THE INPUT: true; the input reads as it did. -/
def rectCoversSpec : ChangeSpec := { name := "rectCovers", fn := fun _ => fun
  | [d] => { results := [.lit (.bool true)], args := [d] }
  | _ => none }
def rectCoversRow : OpenClaim := { program := "ytmokmkaipcojkaa", sum := "93fb1e6dd26233a100c27e0b749d544f1e7e047c3ae22eb362636cb95f6be67c", func := "casement/casementlaw02.RectCovers", spec := "rectCovers", apart := false }
def RectCoversSaid : Prop := rectCoversRow.holds Try.pinned (OpenSpec.ofChange rectCoversSpec)

/-- ITS FALSE NEIGHBOUR: 'it returns false'. Refute it at one input. -/
def rectCoversWrong : ChangeSpec := { name := "rectCovers", fn := fun _ => fun
  | [d] => { results := [.lit (.bool false)], args := [d] }
  | _ => none }
def RectCoversWrongFalsely : Prop := rectCoversRow.holds Try.pinned (OpenSpec.ofChange rectCoversWrong)

/-- 'casementlaw02.RectSums': WHATEVER THE INPUT: true; the input reads as it did. -/
def rectSumsSpec : ChangeSpec := { name := "rectSums", fn := fun _ => fun
  | [d1, d2, d3] => { results := [.lit (.bool true)], args := [d1, d2, d3] }
  | _ => none }
def rectSumsRow : OpenClaim := { program := "ytmokmkaipcojkaa", sum := "93fb1e6dd26233a100c27e0b749d544f1e7e047c3ae22eb362636cb95f6be67c", func := "casement/casementlaw02.RectSums", spec := "rectSums", apart := false }
def RectSumsSaid : Prop := rectSumsRow.holds Try.pinned (OpenSpec.ofChange rectSumsSpec)

/-- ITS FALSE NEIGHBOUR: 'it returns false'. Refute it at one input. -/
def rectSumsWrong : ChangeSpec := { name := "rectSums", fn := fun _ => fun
  | [d1, d2, d3] => { results := [.lit (.bool false)], args := [d1, d2, d3] }
  | _ => none }
def RectSumsWrongFalsely : Prop := rectSumsRow.holds Try.pinned (OpenSpec.ofChange rectSumsWrong)

/-- 'casementlaw02.RectNumbers': WHATEVER THE INPUT: true; the input reads as it did. -/
def rectNumbersSpec : ChangeSpec := { name := "rectNumbers", fn := fun _ => fun
  | [d1, d2, d3, d4] => { results := [.lit (.bool true)], args := [d1, d2, d3, d4] }
  | _ => none }
def rectNumbersRow : OpenClaim := { program := "ytmokmkaipcojkaa", sum := "93fb1e6dd26233a100c27e0b749d544f1e7e047c3ae22eb362636cb95f6be67c", func := "casement/casementlaw02.RectNumbers", spec := "rectNumbers", apart := false }
def RectNumbersSaid : Prop := rectNumbersRow.holds Try.pinned (OpenSpec.ofChange rectNumbersSpec)

/-- ITS FALSE NEIGHBOUR: 'it returns false'. Refute it at one input. -/
def rectNumbersWrong : ChangeSpec := { name := "rectNumbers", fn := fun _ => fun
  | [d1, d2, d3, d4] => { results := [.lit (.bool false)], args := [d1, d2, d3, d4] }
  | _ => none }
def RectNumbersWrongFalsely : Prop := rectNumbersRow.holds Try.pinned (OpenSpec.ofChange rectNumbersWrong)

/-- 'casementlaw02.RectParts': WHATEVER THE INPUT: true; the input reads as it did. -/
def rectPartsSpec : ChangeSpec := { name := "rectParts", fn := fun _ => fun
  | [d1, d2, d3, d4, d5] => { results := [.lit (.bool true)], args := [d1, d2, d3, d4, d5] }
  | _ => none }
def rectPartsRow : OpenClaim := { program := "ytmokmkaipcojkaa", sum := "93fb1e6dd26233a100c27e0b749d544f1e7e047c3ae22eb362636cb95f6be67c", func := "casement/casementlaw02.RectParts", spec := "rectParts", apart := false }
def RectPartsSaid : Prop := rectPartsRow.holds Try.pinned (OpenSpec.ofChange rectPartsSpec)

/-- ITS FALSE NEIGHBOUR: 'it returns false'. Refute it at one input. -/
def rectPartsWrong : ChangeSpec := { name := "rectParts", fn := fun _ => fun
  | [d1, d2, d3, d4, d5] => { results := [.lit (.bool false)], args := [d1, d2, d3, d4, d5] }
  | _ => none }
def RectPartsWrongFalsely : Prop := rectPartsRow.holds Try.pinned (OpenSpec.ofChange rectPartsWrong)

/-- 'casementlaw02.RectInsets': WHATEVER THE INPUT: true; the input reads as it did. -/
def rectInsetsSpec : ChangeSpec := { name := "rectInsets", fn := fun _ => fun
  | [d1, d2, d3] => { results := [.lit (.bool true)], args := [d1, d2, d3] }
  | _ => none }
def rectInsetsRow : OpenClaim := { program := "ytmokmkaipcojkaa", sum := "93fb1e6dd26233a100c27e0b749d544f1e7e047c3ae22eb362636cb95f6be67c", func := "casement/casementlaw02.RectInsets", spec := "rectInsets", apart := false }
def RectInsetsSaid : Prop := rectInsetsRow.holds Try.pinned (OpenSpec.ofChange rectInsetsSpec)

/-- ITS FALSE NEIGHBOUR: 'it returns false'. Refute it at one input. -/
def rectInsetsWrong : ChangeSpec := { name := "rectInsets", fn := fun _ => fun
  | [d1, d2, d3] => { results := [.lit (.bool false)], args := [d1, d2, d3] }
  | _ => none }
def RectInsetsWrongFalsely : Prop := rectInsetsRow.holds Try.pinned (OpenSpec.ofChange rectInsetsWrong)

/-- 'casementlaw02.RectMoves': WHATEVER THE INPUT: true; the input reads as it did. -/
def rectMovesSpec : ChangeSpec := { name := "rectMoves", fn := fun _ => fun
  | [d1, d2, d3, d4, d5, d6] => { results := [.lit (.bool true)], args := [d1, d2, d3, d4, d5, d6] }
  | _ => none }
def rectMovesRow : OpenClaim := { program := "ytmokmkaipcojkaa", sum := "93fb1e6dd26233a100c27e0b749d544f1e7e047c3ae22eb362636cb95f6be67c", func := "casement/casementlaw02.RectMoves", spec := "rectMoves", apart := false }
def RectMovesSaid : Prop := rectMovesRow.holds Try.pinned (OpenSpec.ofChange rectMovesSpec)

/-- ITS FALSE NEIGHBOUR: 'it returns false'. Refute it at one input. -/
def rectMovesWrong : ChangeSpec := { name := "rectMoves", fn := fun _ => fun
  | [d1, d2, d3, d4, d5, d6] => { results := [.lit (.bool false)], args := [d1, d2, d3, d4, d5, d6] }
  | _ => none }
def RectMovesWrongFalsely : Prop := rectMovesRow.holds Try.pinned (OpenSpec.ofChange rectMovesWrong)

/-- 'casementlaw02.RectInto': WHATEVER THE INPUT: true; the input reads as it did. -/
def rectIntoSpec : ChangeSpec := { name := "rectInto", fn := fun _ => fun
  | [d1, d2, d3, d4] => { results := [.lit (.bool true)], args := [d1, d2, d3, d4] }
  | _ => none }
def rectIntoRow : OpenClaim := { program := "ytmokmkaipcojkaa", sum := "93fb1e6dd26233a100c27e0b749d544f1e7e047c3ae22eb362636cb95f6be67c", func := "casement/casementlaw02.RectInto", spec := "rectInto", apart := false }
def RectIntoSaid : Prop := rectIntoRow.holds Try.pinned (OpenSpec.ofChange rectIntoSpec)

/-- ITS FALSE NEIGHBOUR: 'it returns false'. Refute it at one input. -/
def rectIntoWrong : ChangeSpec := { name := "rectInto", fn := fun _ => fun
  | [d1, d2, d3, d4] => { results := [.lit (.bool false)], args := [d1, d2, d3, d4] }
  | _ => none }
def RectIntoWrongFalsely : Prop := rectIntoRow.holds Try.pinned (OpenSpec.ofChange rectIntoWrong)

/-- 'casementlaw02.RectHulls': WHATEVER THE INPUT: true; the input reads as it did. -/
def rectHullsSpec : ChangeSpec := { name := "rectHulls", fn := fun _ => fun
  | [d1, d2] => { results := [.lit (.bool true)], args := [d1, d2] }
  | _ => none }
def rectHullsRow : OpenClaim := { program := "ytmokmkaipcojkaa", sum := "93fb1e6dd26233a100c27e0b749d544f1e7e047c3ae22eb362636cb95f6be67c", func := "casement/casementlaw02.RectHulls", spec := "rectHulls", apart := false }
def RectHullsSaid : Prop := rectHullsRow.holds Try.pinned (OpenSpec.ofChange rectHullsSpec)

/-- ITS FALSE NEIGHBOUR: 'it returns false'. Refute it at one input. -/
def rectHullsWrong : ChangeSpec := { name := "rectHulls", fn := fun _ => fun
  | [d1, d2] => { results := [.lit (.bool false)], args := [d1, d2] }
  | _ => none }
def RectHullsWrongFalsely : Prop := rectHullsRow.holds Try.pinned (OpenSpec.ofChange rectHullsWrong)

/-- 'casementlaw02.RectCells': WHATEVER THE INPUT: true; the input reads as it did. -/
def rectCellsSpec : ChangeSpec := { name := "rectCells", fn := fun _ => fun
  | [d1, d2, d3, d4] => { results := [.lit (.bool true)], args := [d1, d2, d3, d4] }
  | _ => none }
def rectCellsRow : OpenClaim := { program := "ytmokmkaipcojkaa", sum := "93fb1e6dd26233a100c27e0b749d544f1e7e047c3ae22eb362636cb95f6be67c", func := "casement/casementlaw02.RectCells", spec := "rectCells", apart := false }
def RectCellsSaid : Prop := rectCellsRow.holds Try.pinned (OpenSpec.ofChange rectCellsSpec)

/-- ITS FALSE NEIGHBOUR: 'it returns false'. Refute it at one input. -/
def rectCellsWrong : ChangeSpec := { name := "rectCells", fn := fun _ => fun
  | [d1, d2, d3, d4] => { results := [.lit (.bool false)], args := [d1, d2, d3, d4] }
  | _ => none }
def RectCellsWrongFalsely : Prop := rectCellsRow.holds Try.pinned (OpenSpec.ofChange rectCellsWrong)

/- THE SECOND FORM. 'bulk': how many values and letters a reading holds, each counted each time it is reached (what is shared counts as often as it is met; a slice's spare places count too). A statement '..UptoSaid' is the law's where the arguments, and the package variables that the reading takes, are together of bulk at most 1048576: NARROWER than '..Said'. Prove '..Said' where nothing that the law and all that it calls make is longer than what came in: it says more and counts as full. Else prove '..UptoSaid'. A law counts once. -/
mutual
def uptoBulk {H : Type} : DataW H → Nat
  | .lit (.string bytes) => bytes.length + 1
  | .lit _ => 1
  | .nil => 1
  | .ptr d => uptoBulk d + 1
  | .slice elems spare => uptoBulkAll elems + uptoBulkAll spare + 1
  | .agg parts => uptoBulkAll parts + 1
  | .iface _ d => uptoBulk d + 1
  | .map entries => uptoBulkEntries entries + 1
  | .held _ => 1
def uptoBulkAll {H : Type} : List (DataW H) → Nat
  | [] => 0
  | d :: r => uptoBulk d + uptoBulkAll r
def uptoBulkEntries {H : Type} : List (Lit × DataW H) → Nat
  | [] => 0
  | x :: r => uptoBulkEntry x + uptoBulkEntries r
def uptoBulkEntry {H : Type} : Lit × DataW H → Nat
  | (.string bytes, d) => bytes.length + uptoBulk d + 1
  | (_, d) => uptoBulk d + 1
 end
def uptoSmall : (H : Type) → List (DataW H) → Bool := fun _ ds => decide (uptoBulkAll ds ≤ 1048576)
def OpenSpec.upto (s : _root_.Go.ChangeSpec) : _root_.Go.OpenSpec := { _root_.Go.OpenSpec.ofChange s with cond := some uptoSmall }

/-- 'casementlaw02.RectCovers', WHERE WHAT IT READS IS OF BULK AT MOST 1048576: true; the input reads as it did. -/
def rectCoversUptoRow : OpenClaim := { program := "ytmokmkaipcojkaa", sum := "93fb1e6dd26233a100c27e0b749d544f1e7e047c3ae22eb362636cb95f6be67c", func := "casement/casementlaw02.RectCovers", spec := "rectCovers", apart := false, narrowed := true }
def RectCoversUptoSaid : Prop := rectCoversUptoRow.holds Try.pinned (OpenSpec.upto rectCoversSpec)

/-- 'casementlaw02.RectSums', WHERE WHAT IT READS IS OF BULK AT MOST 1048576: true; the input reads as it did. -/
def rectSumsUptoRow : OpenClaim := { program := "ytmokmkaipcojkaa", sum := "93fb1e6dd26233a100c27e0b749d544f1e7e047c3ae22eb362636cb95f6be67c", func := "casement/casementlaw02.RectSums", spec := "rectSums", apart := false, narrowed := true }
def RectSumsUptoSaid : Prop := rectSumsUptoRow.holds Try.pinned (OpenSpec.upto rectSumsSpec)

/-- 'casementlaw02.RectNumbers', WHERE WHAT IT READS IS OF BULK AT MOST 1048576: true; the input reads as it did. -/
def rectNumbersUptoRow : OpenClaim := { program := "ytmokmkaipcojkaa", sum := "93fb1e6dd26233a100c27e0b749d544f1e7e047c3ae22eb362636cb95f6be67c", func := "casement/casementlaw02.RectNumbers", spec := "rectNumbers", apart := false, narrowed := true }
def RectNumbersUptoSaid : Prop := rectNumbersUptoRow.holds Try.pinned (OpenSpec.upto rectNumbersSpec)

/-- 'casementlaw02.RectParts', WHERE WHAT IT READS IS OF BULK AT MOST 1048576: true; the input reads as it did. -/
def rectPartsUptoRow : OpenClaim := { program := "ytmokmkaipcojkaa", sum := "93fb1e6dd26233a100c27e0b749d544f1e7e047c3ae22eb362636cb95f6be67c", func := "casement/casementlaw02.RectParts", spec := "rectParts", apart := false, narrowed := true }
def RectPartsUptoSaid : Prop := rectPartsUptoRow.holds Try.pinned (OpenSpec.upto rectPartsSpec)

/-- 'casementlaw02.RectInsets', WHERE WHAT IT READS IS OF BULK AT MOST 1048576: true; the input reads as it did. -/
def rectInsetsUptoRow : OpenClaim := { program := "ytmokmkaipcojkaa", sum := "93fb1e6dd26233a100c27e0b749d544f1e7e047c3ae22eb362636cb95f6be67c", func := "casement/casementlaw02.RectInsets", spec := "rectInsets", apart := false, narrowed := true }
def RectInsetsUptoSaid : Prop := rectInsetsUptoRow.holds Try.pinned (OpenSpec.upto rectInsetsSpec)

/-- 'casementlaw02.RectMoves', WHERE WHAT IT READS IS OF BULK AT MOST 1048576: true; the input reads as it did. -/
def rectMovesUptoRow : OpenClaim := { program := "ytmokmkaipcojkaa", sum := "93fb1e6dd26233a100c27e0b749d544f1e7e047c3ae22eb362636cb95f6be67c", func := "casement/casementlaw02.RectMoves", spec := "rectMoves", apart := false, narrowed := true }
def RectMovesUptoSaid : Prop := rectMovesUptoRow.holds Try.pinned (OpenSpec.upto rectMovesSpec)

/-- 'casementlaw02.RectInto', WHERE WHAT IT READS IS OF BULK AT MOST 1048576: true; the input reads as it did. -/
def rectIntoUptoRow : OpenClaim := { program := "ytmokmkaipcojkaa", sum := "93fb1e6dd26233a100c27e0b749d544f1e7e047c3ae22eb362636cb95f6be67c", func := "casement/casementlaw02.RectInto", spec := "rectInto", apart := false, narrowed := true }
def RectIntoUptoSaid : Prop := rectIntoUptoRow.holds Try.pinned (OpenSpec.upto rectIntoSpec)

/-- 'casementlaw02.RectHulls', WHERE WHAT IT READS IS OF BULK AT MOST 1048576: true; the input reads as it did. -/
def rectHullsUptoRow : OpenClaim := { program := "ytmokmkaipcojkaa", sum := "93fb1e6dd26233a100c27e0b749d544f1e7e047c3ae22eb362636cb95f6be67c", func := "casement/casementlaw02.RectHulls", spec := "rectHulls", apart := false, narrowed := true }
def RectHullsUptoSaid : Prop := rectHullsUptoRow.holds Try.pinned (OpenSpec.upto rectHullsSpec)

/-- 'casementlaw02.RectCells', WHERE WHAT IT READS IS OF BULK AT MOST 1048576: true; the input reads as it did. -/
def rectCellsUptoRow : OpenClaim := { program := "ytmokmkaipcojkaa", sum := "93fb1e6dd26233a100c27e0b749d544f1e7e047c3ae22eb362636cb95f6be67c", func := "casement/casementlaw02.RectCells", spec := "rectCells", apart := false, narrowed := true }
def RectCellsUptoSaid : Prop := rectCellsUptoRow.holds Try.pinned (OpenSpec.upto rectCellsSpec)

end Rows
end Go.Proofs.Ytmokmkaipcojkaa
