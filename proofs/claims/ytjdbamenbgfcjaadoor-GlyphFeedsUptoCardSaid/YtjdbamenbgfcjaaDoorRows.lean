/-
  NARROWER THAN 'FOR EVERY INPUT', by the rows' own cells (each row's printed sentence says how): GlyphReads: laid · GlyphFeeds: laid · GlyphParts: laid · GlyphWrites: laid · GlyphWidths: laid · GlyphCuts: laid · GlyphOnes: laid · GlyphSums: laid.
  DERIVED. THE GIVEN ROWS OF THIS SEAT. 8 by the template 'for every input the law returns true; each argument reads behind the call as it read before'; 0 by the template 'total and deterministic' (their statements: YtjdbamenbgfcjaaDoorTotals.lean).
  GIVEN WITH THE SEED: the statements are not yours to turn. If you find one false, say at which input.
  Laid BY PROGRAM, IN A SANDBOX (cutbox-rows.mjs): the forced cells as the released guide's own fill.sh prints them over the translation abe1d997b9a9116c… (all of the seat's roots in one cut). By AI agents, Wed Nov 11 2026. No macro, syntax, notation, axiom, sorry.
-/
import Derived.Test.YtjdbamenbgfcjaaDoorChecked
import GoSem.PinnedTables
import GoSem.Claim
import GoSem.ClaimJoined
import GoSem.ClaimMapViews
import Derived.JoinedTies
import Derived.KernelRfl
namespace Go.Proofs.YtjdbamenbgfcjaaDoor
/- THE CELL 'sum', in the pinned program and in every row, IS THE sha256 OF THE DUMP (.gsa) THAT YtjdbamenbgfcjaaDoorProg.lean LOADS. Nothing in Lean hashes anything: it is a label: what it is worth is what the hold of that sum in a sandbox is worth. -/
noncomputable def Tryd.pinned : Pinned := { name := "ytjdbamenbgfcjaadoor", sum := "abe1d997b9a9116c95f09299a5c646661373b2844bfb8eae5e83741f30190ac0", checked := Tryd.checked }
namespace Rows
def none {H : Type} : Left H := { results := [], args := [] }

/- WHAT THE LISTED PACKAGE-LEVEL VARIABLES READ AS WHEN THE CALL BEGINS. Each datum BY PROGRAM (the guide's laid-datum.mjs) off the statement by which the dump's own 'gosem.cut.vars' lays the variable. In a bare row this is a premise. The card (YtjdbamenbgfcjaaDoorCards.lean) ties it to the program's text. -/
def laid_unicode_utf8_acceptRanges {H : Type} : DataW H := .agg [.agg [.lit (.int .u8 128), .lit (.int .u8 191)], .agg [.lit (.int .u8 160), .lit (.int .u8 191)], .agg [.lit (.int .u8 128), .lit (.int .u8 159)], .agg [.lit (.int .u8 144), .lit (.int .u8 191)], .agg [.lit (.int .u8 128), .lit (.int .u8 143)], .agg [.lit (.int .u8 0), .lit (.int .u8 0)], .agg [.lit (.int .u8 0), .lit (.int .u8 0)], .agg [.lit (.int .u8 0), .lit (.int .u8 0)], .agg [.lit (.int .u8 0), .lit (.int .u8 0)], .agg [.lit (.int .u8 0), .lit (.int .u8 0)], .agg [.lit (.int .u8 0), .lit (.int .u8 0)], .agg [.lit (.int .u8 0), .lit (.int .u8 0)], .agg [.lit (.int .u8 0), .lit (.int .u8 0)], .agg [.lit (.int .u8 0), .lit (.int .u8 0)], .agg [.lit (.int .u8 0), .lit (.int .u8 0)], .agg [.lit (.int .u8 0), .lit (.int .u8 0)]]
/-- One of Go's own tables, pinned by name: the form's constant. -/
def laid_unicode_utf8_first : DataW Unit := Go.Pinned.utf8First

/-- 'casementlaw01.GlyphReads': WHATEVER THE INPUT: true; the input reads as it did. -/
def glyphReadsSpec : ChangeSpec := { name := "glyphReads", fn := fun _ => fun
  | [d] => { results := [.lit (.bool true)], args := [d] }
  | _ => none }
def glyphReadsRow : OpenClaim := { program := "ytjdbamenbgfcjaadoor", sum := "abe1d997b9a9116c95f09299a5c646661373b2844bfb8eae5e83741f30190ac0", func := "casement/casementlaw01.GlyphReads", spec := "glyphReads", unfollowed := true, recurses := true, named := ["unicode/utf8.first", "unicode/utf8.acceptRanges"], apart := false, laid := [("unicode/utf8.acceptRanges", laid_unicode_utf8_acceptRanges), ("unicode/utf8.first", laid_unicode_utf8_first)] }
def GlyphReadsSaid : Prop := glyphReadsRow.holds Tryd.pinned (OpenSpec.ofChange glyphReadsSpec)

/-- ITS FALSE NEIGHBOUR: 'it returns false'. Refute it at one input. -/
def glyphReadsWrong : ChangeSpec := { name := "glyphReads", fn := fun _ => fun
  | [d] => { results := [.lit (.bool false)], args := [d] }
  | _ => none }
def GlyphReadsWrongFalsely : Prop := glyphReadsRow.holds Tryd.pinned (OpenSpec.ofChange glyphReadsWrong)

/-- 'casementlaw01.GlyphFeeds': WHATEVER THE INPUT: true; the input reads as it did. -/
def glyphFeedsSpec : ChangeSpec := { name := "glyphFeeds", fn := fun _ => fun
  | [d] => { results := [.lit (.bool true)], args := [d] }
  | _ => none }
def glyphFeedsRow : OpenClaim := { program := "ytjdbamenbgfcjaadoor", sum := "abe1d997b9a9116c95f09299a5c646661373b2844bfb8eae5e83741f30190ac0", func := "casement/casementlaw01.GlyphFeeds", spec := "glyphFeeds", unfollowed := true, recurses := true, named := ["unicode/utf8.first", "unicode/utf8.acceptRanges"], apart := false, laid := [("unicode/utf8.acceptRanges", laid_unicode_utf8_acceptRanges), ("unicode/utf8.first", laid_unicode_utf8_first)] }
def GlyphFeedsSaid : Prop := glyphFeedsRow.holds Tryd.pinned (OpenSpec.ofChange glyphFeedsSpec)

/-- ITS FALSE NEIGHBOUR: 'it returns false'. Refute it at one input. -/
def glyphFeedsWrong : ChangeSpec := { name := "glyphFeeds", fn := fun _ => fun
  | [d] => { results := [.lit (.bool false)], args := [d] }
  | _ => none }
def GlyphFeedsWrongFalsely : Prop := glyphFeedsRow.holds Tryd.pinned (OpenSpec.ofChange glyphFeedsWrong)

/-- 'casementlaw01.GlyphParts': WHATEVER THE INPUT: true; the input reads as it did. -/
def glyphPartsSpec : ChangeSpec := { name := "glyphParts", fn := fun _ => fun
  | [d1, d2] => { results := [.lit (.bool true)], args := [d1, d2] }
  | _ => none }
def glyphPartsRow : OpenClaim := { program := "ytjdbamenbgfcjaadoor", sum := "abe1d997b9a9116c95f09299a5c646661373b2844bfb8eae5e83741f30190ac0", func := "casement/casementlaw01.GlyphParts", spec := "glyphParts", unfollowed := true, recurses := true, named := ["unicode/utf8.first", "unicode/utf8.acceptRanges"], apart := false, laid := [("unicode/utf8.acceptRanges", laid_unicode_utf8_acceptRanges), ("unicode/utf8.first", laid_unicode_utf8_first)] }
def GlyphPartsSaid : Prop := glyphPartsRow.holds Tryd.pinned (OpenSpec.ofChange glyphPartsSpec)

/-- ITS FALSE NEIGHBOUR: 'it returns false'. Refute it at one input. -/
def glyphPartsWrong : ChangeSpec := { name := "glyphParts", fn := fun _ => fun
  | [d1, d2] => { results := [.lit (.bool false)], args := [d1, d2] }
  | _ => none }
def GlyphPartsWrongFalsely : Prop := glyphPartsRow.holds Tryd.pinned (OpenSpec.ofChange glyphPartsWrong)

/-- 'casementlaw01.GlyphWrites': WHATEVER THE INPUT: true; the input reads as it did. -/
def glyphWritesSpec : ChangeSpec := { name := "glyphWrites", fn := fun _ => fun
  | [d1, d2] => { results := [.lit (.bool true)], args := [d1, d2] }
  | _ => none }
def glyphWritesRow : OpenClaim := { program := "ytjdbamenbgfcjaadoor", sum := "abe1d997b9a9116c95f09299a5c646661373b2844bfb8eae5e83741f30190ac0", func := "casement/casementlaw01.GlyphWrites", spec := "glyphWrites", unfollowed := true, recurses := true, named := ["unicode/utf8.first", "unicode/utf8.acceptRanges"], apart := false, laid := [("unicode/utf8.acceptRanges", laid_unicode_utf8_acceptRanges), ("unicode/utf8.first", laid_unicode_utf8_first)] }
def GlyphWritesSaid : Prop := glyphWritesRow.holds Tryd.pinned (OpenSpec.ofChange glyphWritesSpec)

/-- ITS FALSE NEIGHBOUR: 'it returns false'. Refute it at one input. -/
def glyphWritesWrong : ChangeSpec := { name := "glyphWrites", fn := fun _ => fun
  | [d1, d2] => { results := [.lit (.bool false)], args := [d1, d2] }
  | _ => none }
def GlyphWritesWrongFalsely : Prop := glyphWritesRow.holds Tryd.pinned (OpenSpec.ofChange glyphWritesWrong)

/-- 'casementlaw01.GlyphWidths': WHATEVER THE INPUT: true; the input reads as it did. -/
def glyphWidthsSpec : ChangeSpec := { name := "glyphWidths", fn := fun _ => fun
  | [d1, d2] => { results := [.lit (.bool true)], args := [d1, d2] }
  | _ => none }
def glyphWidthsRow : OpenClaim := { program := "ytjdbamenbgfcjaadoor", sum := "abe1d997b9a9116c95f09299a5c646661373b2844bfb8eae5e83741f30190ac0", func := "casement/casementlaw01.GlyphWidths", spec := "glyphWidths", unfollowed := true, recurses := true, named := ["unicode/utf8.first", "unicode/utf8.acceptRanges"], apart := false, laid := [("unicode/utf8.acceptRanges", laid_unicode_utf8_acceptRanges), ("unicode/utf8.first", laid_unicode_utf8_first)] }
def GlyphWidthsSaid : Prop := glyphWidthsRow.holds Tryd.pinned (OpenSpec.ofChange glyphWidthsSpec)

/-- ITS FALSE NEIGHBOUR: 'it returns false'. Refute it at one input. -/
def glyphWidthsWrong : ChangeSpec := { name := "glyphWidths", fn := fun _ => fun
  | [d1, d2] => { results := [.lit (.bool false)], args := [d1, d2] }
  | _ => none }
def GlyphWidthsWrongFalsely : Prop := glyphWidthsRow.holds Tryd.pinned (OpenSpec.ofChange glyphWidthsWrong)

/-- 'casementlaw01.GlyphCuts': WHATEVER THE INPUT: true; the input reads as it did. -/
def glyphCutsSpec : ChangeSpec := { name := "glyphCuts", fn := fun _ => fun
  | [d1, d2] => { results := [.lit (.bool true)], args := [d1, d2] }
  | _ => none }
def glyphCutsRow : OpenClaim := { program := "ytjdbamenbgfcjaadoor", sum := "abe1d997b9a9116c95f09299a5c646661373b2844bfb8eae5e83741f30190ac0", func := "casement/casementlaw01.GlyphCuts", spec := "glyphCuts", unfollowed := true, recurses := true, named := ["unicode/utf8.first", "unicode/utf8.acceptRanges"], apart := false, laid := [("unicode/utf8.acceptRanges", laid_unicode_utf8_acceptRanges), ("unicode/utf8.first", laid_unicode_utf8_first)] }
def GlyphCutsSaid : Prop := glyphCutsRow.holds Tryd.pinned (OpenSpec.ofChange glyphCutsSpec)

/-- ITS FALSE NEIGHBOUR: 'it returns false'. Refute it at one input. -/
def glyphCutsWrong : ChangeSpec := { name := "glyphCuts", fn := fun _ => fun
  | [d1, d2] => { results := [.lit (.bool false)], args := [d1, d2] }
  | _ => none }
def GlyphCutsWrongFalsely : Prop := glyphCutsRow.holds Tryd.pinned (OpenSpec.ofChange glyphCutsWrong)

/-- 'casementlaw01.GlyphOnes': WHATEVER THE INPUT: true; the input reads as it did. -/
def glyphOnesSpec : ChangeSpec := { name := "glyphOnes", fn := fun _ => fun
  | [d1, d2, d3] => { results := [.lit (.bool true)], args := [d1, d2, d3] }
  | _ => none }
def glyphOnesRow : OpenClaim := { program := "ytjdbamenbgfcjaadoor", sum := "abe1d997b9a9116c95f09299a5c646661373b2844bfb8eae5e83741f30190ac0", func := "casement/casementlaw01.GlyphOnes", spec := "glyphOnes", unfollowed := true, recurses := true, named := ["unicode/utf8.first", "unicode/utf8.acceptRanges"], apart := false, laid := [("unicode/utf8.acceptRanges", laid_unicode_utf8_acceptRanges), ("unicode/utf8.first", laid_unicode_utf8_first)] }
def GlyphOnesSaid : Prop := glyphOnesRow.holds Tryd.pinned (OpenSpec.ofChange glyphOnesSpec)

/-- ITS FALSE NEIGHBOUR: 'it returns false'. Refute it at one input. -/
def glyphOnesWrong : ChangeSpec := { name := "glyphOnes", fn := fun _ => fun
  | [d1, d2, d3] => { results := [.lit (.bool false)], args := [d1, d2, d3] }
  | _ => none }
def GlyphOnesWrongFalsely : Prop := glyphOnesRow.holds Tryd.pinned (OpenSpec.ofChange glyphOnesWrong)

/-- 'casementlaw01.GlyphSums': WHATEVER THE INPUT: true; the input reads as it did. -/
def glyphSumsSpec : ChangeSpec := { name := "glyphSums", fn := fun _ => fun
  | [d1, d2, d3] => { results := [.lit (.bool true)], args := [d1, d2, d3] }
  | _ => none }
def glyphSumsRow : OpenClaim := { program := "ytjdbamenbgfcjaadoor", sum := "abe1d997b9a9116c95f09299a5c646661373b2844bfb8eae5e83741f30190ac0", func := "casement/casementlaw01.GlyphSums", spec := "glyphSums", unfollowed := true, recurses := true, named := ["unicode/utf8.first", "unicode/utf8.acceptRanges"], apart := false, laid := [("unicode/utf8.acceptRanges", laid_unicode_utf8_acceptRanges), ("unicode/utf8.first", laid_unicode_utf8_first)] }
def GlyphSumsSaid : Prop := glyphSumsRow.holds Tryd.pinned (OpenSpec.ofChange glyphSumsSpec)

/-- ITS FALSE NEIGHBOUR: 'it returns false'. Refute it at one input. -/
def glyphSumsWrong : ChangeSpec := { name := "glyphSums", fn := fun _ => fun
  | [d1, d2, d3] => { results := [.lit (.bool false)], args := [d1, d2, d3] }
  | _ => none }
def GlyphSumsWrongFalsely : Prop := glyphSumsRow.holds Tryd.pinned (OpenSpec.ofChange glyphSumsWrong)

/- THE SECOND FORM. 'bulk': how many values and letters a reading holds, each counted each time it is reached (what is shared counts as often as it is met; a slice's spare places count too). A statement '..UptoSaid' is the law's where the arguments, and the package variables that the reading takes, are together of bulk at most 1048576: NARROWER than '..Said'. Prove '..Said' where nothing that the law and all that it calls make is longer than what came in: it says more and counts as full. Else prove '..UptoSaid'. A law counts once. -/
mutual
def uptoBulk {H : Type} : DataW H → Nat
  | .lit (.string bytes) => bytes.length + 1
  | .lit _ => 1
  | .nil => 1
  | .ptr d => uptoBulk d + 1
  | .slice elems spare => uptoBulkAll elems + uptoBulkAll spare + 1
  | .agg parts => uptoBulkAll parts + 1
  | .iface _ d => uptoBulk d + 1
  | .map entries => uptoBulkEntries entries + 1
  | .held _ => 1
def uptoBulkAll {H : Type} : List (DataW H) → Nat
  | [] => 0
  | d :: r => uptoBulk d + uptoBulkAll r
def uptoBulkEntries {H : Type} : List (Lit × DataW H) → Nat
  | [] => 0
  | x :: r => uptoBulkEntry x + uptoBulkEntries r
def uptoBulkEntry {H : Type} : Lit × DataW H → Nat
  | (.string bytes, d) => bytes.length + uptoBulk d + 1
  | (_, d) => uptoBulk d + 1
 end
def uptoSmall : (H : Type) → List (DataW H) → Bool := fun _ ds => decide (uptoBulkAll ds ≤ 1048576)
def OpenSpec.upto (s : _root_.Go.ChangeSpec) : _root_.Go.OpenSpec := { _root_.Go.OpenSpec.ofChange s with cond := some uptoSmall }

/-- 'casementlaw01.GlyphReads', WHERE WHAT IT READS IS OF BULK AT MOST 1048576: true; the input reads as it did. -/
def glyphReadsUptoRow : OpenClaim := { program := "ytjdbamenbgfcjaadoor", sum := "abe1d997b9a9116c95f09299a5c646661373b2844bfb8eae5e83741f30190ac0", func := "casement/casementlaw01.GlyphReads", spec := "glyphReads", unfollowed := true, recurses := true, named := ["unicode/utf8.first", "unicode/utf8.acceptRanges"], apart := false, laid := [("unicode/utf8.acceptRanges", laid_unicode_utf8_acceptRanges), ("unicode/utf8.first", laid_unicode_utf8_first)], narrowed := true }
def GlyphReadsUptoSaid : Prop := glyphReadsUptoRow.holds Tryd.pinned (OpenSpec.upto glyphReadsSpec)

/-- 'casementlaw01.GlyphFeeds', WHERE WHAT IT READS IS OF BULK AT MOST 1048576: true; the input reads as it did. -/
def glyphFeedsUptoRow : OpenClaim := { program := "ytjdbamenbgfcjaadoor", sum := "abe1d997b9a9116c95f09299a5c646661373b2844bfb8eae5e83741f30190ac0", func := "casement/casementlaw01.GlyphFeeds", spec := "glyphFeeds", unfollowed := true, recurses := true, named := ["unicode/utf8.first", "unicode/utf8.acceptRanges"], apart := false, laid := [("unicode/utf8.acceptRanges", laid_unicode_utf8_acceptRanges), ("unicode/utf8.first", laid_unicode_utf8_first)], narrowed := true }
def GlyphFeedsUptoSaid : Prop := glyphFeedsUptoRow.holds Tryd.pinned (OpenSpec.upto glyphFeedsSpec)

/-- 'casementlaw01.GlyphParts', WHERE WHAT IT READS IS OF BULK AT MOST 1048576: true; the input reads as it did. -/
def glyphPartsUptoRow : OpenClaim := { program := "ytjdbamenbgfcjaadoor", sum := "abe1d997b9a9116c95f09299a5c646661373b2844bfb8eae5e83741f30190ac0", func := "casement/casementlaw01.GlyphParts", spec := "glyphParts", unfollowed := true, recurses := true, named := ["unicode/utf8.first", "unicode/utf8.acceptRanges"], apart := false, laid := [("unicode/utf8.acceptRanges", laid_unicode_utf8_acceptRanges), ("unicode/utf8.first", laid_unicode_utf8_first)], narrowed := true }
def GlyphPartsUptoSaid : Prop := glyphPartsUptoRow.holds Tryd.pinned (OpenSpec.upto glyphPartsSpec)

/-- 'casementlaw01.GlyphWrites', WHERE WHAT IT READS IS OF BULK AT MOST 1048576: true; the input reads as it did. -/
def glyphWritesUptoRow : OpenClaim := { program := "ytjdbamenbgfcjaadoor", sum := "abe1d997b9a9116c95f09299a5c646661373b2844bfb8eae5e83741f30190ac0", func := "casement/casementlaw01.GlyphWrites", spec := "glyphWrites", unfollowed := true, recurses := true, named := ["unicode/utf8.first", "unicode/utf8.acceptRanges"], apart := false, laid := [("unicode/utf8.acceptRanges", laid_unicode_utf8_acceptRanges), ("unicode/utf8.first", laid_unicode_utf8_first)], narrowed := true }
def GlyphWritesUptoSaid : Prop := glyphWritesUptoRow.holds Tryd.pinned (OpenSpec.upto glyphWritesSpec)

/-- 'casementlaw01.GlyphWidths', WHERE WHAT IT READS IS OF BULK AT MOST 1048576: true; the input reads as it did. -/
def glyphWidthsUptoRow : OpenClaim := { program := "ytjdbamenbgfcjaadoor", sum := "abe1d997b9a9116c95f09299a5c646661373b2844bfb8eae5e83741f30190ac0", func := "casement/casementlaw01.GlyphWidths", spec := "glyphWidths", unfollowed := true, recurses := true, named := ["unicode/utf8.first", "unicode/utf8.acceptRanges"], apart := false, laid := [("unicode/utf8.acceptRanges", laid_unicode_utf8_acceptRanges), ("unicode/utf8.first", laid_unicode_utf8_first)], narrowed := true }
def GlyphWidthsUptoSaid : Prop := glyphWidthsUptoRow.holds Tryd.pinned (OpenSpec.upto glyphWidthsSpec)

/-- 'casementlaw01.GlyphCuts', WHERE WHAT IT READS IS OF BULK AT MOST 1048576: true; the input reads as it did. -/
def glyphCutsUptoRow : OpenClaim := { program := "ytjdbamenbgfcjaadoor", sum := "abe1d997b9a9116c95f09299a5c646661373b2844bfb8eae5e83741f30190ac0", func := "casement/casementlaw01.GlyphCuts", spec := "glyphCuts", unfollowed := true, recurses := true, named := ["unicode/utf8.first", "unicode/utf8.acceptRanges"], apart := false, laid := [("unicode/utf8.acceptRanges", laid_unicode_utf8_acceptRanges), ("unicode/utf8.first", laid_unicode_utf8_first)], narrowed := true }
def GlyphCutsUptoSaid : Prop := glyphCutsUptoRow.holds Tryd.pinned (OpenSpec.upto glyphCutsSpec)

/-- 'casementlaw01.GlyphOnes', WHERE WHAT IT READS IS OF BULK AT MOST 1048576: true; the input reads as it did. -/
def glyphOnesUptoRow : OpenClaim := { program := "ytjdbamenbgfcjaadoor", sum := "abe1d997b9a9116c95f09299a5c646661373b2844bfb8eae5e83741f30190ac0", func := "casement/casementlaw01.GlyphOnes", spec := "glyphOnes", unfollowed := true, recurses := true, named := ["unicode/utf8.first", "unicode/utf8.acceptRanges"], apart := false, laid := [("unicode/utf8.acceptRanges", laid_unicode_utf8_acceptRanges), ("unicode/utf8.first", laid_unicode_utf8_first)], narrowed := true }
def GlyphOnesUptoSaid : Prop := glyphOnesUptoRow.holds Tryd.pinned (OpenSpec.upto glyphOnesSpec)

/-- 'casementlaw01.GlyphSums', WHERE WHAT IT READS IS OF BULK AT MOST 1048576: true; the input reads as it did. -/
def glyphSumsUptoRow : OpenClaim := { program := "ytjdbamenbgfcjaadoor", sum := "abe1d997b9a9116c95f09299a5c646661373b2844bfb8eae5e83741f30190ac0", func := "casement/casementlaw01.GlyphSums", spec := "glyphSums", unfollowed := true, recurses := true, named := ["unicode/utf8.first", "unicode/utf8.acceptRanges"], apart := false, laid := [("unicode/utf8.acceptRanges", laid_unicode_utf8_acceptRanges), ("unicode/utf8.first", laid_unicode_utf8_first)], narrowed := true }
def GlyphSumsUptoSaid : Prop := glyphSumsUptoRow.holds Tryd.pinned (OpenSpec.upto glyphSumsSpec)

end Rows
end Go.Proofs.YtjdbamenbgfcjaaDoor
