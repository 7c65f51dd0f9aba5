/-
  NARROWER THAN 'FOR EVERY INPUT', by the rows' own cells (each row's printed sentence says how): PaintPlays: laid · PaintRight: laid · PaintOne: laid · PaintOrder: laid.
  DERIVED. THE GIVEN ROWS OF THIS SEAT. 4 by the template 'for every input the law returns true; each argument reads behind the call as it read before'; 0 by the template 'total and deterministic' (their statements: YtaklapcbbdcdpaaDoorTotals.lean).
  GIVEN WITH THE SEED: the statements are not yours to turn. If you find one false, say at which input.
  Laid BY PROGRAM, IN A SANDBOX (cutbox-rows.mjs): the forced cells as the released guide's own fill.sh prints them over the translation 871050c6e61cbefd… (all of the seat's roots in one cut). By AI agents, Wed Nov 11 2026. No macro, syntax, notation, axiom, sorry.
-/
import Derived.Test.YtaklapcbbdcdpaaDoorChecked
import GoSem.PinnedTables
import GoSem.Claim
import GoSem.ClaimJoined
import GoSem.ClaimMapViews
import Derived.JoinedTies
import Derived.KernelRfl
namespace Go.Proofs.YtaklapcbbdcdpaaDoor
/- THE CELL 'sum', in the pinned program and in every row, IS THE sha256 OF THE DUMP (.gsa) THAT YtaklapcbbdcdpaaDoorProg.lean LOADS. Nothing in Lean hashes anything: it is a label: what it is worth is what the hold of that sum in a sandbox is worth. -/
noncomputable def Tryd.pinned : Pinned := { name := "ytaklapcbbdcdpaadoor", sum := "871050c6e61cbefdf9e0bf84747174b90fbb2246e00c5770ff600ac715b91f6c", checked := Tryd.checked }
namespace Rows
def none {H : Type} : Left H := { results := [], args := [] }

/- WHAT THE LISTED PACKAGE-LEVEL VARIABLES READ AS WHEN THE CALL BEGINS. Each datum BY PROGRAM (the guide's laid-datum.mjs) off the statement by which the dump's own 'gosem.cut.vars' lays the variable. In a bare row this is a premise. The card (YtaklapcbbdcdpaaDoorCards.lean) ties it to the program's text. -/
def laid_unicode_utf8_acceptRanges {H : Type} : DataW H := .agg [.agg [.lit (.int .u8 128), .lit (.int .u8 191)], .agg [.lit (.int .u8 160), .lit (.int .u8 191)], .agg [.lit (.int .u8 128), .lit (.int .u8 159)], .agg [.lit (.int .u8 144), .lit (.int .u8 191)], .agg [.lit (.int .u8 128), .lit (.int .u8 143)], .agg [.lit (.int .u8 0), .lit (.int .u8 0)], .agg [.lit (.int .u8 0), .lit (.int .u8 0)], .agg [.lit (.int .u8 0), .lit (.int .u8 0)], .agg [.lit (.int .u8 0), .lit (.int .u8 0)], .agg [.lit (.int .u8 0), .lit (.int .u8 0)], .agg [.lit (.int .u8 0), .lit (.int .u8 0)], .agg [.lit (.int .u8 0), .lit (.int .u8 0)], .agg [.lit (.int .u8 0), .lit (.int .u8 0)], .agg [.lit (.int .u8 0), .lit (.int .u8 0)], .agg [.lit (.int .u8 0), .lit (.int .u8 0)], .agg [.lit (.int .u8 0), .lit (.int .u8 0)]]
/-- One of Go's own tables, pinned by name: the form's constant. -/
def laid_unicode_utf8_first : DataW Unit := Go.Pinned.utf8First

/-- 'casementlaw21.PaintPlays': WHATEVER THE INPUT: true; the input reads as it did. -/
def paintPlaysSpec : ChangeSpec := { name := "paintPlays", fn := fun _ => fun
  | [d1, d2, d3] => { results := [.lit (.bool true)], args := [d1, d2, d3] }
  | _ => none }
def paintPlaysRow : OpenClaim := { program := "ytaklapcbbdcdpaadoor", sum := "871050c6e61cbefdf9e0bf84747174b90fbb2246e00c5770ff600ac715b91f6c", func := "casement/casementlaw21.PaintPlays", spec := "paintPlays", unfollowed := true, recurses := true, named := ["unicode/utf8.first", "unicode/utf8.acceptRanges"], apart := false, laid := [("unicode/utf8.acceptRanges", laid_unicode_utf8_acceptRanges), ("unicode/utf8.first", laid_unicode_utf8_first)] }
def PaintPlaysSaid : Prop := paintPlaysRow.holds Tryd.pinned (OpenSpec.ofChange paintPlaysSpec)

/-- ITS FALSE NEIGHBOUR: 'it returns false'. Refute it at one input. -/
def paintPlaysWrong : ChangeSpec := { name := "paintPlays", fn := fun _ => fun
  | [d1, d2, d3] => { results := [.lit (.bool false)], args := [d1, d2, d3] }
  | _ => none }
def PaintPlaysWrongFalsely : Prop := paintPlaysRow.holds Tryd.pinned (OpenSpec.ofChange paintPlaysWrong)

/-- 'casementlaw21.PaintRight': WHATEVER THE INPUT: true; the input reads as it did. -/
def paintRightSpec : ChangeSpec := { name := "paintRight", fn := fun _ => fun
  | [d1, d2, d3, d4] => { results := [.lit (.bool true)], args := [d1, d2, d3, d4] }
  | _ => none }
def paintRightRow : OpenClaim := { program := "ytaklapcbbdcdpaadoor", sum := "871050c6e61cbefdf9e0bf84747174b90fbb2246e00c5770ff600ac715b91f6c", func := "casement/casementlaw21.PaintRight", spec := "paintRight", unfollowed := true, recurses := true, named := ["unicode/utf8.first", "unicode/utf8.acceptRanges"], apart := false, laid := [("unicode/utf8.acceptRanges", laid_unicode_utf8_acceptRanges), ("unicode/utf8.first", laid_unicode_utf8_first)] }
def PaintRightSaid : Prop := paintRightRow.holds Tryd.pinned (OpenSpec.ofChange paintRightSpec)

/-- ITS FALSE NEIGHBOUR: 'it returns false'. Refute it at one input. -/
def paintRightWrong : ChangeSpec := { name := "paintRight", fn := fun _ => fun
  | [d1, d2, d3, d4] => { results := [.lit (.bool false)], args := [d1, d2, d3, d4] }
  | _ => none }
def PaintRightWrongFalsely : Prop := paintRightRow.holds Tryd.pinned (OpenSpec.ofChange paintRightWrong)

/-- 'casementlaw21.PaintOne': WHATEVER THE INPUT: true; the input reads as it did. -/
def paintOneSpec : ChangeSpec := { name := "paintOne", fn := fun _ => fun
  | [d1, d2, d3, d4] => { results := [.lit (.bool true)], args := [d1, d2, d3, d4] }
  | _ => none }
def paintOneRow : OpenClaim := { program := "ytaklapcbbdcdpaadoor", sum := "871050c6e61cbefdf9e0bf84747174b90fbb2246e00c5770ff600ac715b91f6c", func := "casement/casementlaw21.PaintOne", spec := "paintOne", unfollowed := true, recurses := true, named := ["unicode/utf8.first", "unicode/utf8.acceptRanges"], apart := false, laid := [("unicode/utf8.acceptRanges", laid_unicode_utf8_acceptRanges), ("unicode/utf8.first", laid_unicode_utf8_first)] }
def PaintOneSaid : Prop := paintOneRow.holds Tryd.pinned (OpenSpec.ofChange paintOneSpec)

/-- ITS FALSE NEIGHBOUR: 'it returns false'. Refute it at one input. -/
def paintOneWrong : ChangeSpec := { name := "paintOne", fn := fun _ => fun
  | [d1, d2, d3, d4] => { results := [.lit (.bool false)], args := [d1, d2, d3, d4] }
  | _ => none }
def PaintOneWrongFalsely : Prop := paintOneRow.holds Tryd.pinned (OpenSpec.ofChange paintOneWrong)

/-- 'casementlaw21.PaintOrder': WHATEVER THE INPUT: true; the input reads as it did. -/
def paintOrderSpec : ChangeSpec := { name := "paintOrder", fn := fun _ => fun
  | [d1, d2, d3, d4] => { results := [.lit (.bool true)], args := [d1, d2, d3, d4] }
  | _ => none }
def paintOrderRow : OpenClaim := { program := "ytaklapcbbdcdpaadoor", sum := "871050c6e61cbefdf9e0bf84747174b90fbb2246e00c5770ff600ac715b91f6c", func := "casement/casementlaw21.PaintOrder", spec := "paintOrder", unfollowed := true, recurses := true, named := ["unicode/utf8.first", "unicode/utf8.acceptRanges"], apart := false, laid := [("unicode/utf8.acceptRanges", laid_unicode_utf8_acceptRanges), ("unicode/utf8.first", laid_unicode_utf8_first)] }
def PaintOrderSaid : Prop := paintOrderRow.holds Tryd.pinned (OpenSpec.ofChange paintOrderSpec)

/-- ITS FALSE NEIGHBOUR: 'it returns false'. Refute it at one input. -/
def paintOrderWrong : ChangeSpec := { name := "paintOrder", fn := fun _ => fun
  | [d1, d2, d3, d4] => { results := [.lit (.bool false)], args := [d1, d2, d3, d4] }
  | _ => none }
def PaintOrderWrongFalsely : Prop := paintOrderRow.holds Tryd.pinned (OpenSpec.ofChange paintOrderWrong)

/- THE SECOND FORM. 'bulk': how many values and letters a reading holds, each counted each time it is reached (what is shared counts as often as it is met; a slice's spare places count too). A statement '..UptoSaid' is the law's where the arguments, and the package variables that the reading takes, are together of bulk at most 1048576: NARROWER than '..Said'. Prove '..Said' where nothing that the law and all that it calls make is longer than what came in: it says more and counts as full. Else prove '..UptoSaid'. A law counts once. -/
mutual
def uptoBulk {H : Type} : DataW H → Nat
  | .lit (.string bytes) => bytes.length + 1
  | .lit _ => 1
  | .nil => 1
  | .ptr d => uptoBulk d + 1
  | .slice elems spare => uptoBulkAll elems + uptoBulkAll spare + 1
  | .agg parts => uptoBulkAll parts + 1
  | .iface _ d => uptoBulk d + 1
  | .map entries => uptoBulkEntries entries + 1
  | .held _ => 1
def uptoBulkAll {H : Type} : List (DataW H) → Nat
  | [] => 0
  | d :: r => uptoBulk d + uptoBulkAll r
def uptoBulkEntries {H : Type} : List (Lit × DataW H) → Nat
  | [] => 0
  | x :: r => uptoBulkEntry x + uptoBulkEntries r
def uptoBulkEntry {H : Type} : Lit × DataW H → Nat
  | (.string bytes, d) => bytes.length + uptoBulk d + 1
  | (_, d) => uptoBulk d + 1
 end
def uptoSmall : (H : Type) → List (DataW H) → Bool := fun _ ds => decide (uptoBulkAll ds ≤ 1048576)
def OpenSpec.upto (s : _root_.Go.ChangeSpec) : _root_.Go.OpenSpec := { _root_.Go.OpenSpec.ofChange s with cond := some uptoSmall }

/-- 'casementlaw21.PaintPlays', WHERE WHAT IT READS IS OF BULK AT MOST 1048576: true; the input reads as it did. -/
def paintPlaysUptoRow : OpenClaim := { program := "ytaklapcbbdcdpaadoor", sum := "871050c6e61cbefdf9e0bf84747174b90fbb2246e00c5770ff600ac715b91f6c", func := "casement/casementlaw21.PaintPlays", spec := "paintPlays", unfollowed := true, recurses := true, named := ["unicode/utf8.first", "unicode/utf8.acceptRanges"], apart := false, laid := [("unicode/utf8.acceptRanges", laid_unicode_utf8_acceptRanges), ("unicode/utf8.first", laid_unicode_utf8_first)], narrowed := true }
def PaintPlaysUptoSaid : Prop := paintPlaysUptoRow.holds Tryd.pinned (OpenSpec.upto paintPlaysSpec)

/-- 'casementlaw21.PaintRight', WHERE WHAT IT READS IS OF BULK AT MOST 1048576: true; the input reads as it did. -/
def paintRightUptoRow : OpenClaim := { program := "ytaklapcbbdcdpaadoor", sum := "871050c6e61cbefdf9e0bf84747174b90fbb2246e00c5770ff600ac715b91f6c", func := "casement/casementlaw21.PaintRight", spec := "paintRight", unfollowed := true, recurses := true, named := ["unicode/utf8.first", "unicode/utf8.acceptRanges"], apart := false, laid := [("unicode/utf8.acceptRanges", laid_unicode_utf8_acceptRanges), ("unicode/utf8.first", laid_unicode_utf8_first)], narrowed := true }
def PaintRightUptoSaid : Prop := paintRightUptoRow.holds Tryd.pinned (OpenSpec.upto paintRightSpec)

/-- 'casementlaw21.PaintOne', WHERE WHAT IT READS IS OF BULK AT MOST 1048576: true; the input reads as it did. -/
def paintOneUptoRow : OpenClaim := { program := "ytaklapcbbdcdpaadoor", sum := "871050c6e61cbefdf9e0bf84747174b90fbb2246e00c5770ff600ac715b91f6c", func := "casement/casementlaw21.PaintOne", spec := "paintOne", unfollowed := true, recurses := true, named := ["unicode/utf8.first", "unicode/utf8.acceptRanges"], apart := false, laid := [("unicode/utf8.acceptRanges", laid_unicode_utf8_acceptRanges), ("unicode/utf8.first", laid_unicode_utf8_first)], narrowed := true }
def PaintOneUptoSaid : Prop := paintOneUptoRow.holds Tryd.pinned (OpenSpec.upto paintOneSpec)

/-- 'casementlaw21.PaintOrder', WHERE WHAT IT READS IS OF BULK AT MOST 1048576: true; the input reads as it did. -/
def paintOrderUptoRow : OpenClaim := { program := "ytaklapcbbdcdpaadoor", sum := "871050c6e61cbefdf9e0bf84747174b90fbb2246e00c5770ff600ac715b91f6c", func := "casement/casementlaw21.PaintOrder", spec := "paintOrder", unfollowed := true, recurses := true, named := ["unicode/utf8.first", "unicode/utf8.acceptRanges"], apart := false, laid := [("unicode/utf8.acceptRanges", laid_unicode_utf8_acceptRanges), ("unicode/utf8.first", laid_unicode_utf8_first)], narrowed := true }
def PaintOrderUptoSaid : Prop := paintOrderUptoRow.holds Tryd.pinned (OpenSpec.upto paintOrderSpec)

end Rows
end Go.Proofs.YtaklapcbbdcdpaaDoor
