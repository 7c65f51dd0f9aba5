/-
  DERIVED. GIVEN WITH THE SEED: THE CARDS: each row of YtjdbamenbgfcjaaDoorRows.lean that lists a variable, with what it lists TIED to the program's text (the seventh form; the later family's looks); each row that meets fmt, with fmt's text TOLD by the authors' own Lean function (tested against real Go, not proved from fmt's source: count such statements apart). THE CARD IS WHAT COUNTS. Prove the row's statement (the work); the ties are given (YtjdbamenbgfcjaaDoorTie.lean); close each card by the builder's one call (the guide's Derived/Test/ToyasCard.lean, 'card_holds'). Laid BY PROGRAM, IN A SANDBOX (cutbox-door.mjs). By AI agents, Wed Nov 11 2026. No macro, syntax, notation, axiom, sorry.
-/
import Derived.Test.YtjdbamenbgfcjaaDoorRows
import GoSem.ClaimSeven
namespace Go.Proofs.YtjdbamenbgfcjaaDoor
namespace Rows

/-- THE TIED CARD OF 'casementlaw01.GlyphReads'. -/
def glyphReadsCard : Claim7 := { stood := { row := glyphReadsRow, standIns := [], harness := (true, "c663ad1dbb7fcb6d8549de8fd25bc5749e2537baf33f66ddaa4aecd19ab3dbc2"), looks := false }, kinds := [], alts := [], laidByText := true, laidKinds := [.data, .pinned], laidTests := true, laidLooks := .later }
def GlyphReadsCardSaid : Prop := Claim7.holds Tryd.pinned (.plain (OpenSpec.ofChange glyphReadsSpec)) glyphReadsCard

/-- THE TIED CARD OF 'casementlaw01.GlyphFeeds'. -/
def glyphFeedsCard : Claim7 := { stood := { row := glyphFeedsRow, standIns := [], harness := (true, "c663ad1dbb7fcb6d8549de8fd25bc5749e2537baf33f66ddaa4aecd19ab3dbc2"), looks := false }, kinds := [], alts := [], laidByText := true, laidKinds := [.data, .pinned], laidTests := true, laidLooks := .later }
def GlyphFeedsCardSaid : Prop := Claim7.holds Tryd.pinned (.plain (OpenSpec.ofChange glyphFeedsSpec)) glyphFeedsCard

/-- THE TIED CARD OF 'casementlaw01.GlyphParts'. -/
def glyphPartsCard : Claim7 := { stood := { row := glyphPartsRow, standIns := [], harness := (true, "c663ad1dbb7fcb6d8549de8fd25bc5749e2537baf33f66ddaa4aecd19ab3dbc2"), looks := false }, kinds := [], alts := [], laidByText := true, laidKinds := [.data, .pinned], laidTests := true, laidLooks := .later }
def GlyphPartsCardSaid : Prop := Claim7.holds Tryd.pinned (.plain (OpenSpec.ofChange glyphPartsSpec)) glyphPartsCard

/-- THE TIED CARD OF 'casementlaw01.GlyphWrites'. -/
def glyphWritesCard : Claim7 := { stood := { row := glyphWritesRow, standIns := [], harness := (true, "c663ad1dbb7fcb6d8549de8fd25bc5749e2537baf33f66ddaa4aecd19ab3dbc2"), looks := false }, kinds := [], alts := [], laidByText := true, laidKinds := [.data, .pinned], laidTests := true, laidLooks := .later }
def GlyphWritesCardSaid : Prop := Claim7.holds Tryd.pinned (.plain (OpenSpec.ofChange glyphWritesSpec)) glyphWritesCard

/-- THE TIED CARD OF 'casementlaw01.GlyphWidths'. -/
def glyphWidthsCard : Claim7 := { stood := { row := glyphWidthsRow, standIns := [], harness := (true, "c663ad1dbb7fcb6d8549de8fd25bc5749e2537baf33f66ddaa4aecd19ab3dbc2"), looks := false }, kinds := [], alts := [], laidByText := true, laidKinds := [.data, .pinned], laidTests := true, laidLooks := .later }
def GlyphWidthsCardSaid : Prop := Claim7.holds Tryd.pinned (.plain (OpenSpec.ofChange glyphWidthsSpec)) glyphWidthsCard

/-- THE TIED CARD OF 'casementlaw01.GlyphCuts'. -/
def glyphCutsCard : Claim7 := { stood := { row := glyphCutsRow, standIns := [], harness := (true, "c663ad1dbb7fcb6d8549de8fd25bc5749e2537baf33f66ddaa4aecd19ab3dbc2"), looks := false }, kinds := [], alts := [], laidByText := true, laidKinds := [.data, .pinned], laidTests := true, laidLooks := .later }
def GlyphCutsCardSaid : Prop := Claim7.holds Tryd.pinned (.plain (OpenSpec.ofChange glyphCutsSpec)) glyphCutsCard

/-- THE TIED CARD OF 'casementlaw01.GlyphOnes'. -/
def glyphOnesCard : Claim7 := { stood := { row := glyphOnesRow, standIns := [], harness := (true, "c663ad1dbb7fcb6d8549de8fd25bc5749e2537baf33f66ddaa4aecd19ab3dbc2"), looks := false }, kinds := [], alts := [], laidByText := true, laidKinds := [.data, .pinned], laidTests := true, laidLooks := .later }
def GlyphOnesCardSaid : Prop := Claim7.holds Tryd.pinned (.plain (OpenSpec.ofChange glyphOnesSpec)) glyphOnesCard

/-- THE TIED CARD OF 'casementlaw01.GlyphSums'. -/
def glyphSumsCard : Claim7 := { stood := { row := glyphSumsRow, standIns := [], harness := (true, "c663ad1dbb7fcb6d8549de8fd25bc5749e2537baf33f66ddaa4aecd19ab3dbc2"), looks := false }, kinds := [], alts := [], laidByText := true, laidKinds := [.data, .pinned], laidTests := true, laidLooks := .later }
def GlyphSumsCardSaid : Prop := Claim7.holds Tryd.pinned (.plain (OpenSpec.ofChange glyphSumsSpec)) glyphSumsCard

/-- THE SECOND FORM's CARD OF 'casementlaw01.GlyphReads'. -/
def glyphReadsUptoCard : Claim7 := { stood := { row := glyphReadsUptoRow, standIns := [], harness := (true, "c663ad1dbb7fcb6d8549de8fd25bc5749e2537baf33f66ddaa4aecd19ab3dbc2"), looks := false }, kinds := [], alts := [], laidByText := true, laidKinds := [.data, .pinned], laidTests := true, laidLooks := .later }
def GlyphReadsUptoCardSaid : Prop := Claim7.holds Tryd.pinned (.plain (OpenSpec.upto glyphReadsSpec)) glyphReadsUptoCard

/-- THE SECOND FORM's CARD OF 'casementlaw01.GlyphFeeds'. -/
def glyphFeedsUptoCard : Claim7 := { stood := { row := glyphFeedsUptoRow, standIns := [], harness := (true, "c663ad1dbb7fcb6d8549de8fd25bc5749e2537baf33f66ddaa4aecd19ab3dbc2"), looks := false }, kinds := [], alts := [], laidByText := true, laidKinds := [.data, .pinned], laidTests := true, laidLooks := .later }
def GlyphFeedsUptoCardSaid : Prop := Claim7.holds Tryd.pinned (.plain (OpenSpec.upto glyphFeedsSpec)) glyphFeedsUptoCard

/-- THE SECOND FORM's CARD OF 'casementlaw01.GlyphParts'. -/
def glyphPartsUptoCard : Claim7 := { stood := { row := glyphPartsUptoRow, standIns := [], harness := (true, "c663ad1dbb7fcb6d8549de8fd25bc5749e2537baf33f66ddaa4aecd19ab3dbc2"), looks := false }, kinds := [], alts := [], laidByText := true, laidKinds := [.data, .pinned], laidTests := true, laidLooks := .later }
def GlyphPartsUptoCardSaid : Prop := Claim7.holds Tryd.pinned (.plain (OpenSpec.upto glyphPartsSpec)) glyphPartsUptoCard

/-- THE SECOND FORM's CARD OF 'casementlaw01.GlyphWrites'. -/
def glyphWritesUptoCard : Claim7 := { stood := { row := glyphWritesUptoRow, standIns := [], harness := (true, "c663ad1dbb7fcb6d8549de8fd25bc5749e2537baf33f66ddaa4aecd19ab3dbc2"), looks := false }, kinds := [], alts := [], laidByText := true, laidKinds := [.data, .pinned], laidTests := true, laidLooks := .later }
def GlyphWritesUptoCardSaid : Prop := Claim7.holds Tryd.pinned (.plain (OpenSpec.upto glyphWritesSpec)) glyphWritesUptoCard

/-- THE SECOND FORM's CARD OF 'casementlaw01.GlyphWidths'. -/
def glyphWidthsUptoCard : Claim7 := { stood := { row := glyphWidthsUptoRow, standIns := [], harness := (true, "c663ad1dbb7fcb6d8549de8fd25bc5749e2537baf33f66ddaa4aecd19ab3dbc2"), looks := false }, kinds := [], alts := [], laidByText := true, laidKinds := [.data, .pinned], laidTests := true, laidLooks := .later }
def GlyphWidthsUptoCardSaid : Prop := Claim7.holds Tryd.pinned (.plain (OpenSpec.upto glyphWidthsSpec)) glyphWidthsUptoCard

/-- THE SECOND FORM's CARD OF 'casementlaw01.GlyphCuts'. -/
def glyphCutsUptoCard : Claim7 := { stood := { row := glyphCutsUptoRow, standIns := [], harness := (true, "c663ad1dbb7fcb6d8549de8fd25bc5749e2537baf33f66ddaa4aecd19ab3dbc2"), looks := false }, kinds := [], alts := [], laidByText := true, laidKinds := [.data, .pinned], laidTests := true, laidLooks := .later }
def GlyphCutsUptoCardSaid : Prop := Claim7.holds Tryd.pinned (.plain (OpenSpec.upto glyphCutsSpec)) glyphCutsUptoCard

/-- THE SECOND FORM's CARD OF 'casementlaw01.GlyphOnes'. -/
def glyphOnesUptoCard : Claim7 := { stood := { row := glyphOnesUptoRow, standIns := [], harness := (true, "c663ad1dbb7fcb6d8549de8fd25bc5749e2537baf33f66ddaa4aecd19ab3dbc2"), looks := false }, kinds := [], alts := [], laidByText := true, laidKinds := [.data, .pinned], laidTests := true, laidLooks := .later }
def GlyphOnesUptoCardSaid : Prop := Claim7.holds Tryd.pinned (.plain (OpenSpec.upto glyphOnesSpec)) glyphOnesUptoCard

/-- THE SECOND FORM's CARD OF 'casementlaw01.GlyphSums'. -/
def glyphSumsUptoCard : Claim7 := { stood := { row := glyphSumsUptoRow, standIns := [], harness := (true, "c663ad1dbb7fcb6d8549de8fd25bc5749e2537baf33f66ddaa4aecd19ab3dbc2"), looks := false }, kinds := [], alts := [], laidByText := true, laidKinds := [.data, .pinned], laidTests := true, laidLooks := .later }
def GlyphSumsUptoCardSaid : Prop := Claim7.holds Tryd.pinned (.plain (OpenSpec.upto glyphSumsSpec)) glyphSumsUptoCard
end Rows
end Go.Proofs.YtjdbamenbgfcjaaDoor
