/-
  DERIVED. GIVEN WITH THE SEED: THE CARDS: each row of YtaklapcbbdcdpaaDoorRows.lean that lists a variable, with what it lists TIED to the program's text (the seventh form; the later family's looks); each row that meets fmt, with fmt's text TOLD by the authors' own Lean function (tested against real Go, not proved from fmt's source: count such statements apart). THE CARD IS WHAT COUNTS. Prove the row's statement (the work); the ties are given (YtaklapcbbdcdpaaDoorTie.lean); close each card by the builder's one call (the guide's Derived/Test/ToyasCard.lean, 'card_holds'). Laid BY PROGRAM, IN A SANDBOX (cutbox-door.mjs). By AI agents, Wed Nov 11 2026. No macro, syntax, notation, axiom, sorry.
-/
import Derived.Test.YtaklapcbbdcdpaaDoorRows
import GoSem.ClaimSeven
namespace Go.Proofs.YtaklapcbbdcdpaaDoor
namespace Rows

/-- THE TIED CARD OF 'casementlaw21.PaintPlays'. -/
def paintPlaysCard : Claim7 := { stood := { row := paintPlaysRow, standIns := [], harness := (true, "946023156282235092f51bfa6ae516e1bd4f3e283b2abe174465a44ab5face6c"), looks := false }, kinds := [], alts := [], laidByText := true, laidKinds := [.data, .pinned], laidTests := true, laidLooks := .later }
def PaintPlaysCardSaid : Prop := Claim7.holds Tryd.pinned (.plain (OpenSpec.ofChange paintPlaysSpec)) paintPlaysCard

/-- THE TIED CARD OF 'casementlaw21.PaintRight'. -/
def paintRightCard : Claim7 := { stood := { row := paintRightRow, standIns := [], harness := (true, "946023156282235092f51bfa6ae516e1bd4f3e283b2abe174465a44ab5face6c"), looks := false }, kinds := [], alts := [], laidByText := true, laidKinds := [.data, .pinned], laidTests := true, laidLooks := .later }
def PaintRightCardSaid : Prop := Claim7.holds Tryd.pinned (.plain (OpenSpec.ofChange paintRightSpec)) paintRightCard

/-- THE TIED CARD OF 'casementlaw21.PaintOne'. -/
def paintOneCard : Claim7 := { stood := { row := paintOneRow, standIns := [], harness := (true, "946023156282235092f51bfa6ae516e1bd4f3e283b2abe174465a44ab5face6c"), looks := false }, kinds := [], alts := [], laidByText := true, laidKinds := [.data, .pinned], laidTests := true, laidLooks := .later }
def PaintOneCardSaid : Prop := Claim7.holds Tryd.pinned (.plain (OpenSpec.ofChange paintOneSpec)) paintOneCard

/-- THE TIED CARD OF 'casementlaw21.PaintOrder'. -/
def paintOrderCard : Claim7 := { stood := { row := paintOrderRow, standIns := [], harness := (true, "946023156282235092f51bfa6ae516e1bd4f3e283b2abe174465a44ab5face6c"), looks := false }, kinds := [], alts := [], laidByText := true, laidKinds := [.data, .pinned], laidTests := true, laidLooks := .later }
def PaintOrderCardSaid : Prop := Claim7.holds Tryd.pinned (.plain (OpenSpec.ofChange paintOrderSpec)) paintOrderCard

/-- THE SECOND FORM's CARD OF 'casementlaw21.PaintPlays'. -/
def paintPlaysUptoCard : Claim7 := { stood := { row := paintPlaysUptoRow, standIns := [], harness := (true, "946023156282235092f51bfa6ae516e1bd4f3e283b2abe174465a44ab5face6c"), looks := false }, kinds := [], alts := [], laidByText := true, laidKinds := [.data, .pinned], laidTests := true, laidLooks := .later }
def PaintPlaysUptoCardSaid : Prop := Claim7.holds Tryd.pinned (.plain (OpenSpec.upto paintPlaysSpec)) paintPlaysUptoCard

/-- THE SECOND FORM's CARD OF 'casementlaw21.PaintRight'. -/
def paintRightUptoCard : Claim7 := { stood := { row := paintRightUptoRow, standIns := [], harness := (true, "946023156282235092f51bfa6ae516e1bd4f3e283b2abe174465a44ab5face6c"), looks := false }, kinds := [], alts := [], laidByText := true, laidKinds := [.data, .pinned], laidTests := true, laidLooks := .later }
def PaintRightUptoCardSaid : Prop := Claim7.holds Tryd.pinned (.plain (OpenSpec.upto paintRightSpec)) paintRightUptoCard

/-- THE SECOND FORM's CARD OF 'casementlaw21.PaintOne'. -/
def paintOneUptoCard : Claim7 := { stood := { row := paintOneUptoRow, standIns := [], harness := (true, "946023156282235092f51bfa6ae516e1bd4f3e283b2abe174465a44ab5face6c"), looks := false }, kinds := [], alts := [], laidByText := true, laidKinds := [.data, .pinned], laidTests := true, laidLooks := .later }
def PaintOneUptoCardSaid : Prop := Claim7.holds Tryd.pinned (.plain (OpenSpec.upto paintOneSpec)) paintOneUptoCard

/-- THE SECOND FORM's CARD OF 'casementlaw21.PaintOrder'. -/
def paintOrderUptoCard : Claim7 := { stood := { row := paintOrderUptoRow, standIns := [], harness := (true, "946023156282235092f51bfa6ae516e1bd4f3e283b2abe174465a44ab5face6c"), looks := false }, kinds := [], alts := [], laidByText := true, laidKinds := [.data, .pinned], laidTests := true, laidLooks := .later }
def PaintOrderUptoCardSaid : Prop := Claim7.holds Tryd.pinned (.plain (OpenSpec.upto paintOrderSpec)) paintOrderUptoCard
end Rows
end Go.Proofs.YtaklapcbbdcdpaaDoor
