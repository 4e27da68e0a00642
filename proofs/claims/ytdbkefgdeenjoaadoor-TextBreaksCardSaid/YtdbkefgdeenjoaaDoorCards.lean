/-
  DERIVED. GIVEN WITH THE SEED: THE CARDS: each row of YtdbkefgdeenjoaaDoorRows.lean that lists a variable, with what it lists TIED to the program's text (the seventh form; the later family's looks); each row that meets fmt, with fmt's text TOLD by the authors' own Lean function (tested against real Go, not proved from fmt's source: count such statements apart). THE CARD IS WHAT COUNTS. Prove the row's statement (the work); the ties are given (YtdbkefgdeenjoaaDoorTie.lean); close each card by the builder's one call (the guide's Derived/Test/ToyasCard.lean, 'card_holds'). Laid BY PROGRAM, IN A SANDBOX (cutbox-door.mjs). By AI agents, Wed Nov 11 2026. No macro, syntax, notation, axiom, sorry.
-/
import Derived.Test.YtdbkefgdeenjoaaDoorRows
import GoSem.ClaimSeven
namespace Go.Proofs.YtdbkefgdeenjoaaDoor
namespace Rows

/-- THE TIED CARD OF 'grillelaw01.TextTells'. -/
def textTellsCard : Claim7 := { stood := { row := textTellsRow, standIns := [], harness := (true, "a902b551e4c321ec7bb578c1327f78358cfe065b0fbd26feb826a607e00a2546"), looks := false }, kinds := [], alts := [], laidByText := true, laidKinds := [.data, .pinned], laidTests := true, laidLooks := .later }
def TextTellsCardSaid : Prop := Claim7.holds Tryd.pinned (.plain (OpenSpec.ofChange textTellsSpec)) textTellsCard

/-- THE TIED CARD OF 'grillelaw01.TextMakes'. -/
def textMakesCard : Claim7 := { stood := { row := textMakesRow, standIns := [], harness := (true, "a902b551e4c321ec7bb578c1327f78358cfe065b0fbd26feb826a607e00a2546"), looks := false }, kinds := [], alts := [], laidByText := true, laidKinds := [.data, .pinned], laidTests := true, laidLooks := .later }
def TextMakesCardSaid : Prop := Claim7.holds Tryd.pinned (.plain (OpenSpec.ofChange textMakesSpec)) textMakesCard

/-- THE TIED CARD OF 'grillelaw01.TextBack'. -/
def textBackCard : Claim7 := { stood := { row := textBackRow, standIns := [], harness := (true, "a902b551e4c321ec7bb578c1327f78358cfe065b0fbd26feb826a607e00a2546"), looks := false }, kinds := [], alts := [], laidByText := true, laidKinds := [.data, .pinned], laidTests := true, laidLooks := .later }
def TextBackCardSaid : Prop := Claim7.holds Tryd.pinned (.plain (OpenSpec.ofChange textBackSpec)) textBackCard

/-- THE TIED CARD OF 'grillelaw01.TextBreaks'. -/
def textBreaksCard : Claim7 := { stood := { row := textBreaksRow, standIns := [], harness := (true, "a902b551e4c321ec7bb578c1327f78358cfe065b0fbd26feb826a607e00a2546"), looks := false }, kinds := [], alts := [], laidByText := true, laidKinds := [.data, .pinned], laidTests := true, laidLooks := .later }
def TextBreaksCardSaid : Prop := Claim7.holds Tryd.pinned (.plain (OpenSpec.ofChange textBreaksSpec)) textBreaksCard

/-- THE TIED CARD OF 'grillelaw01.TextMarks'. -/
def textMarksCard : Claim7 := { stood := { row := textMarksRow, standIns := [], harness := (true, "a902b551e4c321ec7bb578c1327f78358cfe065b0fbd26feb826a607e00a2546"), looks := false }, kinds := [], alts := [], laidByText := true, laidKinds := [.data, .pinned], laidTests := true, laidLooks := .later }
def TextMarksCardSaid : Prop := Claim7.holds Tryd.pinned (.plain (OpenSpec.ofChange textMarksSpec)) textMarksCard

/-- THE TIED CARD OF 'grillelaw01.TextPlain'. -/
def textPlainCard : Claim7 := { stood := { row := textPlainRow, standIns := [], harness := (true, "a902b551e4c321ec7bb578c1327f78358cfe065b0fbd26feb826a607e00a2546"), looks := false }, kinds := [], alts := [], laidByText := true, laidKinds := [.data, .pinned], laidTests := true, laidLooks := .later }
def TextPlainCardSaid : Prop := Claim7.holds Tryd.pinned (.plain (OpenSpec.ofChange textPlainSpec)) textPlainCard

/-- THE TIED CARD OF 'grillelaw01.TextJoins'. -/
def textJoinsCard : Claim7 := { stood := { row := textJoinsRow, standIns := [], harness := (true, "a902b551e4c321ec7bb578c1327f78358cfe065b0fbd26feb826a607e00a2546"), looks := false }, kinds := [], alts := [], laidByText := true, laidKinds := [.data, .pinned], laidTests := true, laidLooks := .later }
def TextJoinsCardSaid : Prop := Claim7.holds Tryd.pinned (.plain (OpenSpec.ofChange textJoinsSpec)) textJoinsCard

/-- THE SECOND FORM's CARD OF 'grillelaw01.TextTells'. -/
def textTellsUptoCard : Claim7 := { stood := { row := textTellsUptoRow, standIns := [], harness := (true, "a902b551e4c321ec7bb578c1327f78358cfe065b0fbd26feb826a607e00a2546"), looks := false }, kinds := [], alts := [], laidByText := true, laidKinds := [.data, .pinned], laidTests := true, laidLooks := .later }
def TextTellsUptoCardSaid : Prop := Claim7.holds Tryd.pinned (.plain (OpenSpec.upto textTellsSpec)) textTellsUptoCard

/-- THE SECOND FORM's CARD OF 'grillelaw01.TextMakes'. -/
def textMakesUptoCard : Claim7 := { stood := { row := textMakesUptoRow, standIns := [], harness := (true, "a902b551e4c321ec7bb578c1327f78358cfe065b0fbd26feb826a607e00a2546"), looks := false }, kinds := [], alts := [], laidByText := true, laidKinds := [.data, .pinned], laidTests := true, laidLooks := .later }
def TextMakesUptoCardSaid : Prop := Claim7.holds Tryd.pinned (.plain (OpenSpec.upto textMakesSpec)) textMakesUptoCard

/-- THE SECOND FORM's CARD OF 'grillelaw01.TextBack'. -/
def textBackUptoCard : Claim7 := { stood := { row := textBackUptoRow, standIns := [], harness := (true, "a902b551e4c321ec7bb578c1327f78358cfe065b0fbd26feb826a607e00a2546"), looks := false }, kinds := [], alts := [], laidByText := true, laidKinds := [.data, .pinned], laidTests := true, laidLooks := .later }
def TextBackUptoCardSaid : Prop := Claim7.holds Tryd.pinned (.plain (OpenSpec.upto textBackSpec)) textBackUptoCard

/-- THE SECOND FORM's CARD OF 'grillelaw01.TextBreaks'. -/
def textBreaksUptoCard : Claim7 := { stood := { row := textBreaksUptoRow, standIns := [], harness := (true, "a902b551e4c321ec7bb578c1327f78358cfe065b0fbd26feb826a607e00a2546"), looks := false }, kinds := [], alts := [], laidByText := true, laidKinds := [.data, .pinned], laidTests := true, laidLooks := .later }
def TextBreaksUptoCardSaid : Prop := Claim7.holds Tryd.pinned (.plain (OpenSpec.upto textBreaksSpec)) textBreaksUptoCard

/-- THE SECOND FORM's CARD OF 'grillelaw01.TextMarks'. -/
def textMarksUptoCard : Claim7 := { stood := { row := textMarksUptoRow, standIns := [], harness := (true, "a902b551e4c321ec7bb578c1327f78358cfe065b0fbd26feb826a607e00a2546"), looks := false }, kinds := [], alts := [], laidByText := true, laidKinds := [.data, .pinned], laidTests := true, laidLooks := .later }
def TextMarksUptoCardSaid : Prop := Claim7.holds Tryd.pinned (.plain (OpenSpec.upto textMarksSpec)) textMarksUptoCard

/-- THE SECOND FORM's CARD OF 'grillelaw01.TextPlain'. -/
def textPlainUptoCard : Claim7 := { stood := { row := textPlainUptoRow, standIns := [], harness := (true, "a902b551e4c321ec7bb578c1327f78358cfe065b0fbd26feb826a607e00a2546"), looks := false }, kinds := [], alts := [], laidByText := true, laidKinds := [.data, .pinned], laidTests := true, laidLooks := .later }
def TextPlainUptoCardSaid : Prop := Claim7.holds Tryd.pinned (.plain (OpenSpec.upto textPlainSpec)) textPlainUptoCard

/-- THE SECOND FORM's CARD OF 'grillelaw01.TextJoins'. -/
def textJoinsUptoCard : Claim7 := { stood := { row := textJoinsUptoRow, standIns := [], harness := (true, "a902b551e4c321ec7bb578c1327f78358cfe065b0fbd26feb826a607e00a2546"), looks := false }, kinds := [], alts := [], laidByText := true, laidKinds := [.data, .pinned], laidTests := true, laidLooks := .later }
def TextJoinsUptoCardSaid : Prop := Claim7.holds Tryd.pinned (.plain (OpenSpec.upto textJoinsSpec)) textJoinsUptoCard
end Rows
end Go.Proofs.YtdbkefgdeenjoaaDoor
