/-
  DERIVED. GIVEN WITH THE SEED: THE CARDS: each row of YtgnmjaacnmkgnaaDoorRows.lean that lists a variable, with what it lists TIED to the program's text (the seventh form; the later family's looks); each row that meets fmt, with fmt's text TOLD by the authors' own Lean function (tested against real Go, not proved from fmt's source: count such statements apart). THE CARD IS WHAT COUNTS. Prove the row's statement (the work); the ties are given (YtgnmjaacnmkgnaaDoorTie.lean); close each card by the builder's one call (the guide's Derived/Test/ToyasCard.lean, 'card_holds'). Laid BY PROGRAM, IN A SANDBOX (cutbox-door.mjs). By AI agents, Wed Nov 11 2026. No macro, syntax, notation, axiom, sorry.
-/
import Derived.Test.YtgnmjaacnmkgnaaDoorRows
import GoSem.ClaimSeven
namespace Go.Proofs.YtgnmjaacnmkgnaaDoor
namespace Rows

/-- THE TIED CARD OF 'grillelaw09.ComposeTags'. -/
def composeTagsCard : Claim7 := { stood := { row := composeTagsRow, standIns := [], harness := (true, "61ac5e15a9524a92596e83ecd63a67f8dd67c004145986a476c4a1f66d1c3973"), looks := false }, kinds := [], alts := [], laidByText := true, laidKinds := [.data, .pinned], laidTests := true, laidLooks := .later }
def ComposeTagsCardSaid : Prop := Claim7.holds Tryd.pinned (.plain (OpenSpec.ofChange composeTagsSpec)) composeTagsCard

/-- THE TIED CARD OF 'grillelaw09.ComposeTells'. -/
def composeTellsCard : Claim7 := { stood := { row := composeTellsRow, standIns := [], harness := (true, "61ac5e15a9524a92596e83ecd63a67f8dd67c004145986a476c4a1f66d1c3973"), looks := false }, kinds := [], alts := [], laidByText := true, laidKinds := [.data, .pinned], laidTests := true, laidLooks := .later }
def ComposeTellsCardSaid : Prop := Claim7.holds Tryd.pinned (.plain (OpenSpec.ofChange composeTellsSpec)) composeTellsCard

/-- THE TIED CARD OF 'grillelaw09.ComposeParts'. -/
def composePartsCard : Claim7 := { stood := { row := composePartsRow, standIns := [], harness := (true, "61ac5e15a9524a92596e83ecd63a67f8dd67c004145986a476c4a1f66d1c3973"), looks := false }, kinds := [], alts := [], laidByText := true, laidKinds := [.data, .pinned], laidTests := true, laidLooks := .later }
def ComposePartsCardSaid : Prop := Claim7.holds Tryd.pinned (.plain (OpenSpec.ofChange composePartsSpec)) composePartsCard

/-- THE TIED CARD OF 'grillelaw09.ComposeNames'. -/
def composeNamesCard : Claim7 := { stood := { row := composeNamesRow, standIns := [], harness := (true, "61ac5e15a9524a92596e83ecd63a67f8dd67c004145986a476c4a1f66d1c3973"), looks := false }, kinds := [], alts := [], laidByText := true, laidKinds := [.data, .pinned], laidTests := true, laidLooks := .later }
def ComposeNamesCardSaid : Prop := Claim7.holds Tryd.pinned (.plain (OpenSpec.ofChange composeNamesSpec)) composeNamesCard

/-- THE TIED CARD OF 'grillelaw09.ComposeRight'. -/
def composeRightCard : Claim7 := { stood := { row := composeRightRow, standIns := [], harness := (true, "61ac5e15a9524a92596e83ecd63a67f8dd67c004145986a476c4a1f66d1c3973"), looks := false }, kinds := [], alts := [], laidByText := true, laidKinds := [.data, .pinned], laidTests := true, laidLooks := .later }
def ComposeRightCardSaid : Prop := Claim7.holds Tryd.pinned (.plain (OpenSpec.ofChange composeRightSpec)) composeRightCard

/-- THE SECOND FORM's CARD OF 'grillelaw09.ComposeTags'. -/
def composeTagsUptoCard : Claim7 := { stood := { row := composeTagsUptoRow, standIns := [], harness := (true, "61ac5e15a9524a92596e83ecd63a67f8dd67c004145986a476c4a1f66d1c3973"), looks := false }, kinds := [], alts := [], laidByText := true, laidKinds := [.data, .pinned], laidTests := true, laidLooks := .later }
def ComposeTagsUptoCardSaid : Prop := Claim7.holds Tryd.pinned (.plain (OpenSpec.upto composeTagsSpec)) composeTagsUptoCard

/-- THE SECOND FORM's CARD OF 'grillelaw09.ComposeTells'. -/
def composeTellsUptoCard : Claim7 := { stood := { row := composeTellsUptoRow, standIns := [], harness := (true, "61ac5e15a9524a92596e83ecd63a67f8dd67c004145986a476c4a1f66d1c3973"), looks := false }, kinds := [], alts := [], laidByText := true, laidKinds := [.data, .pinned], laidTests := true, laidLooks := .later }
def ComposeTellsUptoCardSaid : Prop := Claim7.holds Tryd.pinned (.plain (OpenSpec.upto composeTellsSpec)) composeTellsUptoCard

/-- THE SECOND FORM's CARD OF 'grillelaw09.ComposeParts'. -/
def composePartsUptoCard : Claim7 := { stood := { row := composePartsUptoRow, standIns := [], harness := (true, "61ac5e15a9524a92596e83ecd63a67f8dd67c004145986a476c4a1f66d1c3973"), looks := false }, kinds := [], alts := [], laidByText := true, laidKinds := [.data, .pinned], laidTests := true, laidLooks := .later }
def ComposePartsUptoCardSaid : Prop := Claim7.holds Tryd.pinned (.plain (OpenSpec.upto composePartsSpec)) composePartsUptoCard

/-- THE SECOND FORM's CARD OF 'grillelaw09.ComposeNames'. -/
def composeNamesUptoCard : Claim7 := { stood := { row := composeNamesUptoRow, standIns := [], harness := (true, "61ac5e15a9524a92596e83ecd63a67f8dd67c004145986a476c4a1f66d1c3973"), looks := false }, kinds := [], alts := [], laidByText := true, laidKinds := [.data, .pinned], laidTests := true, laidLooks := .later }
def ComposeNamesUptoCardSaid : Prop := Claim7.holds Tryd.pinned (.plain (OpenSpec.upto composeNamesSpec)) composeNamesUptoCard

/-- THE SECOND FORM's CARD OF 'grillelaw09.ComposeRight'. -/
def composeRightUptoCard : Claim7 := { stood := { row := composeRightUptoRow, standIns := [], harness := (true, "61ac5e15a9524a92596e83ecd63a67f8dd67c004145986a476c4a1f66d1c3973"), looks := false }, kinds := [], alts := [], laidByText := true, laidKinds := [.data, .pinned], laidTests := true, laidLooks := .later }
def ComposeRightUptoCardSaid : Prop := Claim7.holds Tryd.pinned (.plain (OpenSpec.upto composeRightSpec)) composeRightUptoCard
end Rows
end Go.Proofs.YtgnmjaacnmkgnaaDoor
