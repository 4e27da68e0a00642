/-
  DERIVED. GIVEN WITH THE SEED: THE CARDS: each row of YtgnmjaacnmkgnaaGreatDoorRows.lean that lists a variable, with what it lists TIED to the program's text (the seventh form; the later family's looks); each row that meets fmt, with fmt's text TOLD by the authors' own Lean function (tested against real Go, not proved from fmt's source: count such statements apart). THE CARD IS WHAT COUNTS. Prove the row's statement (the work); the ties are given (YtgnmjaacnmkgnaaGreatDoorTie.lean); close each card by the builder's one call (the guide's Derived/Test/ToyasCard.lean, 'card_holds'). Laid BY PROGRAM, IN A SANDBOX (cutbox-door.mjs). By AI agents, Wed Nov 11 2026. No macro, syntax, notation, axiom, sorry.
-/
import Derived.Test.YtgnmjaacnmkgnaaGreatDoorRows
import GoSem.ClaimSeven
namespace Go.Proofs.YtgnmjaacnmkgnaaGreatDoor
namespace Rows

/-- THE TIED CARD OF 'grillelaw06.EventCut'. -/
def eventCutCard : Claim7 := { stood := { row := eventCutRow, standIns := [], harness := (true, "a23c067cf339b980d7e5e1d514f91b1585131ec0bb6fe76193ebb465e8f6ff6a"), looks := true }, kinds := [], alts := [], laidByText := true, laidKinds := [.data, .data, .data, .data, .sentinel, .sentinel, .pinned], laidTests := true, laidLooks := .later }
def EventCutCardSaid : Prop := Claim7.holds Tryz.pinned (.plain (OpenSpec.ofChange eventCutSpec)) eventCutCard

/-- THE TIED CARD OF 'grillelaw06.EventWraps'. -/
def eventWrapsCard : Claim7 := { stood := { row := eventWrapsRow, standIns := [], harness := (true, "a23c067cf339b980d7e5e1d514f91b1585131ec0bb6fe76193ebb465e8f6ff6a"), looks := true }, kinds := [], alts := [], laidByText := true, laidKinds := [.data, .data, .data, .data, .sentinel, .sentinel, .pinned], laidTests := true, laidLooks := .later }
def EventWrapsCardSaid : Prop := Claim7.holds Tryz.pinned (.plain (OpenSpec.ofChange eventWrapsSpec)) eventWrapsCard

/-- THE TIED CARD OF 'grillelaw06.EventParts'. -/
def eventPartsCard : Claim7 := { stood := { row := eventPartsRow, standIns := [], harness := (true, "a23c067cf339b980d7e5e1d514f91b1585131ec0bb6fe76193ebb465e8f6ff6a"), looks := true }, kinds := [], alts := [], laidByText := true, laidKinds := [.data, .data, .data, .data, .sentinel, .sentinel, .pinned], laidTests := true, laidLooks := .later }
def EventPartsCardSaid : Prop := Claim7.holds Tryz.pinned (.plain (OpenSpec.ofChange eventPartsSpec)) eventPartsCard

/-- THE TIED CARD OF 'grillelaw06.EventTells'. -/
def eventTellsCard : Claim7 := { stood := { row := eventTellsRow, standIns := [], harness := (true, "a23c067cf339b980d7e5e1d514f91b1585131ec0bb6fe76193ebb465e8f6ff6a"), looks := true }, kinds := [], alts := [], laidByText := true, laidKinds := [.data, .data, .data, .data, .sentinel, .sentinel, .pinned], laidTests := true, laidLooks := .later }
def EventTellsCardSaid : Prop := Claim7.holds Tryz.pinned (.plain (OpenSpec.ofChange eventTellsSpec)) eventTellsCard

/-- THE TIED CARD OF 'grillelaw06.EventReads'. -/
def eventReadsCard : Claim7 := { stood := { row := eventReadsRow, standIns := [], harness := (true, "a23c067cf339b980d7e5e1d514f91b1585131ec0bb6fe76193ebb465e8f6ff6a"), looks := true }, kinds := [], alts := [], laidByText := true, laidKinds := [.data, .data, .data, .data, .sentinel, .sentinel, .pinned], laidTests := true, laidLooks := .later }
def EventReadsCardSaid : Prop := Claim7.holds Tryz.pinned (.plain (OpenSpec.ofChange eventReadsSpec)) eventReadsCard

/-- THE TIED CARD OF 'grillelaw06.EventBack'. -/
def eventBackCard : Claim7 := { stood := { row := eventBackRow, standIns := [], harness := (true, "a23c067cf339b980d7e5e1d514f91b1585131ec0bb6fe76193ebb465e8f6ff6a"), looks := true }, kinds := [], alts := [], laidByText := true, laidKinds := [.data, .data, .data, .data, .sentinel, .sentinel, .pinned], laidTests := true, laidLooks := .later }
def EventBackCardSaid : Prop := Claim7.holds Tryz.pinned (.plain (OpenSpec.ofChange eventBackSpec)) eventBackCard

/-- THE SECOND FORM's CARD OF 'grillelaw06.EventCut'. -/
def eventCutUptoCard : Claim7 := { stood := { row := eventCutUptoRow, standIns := [], harness := (true, "a23c067cf339b980d7e5e1d514f91b1585131ec0bb6fe76193ebb465e8f6ff6a"), looks := true }, kinds := [], alts := [], laidByText := true, laidKinds := [.data, .data, .data, .data, .sentinel, .sentinel, .pinned], laidTests := true, laidLooks := .later }
def EventCutUptoCardSaid : Prop := Claim7.holds Tryz.pinned (.plain (OpenSpec.upto eventCutSpec)) eventCutUptoCard

/-- THE SECOND FORM's CARD OF 'grillelaw06.EventWraps'. -/
def eventWrapsUptoCard : Claim7 := { stood := { row := eventWrapsUptoRow, standIns := [], harness := (true, "a23c067cf339b980d7e5e1d514f91b1585131ec0bb6fe76193ebb465e8f6ff6a"), looks := true }, kinds := [], alts := [], laidByText := true, laidKinds := [.data, .data, .data, .data, .sentinel, .sentinel, .pinned], laidTests := true, laidLooks := .later }
def EventWrapsUptoCardSaid : Prop := Claim7.holds Tryz.pinned (.plain (OpenSpec.upto eventWrapsSpec)) eventWrapsUptoCard

/-- THE SECOND FORM's CARD OF 'grillelaw06.EventParts'. -/
def eventPartsUptoCard : Claim7 := { stood := { row := eventPartsUptoRow, standIns := [], harness := (true, "a23c067cf339b980d7e5e1d514f91b1585131ec0bb6fe76193ebb465e8f6ff6a"), looks := true }, kinds := [], alts := [], laidByText := true, laidKinds := [.data, .data, .data, .data, .sentinel, .sentinel, .pinned], laidTests := true, laidLooks := .later }
def EventPartsUptoCardSaid : Prop := Claim7.holds Tryz.pinned (.plain (OpenSpec.upto eventPartsSpec)) eventPartsUptoCard

/-- THE SECOND FORM's CARD OF 'grillelaw06.EventTells'. -/
def eventTellsUptoCard : Claim7 := { stood := { row := eventTellsUptoRow, standIns := [], harness := (true, "a23c067cf339b980d7e5e1d514f91b1585131ec0bb6fe76193ebb465e8f6ff6a"), looks := true }, kinds := [], alts := [], laidByText := true, laidKinds := [.data, .data, .data, .data, .sentinel, .sentinel, .pinned], laidTests := true, laidLooks := .later }
def EventTellsUptoCardSaid : Prop := Claim7.holds Tryz.pinned (.plain (OpenSpec.upto eventTellsSpec)) eventTellsUptoCard

/-- THE SECOND FORM's CARD OF 'grillelaw06.EventReads'. -/
def eventReadsUptoCard : Claim7 := { stood := { row := eventReadsUptoRow, standIns := [], harness := (true, "a23c067cf339b980d7e5e1d514f91b1585131ec0bb6fe76193ebb465e8f6ff6a"), looks := true }, kinds := [], alts := [], laidByText := true, laidKinds := [.data, .data, .data, .data, .sentinel, .sentinel, .pinned], laidTests := true, laidLooks := .later }
def EventReadsUptoCardSaid : Prop := Claim7.holds Tryz.pinned (.plain (OpenSpec.upto eventReadsSpec)) eventReadsUptoCard

/-- THE SECOND FORM's CARD OF 'grillelaw06.EventBack'. -/
def eventBackUptoCard : Claim7 := { stood := { row := eventBackUptoRow, standIns := [], harness := (true, "a23c067cf339b980d7e5e1d514f91b1585131ec0bb6fe76193ebb465e8f6ff6a"), looks := true }, kinds := [], alts := [], laidByText := true, laidKinds := [.data, .data, .data, .data, .sentinel, .sentinel, .pinned], laidTests := true, laidLooks := .later }
def EventBackUptoCardSaid : Prop := Claim7.holds Tryz.pinned (.plain (OpenSpec.upto eventBackSpec)) eventBackUptoCard
end Rows
end Go.Proofs.YtgnmjaacnmkgnaaGreatDoor
