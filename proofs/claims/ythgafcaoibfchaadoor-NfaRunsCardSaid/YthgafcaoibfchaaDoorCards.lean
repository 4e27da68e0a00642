/-
  DERIVED. GIVEN WITH THE SEED: THE CARDS: each row of YthgafcaoibfchaaDoorRows.lean that lists a variable, with what it lists TIED to the program's text (the seventh form; the later family's looks); each row that meets fmt, with fmt's text TOLD by the authors' own Lean function (tested against real Go, not proved from fmt's source: count such statements apart). THE CARD IS WHAT COUNTS. Prove the row's statement (the work); the ties are given (YthgafcaoibfchaaDoorTie.lean); close each card by the builder's one call (the guide's Derived/Test/ToyasCard.lean, 'card_holds'). Laid BY PROGRAM, IN A SANDBOX (cutbox-door.mjs). By AI agents, Wed Nov 11 2026. No macro, syntax, notation, axiom, sorry.
-/
import Derived.Test.YthgafcaoibfchaaDoorRows
import GoSem.ClaimSeven
namespace Go.Proofs.YthgafcaoibfchaaDoor
namespace Rows

/-- THE TIED CARD OF 'grillelaw03.TagSigns'. -/
def tagSignsCard : Claim7 := { stood := { row := tagSignsRow, standIns := [], harness := (true, "1339b010011ffd1badb46b4238d87ecf8cc86ce0d3e9ea240ffedfab605e142e"), looks := false }, kinds := [], alts := [], laidByText := true, laidKinds := [.data, .pinned], laidTests := true, laidLooks := .later }
def TagSignsCardSaid : Prop := Claim7.holds Tryd.pinned (.plain (OpenSpec.ofChange tagSignsSpec)) tagSignsCard

/-- THE TIED CARD OF 'grillelaw12.LatticeTells'. -/
def latticeTellsCard : Claim7 := { stood := { row := latticeTellsRow, standIns := [], harness := (true, "1339b010011ffd1badb46b4238d87ecf8cc86ce0d3e9ea240ffedfab605e142e"), looks := false }, kinds := [], alts := [], laidByText := true, laidKinds := [.data, .pinned], laidTests := true, laidLooks := .later }
def LatticeTellsCardSaid : Prop := Claim7.holds Tryd.pinned (.plain (OpenSpec.ofChange latticeTellsSpec)) latticeTellsCard

/-- THE TIED CARD OF 'grillelaw12.LatticeOrder'. -/
def latticeOrderCard : Claim7 := { stood := { row := latticeOrderRow, standIns := [], harness := (true, "1339b010011ffd1badb46b4238d87ecf8cc86ce0d3e9ea240ffedfab605e142e"), looks := false }, kinds := [], alts := [], laidByText := true, laidKinds := [.data, .pinned], laidTests := true, laidLooks := .later }
def LatticeOrderCardSaid : Prop := Claim7.holds Tryd.pinned (.plain (OpenSpec.ofChange latticeOrderSpec)) latticeOrderCard

/-- THE TIED CARD OF 'grillelaw12.LatticeBounds'. -/
def latticeBoundsCard : Claim7 := { stood := { row := latticeBoundsRow, standIns := [], harness := (true, "1339b010011ffd1badb46b4238d87ecf8cc86ce0d3e9ea240ffedfab605e142e"), looks := false }, kinds := [], alts := [], laidByText := true, laidKinds := [.data, .pinned], laidTests := true, laidLooks := .later }
def LatticeBoundsCardSaid : Prop := Claim7.holds Tryd.pinned (.plain (OpenSpec.ofChange latticeBoundsSpec)) latticeBoundsCard

/-- THE TIED CARD OF 'grillelaw12.LatticeAll'. -/
def latticeAllCard : Claim7 := { stood := { row := latticeAllRow, standIns := [], harness := (true, "1339b010011ffd1badb46b4238d87ecf8cc86ce0d3e9ea240ffedfab605e142e"), looks := false }, kinds := [], alts := [], laidByText := true, laidKinds := [.data, .pinned], laidTests := true, laidLooks := .later }
def LatticeAllCardSaid : Prop := Claim7.holds Tryd.pinned (.plain (OpenSpec.ofChange latticeAllSpec)) latticeAllCard

/-- THE TIED CARD OF 'grillelaw12.LatticeNames'. -/
def latticeNamesCard : Claim7 := { stood := { row := latticeNamesRow, standIns := [], harness := (true, "1339b010011ffd1badb46b4238d87ecf8cc86ce0d3e9ea240ffedfab605e142e"), looks := false }, kinds := [], alts := [], laidByText := true, laidKinds := [.data, .pinned], laidTests := true, laidLooks := .later }
def LatticeNamesCardSaid : Prop := Claim7.holds Tryd.pinned (.plain (OpenSpec.ofChange latticeNamesSpec)) latticeNamesCard

/-- THE TIED CARD OF 'grillelaw12.LatticeBack'. -/
def latticeBackCard : Claim7 := { stood := { row := latticeBackRow, standIns := [], harness := (true, "1339b010011ffd1badb46b4238d87ecf8cc86ce0d3e9ea240ffedfab605e142e"), looks := false }, kinds := [], alts := [], laidByText := true, laidKinds := [.data, .pinned], laidTests := true, laidLooks := .later }
def LatticeBackCardSaid : Prop := Claim7.holds Tryd.pinned (.plain (OpenSpec.ofChange latticeBackSpec)) latticeBackCard

/-- THE TIED CARD OF 'grillelaw14.NfaRuns'. -/
def nfaRunsCard : Claim7 := { stood := { row := nfaRunsRow, standIns := [], harness := (true, "1339b010011ffd1badb46b4238d87ecf8cc86ce0d3e9ea240ffedfab605e142e"), looks := false }, kinds := [], alts := [], laidByText := true, laidKinds := [.data, .pinned], laidTests := true, laidLooks := .later }
def NfaRunsCardSaid : Prop := Claim7.holds Tryd.pinned (.plain (OpenSpec.ofChange nfaRunsSpec)) nfaRunsCard

/-- THE TIED CARD OF 'grillelaw14.NfaApart'. -/
def nfaApartCard : Claim7 := { stood := { row := nfaApartRow, standIns := [], harness := (true, "1339b010011ffd1badb46b4238d87ecf8cc86ce0d3e9ea240ffedfab605e142e"), looks := false }, kinds := [], alts := [], laidByText := true, laidKinds := [.data, .pinned], laidTests := true, laidLooks := .later }
def NfaApartCardSaid : Prop := Claim7.holds Tryd.pinned (.plain (OpenSpec.ofChange nfaApartSpec)) nfaApartCard

/-- THE TIED CARD OF 'grillelaw14.NfaLike'. -/
def nfaLikeCard : Claim7 := { stood := { row := nfaLikeRow, standIns := [], harness := (true, "1339b010011ffd1badb46b4238d87ecf8cc86ce0d3e9ea240ffedfab605e142e"), looks := false }, kinds := [], alts := [], laidByText := true, laidKinds := [.data, .pinned], laidTests := true, laidLooks := .later }
def NfaLikeCardSaid : Prop := Claim7.holds Tryd.pinned (.plain (OpenSpec.ofChange nfaLikeSpec)) nfaLikeCard

/-- THE TIED CARD OF 'grillelaw14.NfaSteps'. -/
def nfaStepsCard : Claim7 := { stood := { row := nfaStepsRow, standIns := [], harness := (true, "1339b010011ffd1badb46b4238d87ecf8cc86ce0d3e9ea240ffedfab605e142e"), looks := false }, kinds := [], alts := [], laidByText := true, laidKinds := [.data, .pinned], laidTests := true, laidLooks := .later }
def NfaStepsCardSaid : Prop := Claim7.holds Tryd.pinned (.plain (OpenSpec.ofChange nfaStepsSpec)) nfaStepsCard

/-- THE SECOND FORM's CARD OF 'grillelaw03.TagSigns'. -/
def tagSignsUptoCard : Claim7 := { stood := { row := tagSignsUptoRow, standIns := [], harness := (true, "1339b010011ffd1badb46b4238d87ecf8cc86ce0d3e9ea240ffedfab605e142e"), looks := false }, kinds := [], alts := [], laidByText := true, laidKinds := [.data, .pinned], laidTests := true, laidLooks := .later }
def TagSignsUptoCardSaid : Prop := Claim7.holds Tryd.pinned (.plain (OpenSpec.upto tagSignsSpec)) tagSignsUptoCard

/-- THE SECOND FORM's CARD OF 'grillelaw12.LatticeTells'. -/
def latticeTellsUptoCard : Claim7 := { stood := { row := latticeTellsUptoRow, standIns := [], harness := (true, "1339b010011ffd1badb46b4238d87ecf8cc86ce0d3e9ea240ffedfab605e142e"), looks := false }, kinds := [], alts := [], laidByText := true, laidKinds := [.data, .pinned], laidTests := true, laidLooks := .later }
def LatticeTellsUptoCardSaid : Prop := Claim7.holds Tryd.pinned (.plain (OpenSpec.upto latticeTellsSpec)) latticeTellsUptoCard

/-- THE SECOND FORM's CARD OF 'grillelaw12.LatticeOrder'. -/
def latticeOrderUptoCard : Claim7 := { stood := { row := latticeOrderUptoRow, standIns := [], harness := (true, "1339b010011ffd1badb46b4238d87ecf8cc86ce0d3e9ea240ffedfab605e142e"), looks := false }, kinds := [], alts := [], laidByText := true, laidKinds := [.data, .pinned], laidTests := true, laidLooks := .later }
def LatticeOrderUptoCardSaid : Prop := Claim7.holds Tryd.pinned (.plain (OpenSpec.upto latticeOrderSpec)) latticeOrderUptoCard

/-- THE SECOND FORM's CARD OF 'grillelaw12.LatticeBounds'. -/
def latticeBoundsUptoCard : Claim7 := { stood := { row := latticeBoundsUptoRow, standIns := [], harness := (true, "1339b010011ffd1badb46b4238d87ecf8cc86ce0d3e9ea240ffedfab605e142e"), looks := false }, kinds := [], alts := [], laidByText := true, laidKinds := [.data, .pinned], laidTests := true, laidLooks := .later }
def LatticeBoundsUptoCardSaid : Prop := Claim7.holds Tryd.pinned (.plain (OpenSpec.upto latticeBoundsSpec)) latticeBoundsUptoCard

/-- THE SECOND FORM's CARD OF 'grillelaw12.LatticeAll'. -/
def latticeAllUptoCard : Claim7 := { stood := { row := latticeAllUptoRow, standIns := [], harness := (true, "1339b010011ffd1badb46b4238d87ecf8cc86ce0d3e9ea240ffedfab605e142e"), looks := false }, kinds := [], alts := [], laidByText := true, laidKinds := [.data, .pinned], laidTests := true, laidLooks := .later }
def LatticeAllUptoCardSaid : Prop := Claim7.holds Tryd.pinned (.plain (OpenSpec.upto latticeAllSpec)) latticeAllUptoCard

/-- THE SECOND FORM's CARD OF 'grillelaw12.LatticeNames'. -/
def latticeNamesUptoCard : Claim7 := { stood := { row := latticeNamesUptoRow, standIns := [], harness := (true, "1339b010011ffd1badb46b4238d87ecf8cc86ce0d3e9ea240ffedfab605e142e"), looks := false }, kinds := [], alts := [], laidByText := true, laidKinds := [.data, .pinned], laidTests := true, laidLooks := .later }
def LatticeNamesUptoCardSaid : Prop := Claim7.holds Tryd.pinned (.plain (OpenSpec.upto latticeNamesSpec)) latticeNamesUptoCard

/-- THE SECOND FORM's CARD OF 'grillelaw12.LatticeBack'. -/
def latticeBackUptoCard : Claim7 := { stood := { row := latticeBackUptoRow, standIns := [], harness := (true, "1339b010011ffd1badb46b4238d87ecf8cc86ce0d3e9ea240ffedfab605e142e"), looks := false }, kinds := [], alts := [], laidByText := true, laidKinds := [.data, .pinned], laidTests := true, laidLooks := .later }
def LatticeBackUptoCardSaid : Prop := Claim7.holds Tryd.pinned (.plain (OpenSpec.upto latticeBackSpec)) latticeBackUptoCard

/-- THE SECOND FORM's CARD OF 'grillelaw14.NfaRuns'. -/
def nfaRunsUptoCard : Claim7 := { stood := { row := nfaRunsUptoRow, standIns := [], harness := (true, "1339b010011ffd1badb46b4238d87ecf8cc86ce0d3e9ea240ffedfab605e142e"), looks := false }, kinds := [], alts := [], laidByText := true, laidKinds := [.data, .pinned], laidTests := true, laidLooks := .later }
def NfaRunsUptoCardSaid : Prop := Claim7.holds Tryd.pinned (.plain (OpenSpec.upto nfaRunsSpec)) nfaRunsUptoCard

/-- THE SECOND FORM's CARD OF 'grillelaw14.NfaApart'. -/
def nfaApartUptoCard : Claim7 := { stood := { row := nfaApartUptoRow, standIns := [], harness := (true, "1339b010011ffd1badb46b4238d87ecf8cc86ce0d3e9ea240ffedfab605e142e"), looks := false }, kinds := [], alts := [], laidByText := true, laidKinds := [.data, .pinned], laidTests := true, laidLooks := .later }
def NfaApartUptoCardSaid : Prop := Claim7.holds Tryd.pinned (.plain (OpenSpec.upto nfaApartSpec)) nfaApartUptoCard

/-- THE SECOND FORM's CARD OF 'grillelaw14.NfaLike'. -/
def nfaLikeUptoCard : Claim7 := { stood := { row := nfaLikeUptoRow, standIns := [], harness := (true, "1339b010011ffd1badb46b4238d87ecf8cc86ce0d3e9ea240ffedfab605e142e"), looks := false }, kinds := [], alts := [], laidByText := true, laidKinds := [.data, .pinned], laidTests := true, laidLooks := .later }
def NfaLikeUptoCardSaid : Prop := Claim7.holds Tryd.pinned (.plain (OpenSpec.upto nfaLikeSpec)) nfaLikeUptoCard

/-- THE SECOND FORM's CARD OF 'grillelaw14.NfaSteps'. -/
def nfaStepsUptoCard : Claim7 := { stood := { row := nfaStepsUptoRow, standIns := [], harness := (true, "1339b010011ffd1badb46b4238d87ecf8cc86ce0d3e9ea240ffedfab605e142e"), looks := false }, kinds := [], alts := [], laidByText := true, laidKinds := [.data, .pinned], laidTests := true, laidLooks := .later }
def NfaStepsUptoCardSaid : Prop := Claim7.holds Tryd.pinned (.plain (OpenSpec.upto nfaStepsSpec)) nfaStepsUptoCard
end Rows
end Go.Proofs.YthgafcaoibfchaaDoor
