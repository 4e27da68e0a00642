/-
  NARROWER THAN 'FOR EVERY INPUT', by the rows' own cells (each row's printed sentence says how): TagSigns: laid · LatticeTells: laid · LatticeOrder: laid · LatticeBounds: laid · LatticeAll: laid · LatticeNames: laid · LatticeBack: laid · NfaRuns: laid · NfaApart: laid · NfaLike: laid · NfaSteps: laid.
  DERIVED. THE GIVEN ROWS OF THIS SEAT. 11 by the template 'for every input the law returns true; each argument reads behind the call as it read before'; 0 by the template 'total and deterministic' (their statements: YthgafcaoibfchaaDoorTotals.lean).
  GIVEN WITH THE SEED: the statements are not yours to turn. If you find one false, say at which input.
  Laid BY PROGRAM, IN A SANDBOX (cutbox-rows.mjs): the forced cells as the released guide's own fill.sh prints them over the translation 00e81b0269aae9aa… (all of the seat's roots in one cut). By AI agents, Wed Nov 11 2026. No macro, syntax, notation, axiom, sorry.
-/
import Derived.Test.YthgafcaoibfchaaDoorChecked
import GoSem.PinnedTables
import GoSem.Claim
import GoSem.ClaimJoined
import GoSem.ClaimMapViews
import Derived.JoinedTies
import Derived.KernelRfl
namespace Go.Proofs.YthgafcaoibfchaaDoor
/- THE CELL 'sum', in the pinned program and in every row, IS THE sha256 OF THE DUMP (.gsa) THAT YthgafcaoibfchaaDoorProg.lean LOADS. Nothing in Lean hashes anything: it is a label: what it is worth is what the hold of that sum in a sandbox is worth. -/
noncomputable def Tryd.pinned : Pinned := { name := "ythgafcaoibfchaadoor", sum := "00e81b0269aae9aa2ea7dbc429fad737fe0f39da993ce0cf4c28593f4a1efd00", checked := Tryd.checked }
namespace Rows
def none {H : Type} : Left H := { results := [], args := [] }

/- WHAT THE LISTED PACKAGE-LEVEL VARIABLES READ AS WHEN THE CALL BEGINS. Each datum BY PROGRAM (the guide's laid-datum.mjs) off the statement by which the dump's own 'gosem.cut.vars' lays the variable. In a bare row this is a premise. The card (YthgafcaoibfchaaDoorCards.lean) ties it to the program's text. -/
def laid_unicode_utf8_acceptRanges {H : Type} : DataW H := .agg [.agg [.lit (.int .u8 128), .lit (.int .u8 191)], .agg [.lit (.int .u8 160), .lit (.int .u8 191)], .agg [.lit (.int .u8 128), .lit (.int .u8 159)], .agg [.lit (.int .u8 144), .lit (.int .u8 191)], .agg [.lit (.int .u8 128), .lit (.int .u8 143)], .agg [.lit (.int .u8 0), .lit (.int .u8 0)], .agg [.lit (.int .u8 0), .lit (.int .u8 0)], .agg [.lit (.int .u8 0), .lit (.int .u8 0)], .agg [.lit (.int .u8 0), .lit (.int .u8 0)], .agg [.lit (.int .u8 0), .lit (.int .u8 0)], .agg [.lit (.int .u8 0), .lit (.int .u8 0)], .agg [.lit (.int .u8 0), .lit (.int .u8 0)], .agg [.lit (.int .u8 0), .lit (.int .u8 0)], .agg [.lit (.int .u8 0), .lit (.int .u8 0)], .agg [.lit (.int .u8 0), .lit (.int .u8 0)], .agg [.lit (.int .u8 0), .lit (.int .u8 0)]]
/-- One of Go's own tables, pinned by name: the form's constant. -/
def laid_unicode_utf8_first : DataW Unit := Go.Pinned.utf8First

/-- 'grillelaw03.TagSigns': WHATEVER THE INPUT: true; the input reads as it did. -/
def tagSignsSpec : ChangeSpec := { name := "tagSigns", fn := fun _ => fun
  | [d] => { results := [.lit (.bool true)], args := [d] }
  | _ => none }
def tagSignsRow : OpenClaim := { program := "ythgafcaoibfchaadoor", sum := "00e81b0269aae9aa2ea7dbc429fad737fe0f39da993ce0cf4c28593f4a1efd00", func := "grille/grillelaw03.TagSigns", spec := "tagSigns", inPlace := ["internal/bytealg.IndexByteString", "internal/bytealg.IndexString"], unfollowed := true, recurses := true, named := ["unicode/utf8.first", "unicode/utf8.acceptRanges", "internal/bytealg.MaxLen"], apart := false, laid := [("unicode/utf8.acceptRanges", laid_unicode_utf8_acceptRanges), ("unicode/utf8.first", laid_unicode_utf8_first)] }
def TagSignsSaid : Prop := tagSignsRow.holds Tryd.pinned (OpenSpec.ofChange tagSignsSpec)

/-- ITS FALSE NEIGHBOUR: 'it returns false'. Refute it at one input. -/
def tagSignsWrong : ChangeSpec := { name := "tagSigns", fn := fun _ => fun
  | [d] => { results := [.lit (.bool false)], args := [d] }
  | _ => none }
def TagSignsWrongFalsely : Prop := tagSignsRow.holds Tryd.pinned (OpenSpec.ofChange tagSignsWrong)

/-- 'grillelaw12.LatticeTells': WHATEVER THE INPUT: true; the input reads as it did. -/
def latticeTellsSpec : ChangeSpec := { name := "latticeTells", fn := fun _ => fun
  | [d1, d2, d3] => { results := [.lit (.bool true)], args := [d1, d2, d3] }
  | _ => none }
def latticeTellsRow : OpenClaim := { program := "ythgafcaoibfchaadoor", sum := "00e81b0269aae9aa2ea7dbc429fad737fe0f39da993ce0cf4c28593f4a1efd00", func := "grille/grillelaw12.LatticeTells", spec := "latticeTells", inPlace := ["internal/bytealg.IndexByteString", "internal/bytealg.IndexString", "internal/abi.NoEscape", "internal/bytealg.MakeNoZero"], unfollowed := true, recurses := true, named := ["internal/bytealg.MaxLen", "unicode/utf8.first", "unicode/utf8.acceptRanges"], apart := false, laid := [("unicode/utf8.acceptRanges", laid_unicode_utf8_acceptRanges), ("unicode/utf8.first", laid_unicode_utf8_first)] }
def LatticeTellsSaid : Prop := latticeTellsRow.holds Tryd.pinned (OpenSpec.ofChange latticeTellsSpec)

/-- ITS FALSE NEIGHBOUR: 'it returns false'. Refute it at one input. -/
def latticeTellsWrong : ChangeSpec := { name := "latticeTells", fn := fun _ => fun
  | [d1, d2, d3] => { results := [.lit (.bool false)], args := [d1, d2, d3] }
  | _ => none }
def LatticeTellsWrongFalsely : Prop := latticeTellsRow.holds Tryd.pinned (OpenSpec.ofChange latticeTellsWrong)

/-- 'grillelaw12.LatticeOrder': WHATEVER THE INPUT: true; the input reads as it did. -/
def latticeOrderSpec : ChangeSpec := { name := "latticeOrder", fn := fun _ => fun
  | [d1, d2, d3] => { results := [.lit (.bool true)], args := [d1, d2, d3] }
  | _ => none }
def latticeOrderRow : OpenClaim := { program := "ythgafcaoibfchaadoor", sum := "00e81b0269aae9aa2ea7dbc429fad737fe0f39da993ce0cf4c28593f4a1efd00", func := "grille/grillelaw12.LatticeOrder", spec := "latticeOrder", inPlace := ["internal/bytealg.IndexByteString", "internal/bytealg.IndexString", "internal/abi.NoEscape", "internal/bytealg.MakeNoZero"], unfollowed := true, recurses := true, named := ["internal/bytealg.MaxLen", "unicode/utf8.first", "unicode/utf8.acceptRanges"], apart := false, laid := [("unicode/utf8.acceptRanges", laid_unicode_utf8_acceptRanges), ("unicode/utf8.first", laid_unicode_utf8_first)] }
def LatticeOrderSaid : Prop := latticeOrderRow.holds Tryd.pinned (OpenSpec.ofChange latticeOrderSpec)

/-- ITS FALSE NEIGHBOUR: 'it returns false'. Refute it at one input. -/
def latticeOrderWrong : ChangeSpec := { name := "latticeOrder", fn := fun _ => fun
  | [d1, d2, d3] => { results := [.lit (.bool false)], args := [d1, d2, d3] }
  | _ => none }
def LatticeOrderWrongFalsely : Prop := latticeOrderRow.holds Tryd.pinned (OpenSpec.ofChange latticeOrderWrong)

/-- 'grillelaw12.LatticeBounds': WHATEVER THE INPUT: true; the input reads as it did. -/
def latticeBoundsSpec : ChangeSpec := { name := "latticeBounds", fn := fun _ => fun
  | [d1, d2, d3] => { results := [.lit (.bool true)], args := [d1, d2, d3] }
  | _ => none }
def latticeBoundsRow : OpenClaim := { program := "ythgafcaoibfchaadoor", sum := "00e81b0269aae9aa2ea7dbc429fad737fe0f39da993ce0cf4c28593f4a1efd00", func := "grille/grillelaw12.LatticeBounds", spec := "latticeBounds", inPlace := ["internal/bytealg.IndexByteString", "internal/bytealg.IndexString", "internal/abi.NoEscape", "internal/bytealg.MakeNoZero"], unfollowed := true, recurses := true, named := ["internal/bytealg.MaxLen", "unicode/utf8.first", "unicode/utf8.acceptRanges"], apart := false, laid := [("unicode/utf8.acceptRanges", laid_unicode_utf8_acceptRanges), ("unicode/utf8.first", laid_unicode_utf8_first)] }
def LatticeBoundsSaid : Prop := latticeBoundsRow.holds Tryd.pinned (OpenSpec.ofChange latticeBoundsSpec)

/-- ITS FALSE NEIGHBOUR: 'it returns false'. Refute it at one input. -/
def latticeBoundsWrong : ChangeSpec := { name := "latticeBounds", fn := fun _ => fun
  | [d1, d2, d3] => { results := [.lit (.bool false)], args := [d1, d2, d3] }
  | _ => none }
def LatticeBoundsWrongFalsely : Prop := latticeBoundsRow.holds Tryd.pinned (OpenSpec.ofChange latticeBoundsWrong)

/-- 'grillelaw12.LatticeAll': WHATEVER THE INPUT: true; the input reads as it did. -/
def latticeAllSpec : ChangeSpec := { name := "latticeAll", fn := fun _ => fun
  | [d1, d2] => { results := [.lit (.bool true)], args := [d1, d2] }
  | _ => none }
def latticeAllRow : OpenClaim := { program := "ythgafcaoibfchaadoor", sum := "00e81b0269aae9aa2ea7dbc429fad737fe0f39da993ce0cf4c28593f4a1efd00", func := "grille/grillelaw12.LatticeAll", spec := "latticeAll", inPlace := ["internal/bytealg.IndexByteString", "internal/bytealg.IndexString", "internal/abi.NoEscape", "internal/bytealg.MakeNoZero"], unfollowed := true, recurses := true, named := ["internal/bytealg.MaxLen", "unicode/utf8.first", "unicode/utf8.acceptRanges"], apart := false, laid := [("unicode/utf8.acceptRanges", laid_unicode_utf8_acceptRanges), ("unicode/utf8.first", laid_unicode_utf8_first)] }
def LatticeAllSaid : Prop := latticeAllRow.holds Tryd.pinned (OpenSpec.ofChange latticeAllSpec)

/-- ITS FALSE NEIGHBOUR: 'it returns false'. Refute it at one input. -/
def latticeAllWrong : ChangeSpec := { name := "latticeAll", fn := fun _ => fun
  | [d1, d2] => { results := [.lit (.bool false)], args := [d1, d2] }
  | _ => none }
def LatticeAllWrongFalsely : Prop := latticeAllRow.holds Tryd.pinned (OpenSpec.ofChange latticeAllWrong)

/-- 'grillelaw12.LatticeNames': WHATEVER THE INPUT: true; the input reads as it did. -/
def latticeNamesSpec : ChangeSpec := { name := "latticeNames", fn := fun _ => fun
  | [d1, d2, d3] => { results := [.lit (.bool true)], args := [d1, d2, d3] }
  | _ => none }
def latticeNamesRow : OpenClaim := { program := "ythgafcaoibfchaadoor", sum := "00e81b0269aae9aa2ea7dbc429fad737fe0f39da993ce0cf4c28593f4a1efd00", func := "grille/grillelaw12.LatticeNames", spec := "latticeNames", inPlace := ["internal/bytealg.IndexByteString", "internal/bytealg.IndexString", "internal/abi.NoEscape", "internal/bytealg.MakeNoZero"], unfollowed := true, recurses := true, named := ["internal/bytealg.MaxLen", "unicode/utf8.first", "unicode/utf8.acceptRanges"], apart := false, laid := [("unicode/utf8.acceptRanges", laid_unicode_utf8_acceptRanges), ("unicode/utf8.first", laid_unicode_utf8_first)] }
def LatticeNamesSaid : Prop := latticeNamesRow.holds Tryd.pinned (OpenSpec.ofChange latticeNamesSpec)

/-- ITS FALSE NEIGHBOUR: 'it returns false'. Refute it at one input. -/
def latticeNamesWrong : ChangeSpec := { name := "latticeNames", fn := fun _ => fun
  | [d1, d2, d3] => { results := [.lit (.bool false)], args := [d1, d2, d3] }
  | _ => none }
def LatticeNamesWrongFalsely : Prop := latticeNamesRow.holds Tryd.pinned (OpenSpec.ofChange latticeNamesWrong)

/-- 'grillelaw12.LatticeBack': WHATEVER THE INPUT: true; the input reads as it did. -/
def latticeBackSpec : ChangeSpec := { name := "latticeBack", fn := fun _ => fun
  | [d1, d2, d3] => { results := [.lit (.bool true)], args := [d1, d2, d3] }
  | _ => none }
def latticeBackRow : OpenClaim := { program := "ythgafcaoibfchaadoor", sum := "00e81b0269aae9aa2ea7dbc429fad737fe0f39da993ce0cf4c28593f4a1efd00", func := "grille/grillelaw12.LatticeBack", spec := "latticeBack", inPlace := ["internal/bytealg.IndexByteString", "internal/bytealg.IndexString", "internal/abi.NoEscape", "internal/bytealg.MakeNoZero"], unfollowed := true, recurses := true, named := ["internal/bytealg.MaxLen", "unicode/utf8.first", "unicode/utf8.acceptRanges"], apart := false, laid := [("unicode/utf8.acceptRanges", laid_unicode_utf8_acceptRanges), ("unicode/utf8.first", laid_unicode_utf8_first)] }
def LatticeBackSaid : Prop := latticeBackRow.holds Tryd.pinned (OpenSpec.ofChange latticeBackSpec)

/-- ITS FALSE NEIGHBOUR: 'it returns false'. Refute it at one input. -/
def latticeBackWrong : ChangeSpec := { name := "latticeBack", fn := fun _ => fun
  | [d1, d2, d3] => { results := [.lit (.bool false)], args := [d1, d2, d3] }
  | _ => none }
def LatticeBackWrongFalsely : Prop := latticeBackRow.holds Tryd.pinned (OpenSpec.ofChange latticeBackWrong)

/-- 'grillelaw14.NfaRuns': WHATEVER THE INPUT: true; the input reads as it did. -/
def nfaRunsSpec : ChangeSpec := { name := "nfaRuns", fn := fun _ => fun
  | [d1, d2, d3] => { results := [.lit (.bool true)], args := [d1, d2, d3] }
  | _ => none }
def nfaRunsRow : OpenClaim := { program := "ythgafcaoibfchaadoor", sum := "00e81b0269aae9aa2ea7dbc429fad737fe0f39da993ce0cf4c28593f4a1efd00", func := "grille/grillelaw14.NfaRuns", spec := "nfaRuns", unfollowed := true, recurses := true, named := ["unicode/utf8.first", "unicode/utf8.acceptRanges"], apart := false, laid := [("unicode/utf8.acceptRanges", laid_unicode_utf8_acceptRanges), ("unicode/utf8.first", laid_unicode_utf8_first)] }
def NfaRunsSaid : Prop := nfaRunsRow.holds Tryd.pinned (OpenSpec.ofChange nfaRunsSpec)

/-- ITS FALSE NEIGHBOUR: 'it returns false'. Refute it at one input. -/
def nfaRunsWrong : ChangeSpec := { name := "nfaRuns", fn := fun _ => fun
  | [d1, d2, d3] => { results := [.lit (.bool false)], args := [d1, d2, d3] }
  | _ => none }
def NfaRunsWrongFalsely : Prop := nfaRunsRow.holds Tryd.pinned (OpenSpec.ofChange nfaRunsWrong)

/-- 'grillelaw14.NfaApart': WHATEVER THE INPUT: true; the input reads as it did. -/
def nfaApartSpec : ChangeSpec := { name := "nfaApart", fn := fun _ => fun
  | [d1, d2] => { results := [.lit (.bool true)], args := [d1, d2] }
  | _ => none }
def nfaApartRow : OpenClaim := { program := "ythgafcaoibfchaadoor", sum := "00e81b0269aae9aa2ea7dbc429fad737fe0f39da993ce0cf4c28593f4a1efd00", func := "grille/grillelaw14.NfaApart", spec := "nfaApart", unfollowed := true, recurses := true, named := ["unicode/utf8.first", "unicode/utf8.acceptRanges"], apart := false, laid := [("unicode/utf8.acceptRanges", laid_unicode_utf8_acceptRanges), ("unicode/utf8.first", laid_unicode_utf8_first)] }
def NfaApartSaid : Prop := nfaApartRow.holds Tryd.pinned (OpenSpec.ofChange nfaApartSpec)

/-- ITS FALSE NEIGHBOUR: 'it returns false'. Refute it at one input. -/
def nfaApartWrong : ChangeSpec := { name := "nfaApart", fn := fun _ => fun
  | [d1, d2] => { results := [.lit (.bool false)], args := [d1, d2] }
  | _ => none }
def NfaApartWrongFalsely : Prop := nfaApartRow.holds Tryd.pinned (OpenSpec.ofChange nfaApartWrong)

/-- 'grillelaw14.NfaLike': WHATEVER THE INPUT: true; the input reads as it did. -/
def nfaLikeSpec : ChangeSpec := { name := "nfaLike", fn := fun _ => fun
  | [d1, d2] => { results := [.lit (.bool true)], args := [d1, d2] }
  | _ => none }
def nfaLikeRow : OpenClaim := { program := "ythgafcaoibfchaadoor", sum := "00e81b0269aae9aa2ea7dbc429fad737fe0f39da993ce0cf4c28593f4a1efd00", func := "grille/grillelaw14.NfaLike", spec := "nfaLike", unfollowed := true, recurses := true, named := ["unicode/utf8.first", "unicode/utf8.acceptRanges"], apart := false, laid := [("unicode/utf8.acceptRanges", laid_unicode_utf8_acceptRanges), ("unicode/utf8.first", laid_unicode_utf8_first)] }
def NfaLikeSaid : Prop := nfaLikeRow.holds Tryd.pinned (OpenSpec.ofChange nfaLikeSpec)

/-- ITS FALSE NEIGHBOUR: 'it returns false'. Refute it at one input. -/
def nfaLikeWrong : ChangeSpec := { name := "nfaLike", fn := fun _ => fun
  | [d1, d2] => { results := [.lit (.bool false)], args := [d1, d2] }
  | _ => none }
def NfaLikeWrongFalsely : Prop := nfaLikeRow.holds Tryd.pinned (OpenSpec.ofChange nfaLikeWrong)

/-- 'grillelaw14.NfaSteps': WHATEVER THE INPUT: true; the input reads as it did. -/
def nfaStepsSpec : ChangeSpec := { name := "nfaSteps", fn := fun _ => fun
  | [d1, d2, d3] => { results := [.lit (.bool true)], args := [d1, d2, d3] }
  | _ => none }
def nfaStepsRow : OpenClaim := { program := "ythgafcaoibfchaadoor", sum := "00e81b0269aae9aa2ea7dbc429fad737fe0f39da993ce0cf4c28593f4a1efd00", func := "grille/grillelaw14.NfaSteps", spec := "nfaSteps", unfollowed := true, recurses := true, named := ["unicode/utf8.first", "unicode/utf8.acceptRanges"], apart := false, laid := [("unicode/utf8.acceptRanges", laid_unicode_utf8_acceptRanges), ("unicode/utf8.first", laid_unicode_utf8_first)] }
def NfaStepsSaid : Prop := nfaStepsRow.holds Tryd.pinned (OpenSpec.ofChange nfaStepsSpec)

/-- ITS FALSE NEIGHBOUR: 'it returns false'. Refute it at one input. -/
def nfaStepsWrong : ChangeSpec := { name := "nfaSteps", fn := fun _ => fun
  | [d1, d2, d3] => { results := [.lit (.bool false)], args := [d1, d2, d3] }
  | _ => none }
def NfaStepsWrongFalsely : Prop := nfaStepsRow.holds Tryd.pinned (OpenSpec.ofChange nfaStepsWrong)

/- THE SECOND FORM. 'bulk': how many values and letters a reading holds, each counted each time it is reached (what is shared counts as often as it is met; a slice's spare places count too). A statement '..UptoSaid' is the law's where the arguments, and the package variables that the reading takes, are together of bulk at most 1048576: NARROWER than '..Said'. Prove '..Said' where nothing that the law and all that it calls make is longer than what came in: it says more and counts as full. Else prove '..UptoSaid'. A law counts once. -/
mutual
def uptoBulk {H : Type} : DataW H → Nat
  | .lit (.string bytes) => bytes.length + 1
  | .lit _ => 1
  | .nil => 1
  | .ptr d => uptoBulk d + 1
  | .slice elems spare => uptoBulkAll elems + uptoBulkAll spare + 1
  | .agg parts => uptoBulkAll parts + 1
  | .iface _ d => uptoBulk d + 1
  | .map entries => uptoBulkEntries entries + 1
  | .held _ => 1
def uptoBulkAll {H : Type} : List (DataW H) → Nat
  | [] => 0
  | d :: r => uptoBulk d + uptoBulkAll r
def uptoBulkEntries {H : Type} : List (Lit × DataW H) → Nat
  | [] => 0
  | x :: r => uptoBulkEntry x + uptoBulkEntries r
def uptoBulkEntry {H : Type} : Lit × DataW H → Nat
  | (.string bytes, d) => bytes.length + uptoBulk d + 1
  | (_, d) => uptoBulk d + 1
 end
def uptoSmall : (H : Type) → List (DataW H) → Bool := fun _ ds => decide (uptoBulkAll ds ≤ 1048576)
def OpenSpec.upto (s : _root_.Go.ChangeSpec) : _root_.Go.OpenSpec := { _root_.Go.OpenSpec.ofChange s with cond := some uptoSmall }

/-- 'grillelaw03.TagSigns', WHERE WHAT IT READS IS OF BULK AT MOST 1048576: true; the input reads as it did. -/
def tagSignsUptoRow : OpenClaim := { program := "ythgafcaoibfchaadoor", sum := "00e81b0269aae9aa2ea7dbc429fad737fe0f39da993ce0cf4c28593f4a1efd00", func := "grille/grillelaw03.TagSigns", spec := "tagSigns", inPlace := ["internal/bytealg.IndexByteString", "internal/bytealg.IndexString"], unfollowed := true, recurses := true, named := ["unicode/utf8.first", "unicode/utf8.acceptRanges", "internal/bytealg.MaxLen"], apart := false, laid := [("unicode/utf8.acceptRanges", laid_unicode_utf8_acceptRanges), ("unicode/utf8.first", laid_unicode_utf8_first)], narrowed := true }
def TagSignsUptoSaid : Prop := tagSignsUptoRow.holds Tryd.pinned (OpenSpec.upto tagSignsSpec)

/-- 'grillelaw12.LatticeTells', WHERE WHAT IT READS IS OF BULK AT MOST 1048576: true; the input reads as it did. -/
def latticeTellsUptoRow : OpenClaim := { program := "ythgafcaoibfchaadoor", sum := "00e81b0269aae9aa2ea7dbc429fad737fe0f39da993ce0cf4c28593f4a1efd00", func := "grille/grillelaw12.LatticeTells", spec := "latticeTells", inPlace := ["internal/bytealg.IndexByteString", "internal/bytealg.IndexString", "internal/abi.NoEscape", "internal/bytealg.MakeNoZero"], unfollowed := true, recurses := true, named := ["internal/bytealg.MaxLen", "unicode/utf8.first", "unicode/utf8.acceptRanges"], apart := false, laid := [("unicode/utf8.acceptRanges", laid_unicode_utf8_acceptRanges), ("unicode/utf8.first", laid_unicode_utf8_first)], narrowed := true }
def LatticeTellsUptoSaid : Prop := latticeTellsUptoRow.holds Tryd.pinned (OpenSpec.upto latticeTellsSpec)

/-- 'grillelaw12.LatticeOrder', WHERE WHAT IT READS IS OF BULK AT MOST 1048576: true; the input reads as it did. -/
def latticeOrderUptoRow : OpenClaim := { program := "ythgafcaoibfchaadoor", sum := "00e81b0269aae9aa2ea7dbc429fad737fe0f39da993ce0cf4c28593f4a1efd00", func := "grille/grillelaw12.LatticeOrder", spec := "latticeOrder", inPlace := ["internal/bytealg.IndexByteString", "internal/bytealg.IndexString", "internal/abi.NoEscape", "internal/bytealg.MakeNoZero"], unfollowed := true, recurses := true, named := ["internal/bytealg.MaxLen", "unicode/utf8.first", "unicode/utf8.acceptRanges"], apart := false, laid := [("unicode/utf8.acceptRanges", laid_unicode_utf8_acceptRanges), ("unicode/utf8.first", laid_unicode_utf8_first)], narrowed := true }
def LatticeOrderUptoSaid : Prop := latticeOrderUptoRow.holds Tryd.pinned (OpenSpec.upto latticeOrderSpec)

/-- 'grillelaw12.LatticeBounds', WHERE WHAT IT READS IS OF BULK AT MOST 1048576: true; the input reads as it did. -/
def latticeBoundsUptoRow : OpenClaim := { program := "ythgafcaoibfchaadoor", sum := "00e81b0269aae9aa2ea7dbc429fad737fe0f39da993ce0cf4c28593f4a1efd00", func := "grille/grillelaw12.LatticeBounds", spec := "latticeBounds", inPlace := ["internal/bytealg.IndexByteString", "internal/bytealg.IndexString", "internal/abi.NoEscape", "internal/bytealg.MakeNoZero"], unfollowed := true, recurses := true, named := ["internal/bytealg.MaxLen", "unicode/utf8.first", "unicode/utf8.acceptRanges"], apart := false, laid := [("unicode/utf8.acceptRanges", laid_unicode_utf8_acceptRanges), ("unicode/utf8.first", laid_unicode_utf8_first)], narrowed := true }
def LatticeBoundsUptoSaid : Prop := latticeBoundsUptoRow.holds Tryd.pinned (OpenSpec.upto latticeBoundsSpec)

/-- 'grillelaw12.LatticeAll', WHERE WHAT IT READS IS OF BULK AT MOST 1048576: true; the input reads as it did. -/
def latticeAllUptoRow : OpenClaim := { program := "ythgafcaoibfchaadoor", sum := "00e81b0269aae9aa2ea7dbc429fad737fe0f39da993ce0cf4c28593f4a1efd00", func := "grille/grillelaw12.LatticeAll", spec := "latticeAll", inPlace := ["internal/bytealg.IndexByteString", "internal/bytealg.IndexString", "internal/abi.NoEscape", "internal/bytealg.MakeNoZero"], unfollowed := true, recurses := true, named := ["internal/bytealg.MaxLen", "unicode/utf8.first", "unicode/utf8.acceptRanges"], apart := false, laid := [("unicode/utf8.acceptRanges", laid_unicode_utf8_acceptRanges), ("unicode/utf8.first", laid_unicode_utf8_first)], narrowed := true }
def LatticeAllUptoSaid : Prop := latticeAllUptoRow.holds Tryd.pinned (OpenSpec.upto latticeAllSpec)

/-- 'grillelaw12.LatticeNames', WHERE WHAT IT READS IS OF BULK AT MOST 1048576: true; the input reads as it did. -/
def latticeNamesUptoRow : OpenClaim := { program := "ythgafcaoibfchaadoor", sum := "00e81b0269aae9aa2ea7dbc429fad737fe0f39da993ce0cf4c28593f4a1efd00", func := "grille/grillelaw12.LatticeNames", spec := "latticeNames", inPlace := ["internal/bytealg.IndexByteString", "internal/bytealg.IndexString", "internal/abi.NoEscape", "internal/bytealg.MakeNoZero"], unfollowed := true, recurses := true, named := ["internal/bytealg.MaxLen", "unicode/utf8.first", "unicode/utf8.acceptRanges"], apart := false, laid := [("unicode/utf8.acceptRanges", laid_unicode_utf8_acceptRanges), ("unicode/utf8.first", laid_unicode_utf8_first)], narrowed := true }
def LatticeNamesUptoSaid : Prop := latticeNamesUptoRow.holds Tryd.pinned (OpenSpec.upto latticeNamesSpec)

/-- 'grillelaw12.LatticeBack', WHERE WHAT IT READS IS OF BULK AT MOST 1048576: true; the input reads as it did. -/
def latticeBackUptoRow : OpenClaim := { program := "ythgafcaoibfchaadoor", sum := "00e81b0269aae9aa2ea7dbc429fad737fe0f39da993ce0cf4c28593f4a1efd00", func := "grille/grillelaw12.LatticeBack", spec := "latticeBack", inPlace := ["internal/bytealg.IndexByteString", "internal/bytealg.IndexString", "internal/abi.NoEscape", "internal/bytealg.MakeNoZero"], unfollowed := true, recurses := true, named := ["internal/bytealg.MaxLen", "unicode/utf8.first", "unicode/utf8.acceptRanges"], apart := false, laid := [("unicode/utf8.acceptRanges", laid_unicode_utf8_acceptRanges), ("unicode/utf8.first", laid_unicode_utf8_first)], narrowed := true }
def LatticeBackUptoSaid : Prop := latticeBackUptoRow.holds Tryd.pinned (OpenSpec.upto latticeBackSpec)

/-- 'grillelaw14.NfaRuns', WHERE WHAT IT READS IS OF BULK AT MOST 1048576: true; the input reads as it did. -/
def nfaRunsUptoRow : OpenClaim := { program := "ythgafcaoibfchaadoor", sum := "00e81b0269aae9aa2ea7dbc429fad737fe0f39da993ce0cf4c28593f4a1efd00", func := "grille/grillelaw14.NfaRuns", spec := "nfaRuns", unfollowed := true, recurses := true, named := ["unicode/utf8.first", "unicode/utf8.acceptRanges"], apart := false, laid := [("unicode/utf8.acceptRanges", laid_unicode_utf8_acceptRanges), ("unicode/utf8.first", laid_unicode_utf8_first)], narrowed := true }
def NfaRunsUptoSaid : Prop := nfaRunsUptoRow.holds Tryd.pinned (OpenSpec.upto nfaRunsSpec)

/-- 'grillelaw14.NfaApart', WHERE WHAT IT READS IS OF BULK AT MOST 1048576: true; the input reads as it did. -/
def nfaApartUptoRow : OpenClaim := { program := "ythgafcaoibfchaadoor", sum := "00e81b0269aae9aa2ea7dbc429fad737fe0f39da993ce0cf4c28593f4a1efd00", func := "grille/grillelaw14.NfaApart", spec := "nfaApart", unfollowed := true, recurses := true, named := ["unicode/utf8.first", "unicode/utf8.acceptRanges"], apart := false, laid := [("unicode/utf8.acceptRanges", laid_unicode_utf8_acceptRanges), ("unicode/utf8.first", laid_unicode_utf8_first)], narrowed := true }
def NfaApartUptoSaid : Prop := nfaApartUptoRow.holds Tryd.pinned (OpenSpec.upto nfaApartSpec)

/-- 'grillelaw14.NfaLike', WHERE WHAT IT READS IS OF BULK AT MOST 1048576: true; the input reads as it did. -/
def nfaLikeUptoRow : OpenClaim := { program := "ythgafcaoibfchaadoor", sum := "00e81b0269aae9aa2ea7dbc429fad737fe0f39da993ce0cf4c28593f4a1efd00", func := "grille/grillelaw14.NfaLike", spec := "nfaLike", unfollowed := true, recurses := true, named := ["unicode/utf8.first", "unicode/utf8.acceptRanges"], apart := false, laid := [("unicode/utf8.acceptRanges", laid_unicode_utf8_acceptRanges), ("unicode/utf8.first", laid_unicode_utf8_first)], narrowed := true }
def NfaLikeUptoSaid : Prop := nfaLikeUptoRow.holds Tryd.pinned (OpenSpec.upto nfaLikeSpec)

/-- 'grillelaw14.NfaSteps', WHERE WHAT IT READS IS OF BULK AT MOST 1048576: true; the input reads as it did. -/
def nfaStepsUptoRow : OpenClaim := { program := "ythgafcaoibfchaadoor", sum := "00e81b0269aae9aa2ea7dbc429fad737fe0f39da993ce0cf4c28593f4a1efd00", func := "grille/grillelaw14.NfaSteps", spec := "nfaSteps", unfollowed := true, recurses := true, named := ["unicode/utf8.first", "unicode/utf8.acceptRanges"], apart := false, laid := [("unicode/utf8.acceptRanges", laid_unicode_utf8_acceptRanges), ("unicode/utf8.first", laid_unicode_utf8_first)], narrowed := true }
def NfaStepsUptoSaid : Prop := nfaStepsUptoRow.holds Tryd.pinned (OpenSpec.upto nfaStepsSpec)

end Rows
end Go.Proofs.YthgafcaoibfchaaDoor
