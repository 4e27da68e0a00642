/-
  NARROWER THAN 'FOR EVERY INPUT', by the rows' own cells (each row's printed sentence says how): TextTells: laid · TextMakes: laid · TextBack: laid · TextBreaks: laid · TextMarks: laid · TextPlain: laid · TextJoins: laid.
  DERIVED. THE GIVEN ROWS OF THIS SEAT. 7 by the template 'for every input the law returns true; each argument reads behind the call as it read before'; 0 by the template 'total and deterministic' (their statements: YtdbkefgdeenjoaaDoorTotals.lean).
  GIVEN WITH THE SEED: the statements are not yours to turn. If you find one false, say at which input.
  Laid BY PROGRAM, IN A SANDBOX (cutbox-rows.mjs): the forced cells as the released guide's own fill.sh prints them over the translation aaf2c20d8d060b57… (all of the seat's roots in one cut). By AI agents, Wed Nov 11 2026. No macro, syntax, notation, axiom, sorry.
-/
import Derived.Test.YtdbkefgdeenjoaaDoorChecked
import GoSem.PinnedTables
import GoSem.Claim
import GoSem.ClaimJoined
import GoSem.ClaimMapViews
import Derived.JoinedTies
import Derived.KernelRfl
namespace Go.Proofs.YtdbkefgdeenjoaaDoor
/- THE CELL 'sum', in the pinned program and in every row, IS THE sha256 OF THE DUMP (.gsa) THAT YtdbkefgdeenjoaaDoorProg.lean LOADS. Nothing in Lean hashes anything: it is a label: what it is worth is what the hold of that sum in a sandbox is worth. -/
noncomputable def Tryd.pinned : Pinned := { name := "ytdbkefgdeenjoaadoor", sum := "aaf2c20d8d060b574561b2dd7e481174c01276feb4057e53edf23e8bd4ac1e7f", checked := Tryd.checked }
namespace Rows
def none {H : Type} : Left H := { results := [], args := [] }

/- WHAT THE LISTED PACKAGE-LEVEL VARIABLES READ AS WHEN THE CALL BEGINS. Each datum BY PROGRAM (the guide's laid-datum.mjs) off the statement by which the dump's own 'gosem.cut.vars' lays the variable. In a bare row this is a premise. The card (YtdbkefgdeenjoaaDoorCards.lean) ties it to the program's text. -/
def laid_unicode_utf8_acceptRanges {H : Type} : DataW H := .agg [.agg [.lit (.int .u8 128), .lit (.int .u8 191)], .agg [.lit (.int .u8 160), .lit (.int .u8 191)], .agg [.lit (.int .u8 128), .lit (.int .u8 159)], .agg [.lit (.int .u8 144), .lit (.int .u8 191)], .agg [.lit (.int .u8 128), .lit (.int .u8 143)], .agg [.lit (.int .u8 0), .lit (.int .u8 0)], .agg [.lit (.int .u8 0), .lit (.int .u8 0)], .agg [.lit (.int .u8 0), .lit (.int .u8 0)], .agg [.lit (.int .u8 0), .lit (.int .u8 0)], .agg [.lit (.int .u8 0), .lit (.int .u8 0)], .agg [.lit (.int .u8 0), .lit (.int .u8 0)], .agg [.lit (.int .u8 0), .lit (.int .u8 0)], .agg [.lit (.int .u8 0), .lit (.int .u8 0)], .agg [.lit (.int .u8 0), .lit (.int .u8 0)], .agg [.lit (.int .u8 0), .lit (.int .u8 0)], .agg [.lit (.int .u8 0), .lit (.int .u8 0)]]
/-- One of Go's own tables, pinned by name: the form's constant. -/
def laid_unicode_utf8_first : DataW Unit := Go.Pinned.utf8First

/-- 'grillelaw01.TextTells': WHATEVER THE INPUT: true; the input reads as it did. -/
def textTellsSpec : ChangeSpec := { name := "textTells", fn := fun _ => fun
  | [d] => { results := [.lit (.bool true)], args := [d] }
  | _ => none }
def textTellsRow : OpenClaim := { program := "ytdbkefgdeenjoaadoor", sum := "aaf2c20d8d060b574561b2dd7e481174c01276feb4057e53edf23e8bd4ac1e7f", func := "grille/grillelaw01.TextTells", spec := "textTells", inPlace := ["internal/abi.NoEscape"], unfollowed := true, recurses := true, named := ["unicode/utf8.first", "unicode/utf8.acceptRanges"], apart := false, laid := [("unicode/utf8.acceptRanges", laid_unicode_utf8_acceptRanges), ("unicode/utf8.first", laid_unicode_utf8_first)] }
def TextTellsSaid : Prop := textTellsRow.holds Tryd.pinned (OpenSpec.ofChange textTellsSpec)

/-- ITS FALSE NEIGHBOUR: 'it returns false'. Refute it at one input. -/
def textTellsWrong : ChangeSpec := { name := "textTells", fn := fun _ => fun
  | [d] => { results := [.lit (.bool false)], args := [d] }
  | _ => none }
def TextTellsWrongFalsely : Prop := textTellsRow.holds Tryd.pinned (OpenSpec.ofChange textTellsWrong)

/-- 'grillelaw01.TextMakes': WHATEVER THE INPUT: true; the input reads as it did. -/
def textMakesSpec : ChangeSpec := { name := "textMakes", fn := fun _ => fun
  | [d1, d2] => { results := [.lit (.bool true)], args := [d1, d2] }
  | _ => none }
def textMakesRow : OpenClaim := { program := "ytdbkefgdeenjoaadoor", sum := "aaf2c20d8d060b574561b2dd7e481174c01276feb4057e53edf23e8bd4ac1e7f", func := "grille/grillelaw01.TextMakes", spec := "textMakes", inPlace := ["internal/abi.NoEscape"], unfollowed := true, recurses := true, named := ["unicode/utf8.first", "unicode/utf8.acceptRanges"], apart := false, laid := [("unicode/utf8.acceptRanges", laid_unicode_utf8_acceptRanges), ("unicode/utf8.first", laid_unicode_utf8_first)] }
def TextMakesSaid : Prop := textMakesRow.holds Tryd.pinned (OpenSpec.ofChange textMakesSpec)

/-- ITS FALSE NEIGHBOUR: 'it returns false'. Refute it at one input. -/
def textMakesWrong : ChangeSpec := { name := "textMakes", fn := fun _ => fun
  | [d1, d2] => { results := [.lit (.bool false)], args := [d1, d2] }
  | _ => none }
def TextMakesWrongFalsely : Prop := textMakesRow.holds Tryd.pinned (OpenSpec.ofChange textMakesWrong)

/-- 'grillelaw01.TextBack': WHATEVER THE INPUT: true; the input reads as it did. -/
def textBackSpec : ChangeSpec := { name := "textBack", fn := fun _ => fun
  | [d] => { results := [.lit (.bool true)], args := [d] }
  | _ => none }
def textBackRow : OpenClaim := { program := "ytdbkefgdeenjoaadoor", sum := "aaf2c20d8d060b574561b2dd7e481174c01276feb4057e53edf23e8bd4ac1e7f", func := "grille/grillelaw01.TextBack", spec := "textBack", inPlace := ["internal/abi.NoEscape"], unfollowed := true, recurses := true, named := ["unicode/utf8.first", "unicode/utf8.acceptRanges"], apart := false, laid := [("unicode/utf8.acceptRanges", laid_unicode_utf8_acceptRanges), ("unicode/utf8.first", laid_unicode_utf8_first)] }
def TextBackSaid : Prop := textBackRow.holds Tryd.pinned (OpenSpec.ofChange textBackSpec)

/-- ITS FALSE NEIGHBOUR: 'it returns false'. Refute it at one input. -/
def textBackWrong : ChangeSpec := { name := "textBack", fn := fun _ => fun
  | [d] => { results := [.lit (.bool false)], args := [d] }
  | _ => none }
def TextBackWrongFalsely : Prop := textBackRow.holds Tryd.pinned (OpenSpec.ofChange textBackWrong)

/-- 'grillelaw01.TextBreaks': WHATEVER THE INPUT: true; the input reads as it did. -/
def textBreaksSpec : ChangeSpec := { name := "textBreaks", fn := fun _ => fun
  | [d] => { results := [.lit (.bool true)], args := [d] }
  | _ => none }
def textBreaksRow : OpenClaim := { program := "ytdbkefgdeenjoaadoor", sum := "aaf2c20d8d060b574561b2dd7e481174c01276feb4057e53edf23e8bd4ac1e7f", func := "grille/grillelaw01.TextBreaks", spec := "textBreaks", inPlace := ["internal/abi.NoEscape"], unfollowed := true, recurses := true, named := ["unicode/utf8.first", "unicode/utf8.acceptRanges"], apart := false, laid := [("unicode/utf8.acceptRanges", laid_unicode_utf8_acceptRanges), ("unicode/utf8.first", laid_unicode_utf8_first)] }
def TextBreaksSaid : Prop := textBreaksRow.holds Tryd.pinned (OpenSpec.ofChange textBreaksSpec)

/-- ITS FALSE NEIGHBOUR: 'it returns false'. Refute it at one input. -/
def textBreaksWrong : ChangeSpec := { name := "textBreaks", fn := fun _ => fun
  | [d] => { results := [.lit (.bool false)], args := [d] }
  | _ => none }
def TextBreaksWrongFalsely : Prop := textBreaksRow.holds Tryd.pinned (OpenSpec.ofChange textBreaksWrong)

/-- 'grillelaw01.TextMarks': WHATEVER THE INPUT: true; the input reads as it did. -/
def textMarksSpec : ChangeSpec := { name := "textMarks", fn := fun _ => fun
  | [d1, d2] => { results := [.lit (.bool true)], args := [d1, d2] }
  | _ => none }
def textMarksRow : OpenClaim := { program := "ytdbkefgdeenjoaadoor", sum := "aaf2c20d8d060b574561b2dd7e481174c01276feb4057e53edf23e8bd4ac1e7f", func := "grille/grillelaw01.TextMarks", spec := "textMarks", inPlace := ["internal/abi.NoEscape"], unfollowed := true, recurses := true, named := ["unicode/utf8.first", "unicode/utf8.acceptRanges"], apart := false, laid := [("unicode/utf8.acceptRanges", laid_unicode_utf8_acceptRanges), ("unicode/utf8.first", laid_unicode_utf8_first)] }
def TextMarksSaid : Prop := textMarksRow.holds Tryd.pinned (OpenSpec.ofChange textMarksSpec)

/-- ITS FALSE NEIGHBOUR: 'it returns false'. Refute it at one input. -/
def textMarksWrong : ChangeSpec := { name := "textMarks", fn := fun _ => fun
  | [d1, d2] => { results := [.lit (.bool false)], args := [d1, d2] }
  | _ => none }
def TextMarksWrongFalsely : Prop := textMarksRow.holds Tryd.pinned (OpenSpec.ofChange textMarksWrong)

/-- 'grillelaw01.TextPlain': WHATEVER THE INPUT: true; the input reads as it did. -/
def textPlainSpec : ChangeSpec := { name := "textPlain", fn := fun _ => fun
  | [d] => { results := [.lit (.bool true)], args := [d] }
  | _ => none }
def textPlainRow : OpenClaim := { program := "ytdbkefgdeenjoaadoor", sum := "aaf2c20d8d060b574561b2dd7e481174c01276feb4057e53edf23e8bd4ac1e7f", func := "grille/grillelaw01.TextPlain", spec := "textPlain", inPlace := ["internal/abi.NoEscape"], unfollowed := true, recurses := true, named := ["unicode/utf8.first", "unicode/utf8.acceptRanges"], apart := false, laid := [("unicode/utf8.acceptRanges", laid_unicode_utf8_acceptRanges), ("unicode/utf8.first", laid_unicode_utf8_first)] }
def TextPlainSaid : Prop := textPlainRow.holds Tryd.pinned (OpenSpec.ofChange textPlainSpec)

/-- ITS FALSE NEIGHBOUR: 'it returns false'. Refute it at one input. -/
def textPlainWrong : ChangeSpec := { name := "textPlain", fn := fun _ => fun
  | [d] => { results := [.lit (.bool false)], args := [d] }
  | _ => none }
def TextPlainWrongFalsely : Prop := textPlainRow.holds Tryd.pinned (OpenSpec.ofChange textPlainWrong)

/-- 'grillelaw01.TextJoins': WHATEVER THE INPUT: true; the input reads as it did. -/
def textJoinsSpec : ChangeSpec := { name := "textJoins", fn := fun _ => fun
  | [d1, d2] => { results := [.lit (.bool true)], args := [d1, d2] }
  | _ => none }
def textJoinsRow : OpenClaim := { program := "ytdbkefgdeenjoaadoor", sum := "aaf2c20d8d060b574561b2dd7e481174c01276feb4057e53edf23e8bd4ac1e7f", func := "grille/grillelaw01.TextJoins", spec := "textJoins", inPlace := ["internal/abi.NoEscape"], unfollowed := true, recurses := true, named := ["unicode/utf8.first", "unicode/utf8.acceptRanges"], apart := false, laid := [("unicode/utf8.acceptRanges", laid_unicode_utf8_acceptRanges), ("unicode/utf8.first", laid_unicode_utf8_first)] }
def TextJoinsSaid : Prop := textJoinsRow.holds Tryd.pinned (OpenSpec.ofChange textJoinsSpec)

/-- ITS FALSE NEIGHBOUR: 'it returns false'. Refute it at one input. -/
def textJoinsWrong : ChangeSpec := { name := "textJoins", fn := fun _ => fun
  | [d1, d2] => { results := [.lit (.bool false)], args := [d1, d2] }
  | _ => none }
def TextJoinsWrongFalsely : Prop := textJoinsRow.holds Tryd.pinned (OpenSpec.ofChange textJoinsWrong)

/- THE SECOND FORM. 'bulk': how many values and letters a reading holds, each counted each time it is reached (what is shared counts as often as it is met; a slice's spare places count too). A statement '..UptoSaid' is the law's where the arguments, and the package variables that the reading takes, are together of bulk at most 1048576: NARROWER than '..Said'. Prove '..Said' where nothing that the law and all that it calls make is longer than what came in: it says more and counts as full. Else prove '..UptoSaid'. A law counts once. -/
mutual
def uptoBulk {H : Type} : DataW H → Nat
  | .lit (.string bytes) => bytes.length + 1
  | .lit _ => 1
  | .nil => 1
  | .ptr d => uptoBulk d + 1
  | .slice elems spare => uptoBulkAll elems + uptoBulkAll spare + 1
  | .agg parts => uptoBulkAll parts + 1
  | .iface _ d => uptoBulk d + 1
  | .map entries => uptoBulkEntries entries + 1
  | .held _ => 1
def uptoBulkAll {H : Type} : List (DataW H) → Nat
  | [] => 0
  | d :: r => uptoBulk d + uptoBulkAll r
def uptoBulkEntries {H : Type} : List (Lit × DataW H) → Nat
  | [] => 0
  | x :: r => uptoBulkEntry x + uptoBulkEntries r
def uptoBulkEntry {H : Type} : Lit × DataW H → Nat
  | (.string bytes, d) => bytes.length + uptoBulk d + 1
  | (_, d) => uptoBulk d + 1
 end
def uptoSmall : (H : Type) → List (DataW H) → Bool := fun _ ds => decide (uptoBulkAll ds ≤ 1048576)
def OpenSpec.upto (s : _root_.Go.ChangeSpec) : _root_.Go.OpenSpec := { _root_.Go.OpenSpec.ofChange s with cond := some uptoSmall }

/-- 'grillelaw01.TextTells', WHERE WHAT IT READS IS OF BULK AT MOST 1048576: true; the input reads as it did. -/
def textTellsUptoRow : OpenClaim := { program := "ytdbkefgdeenjoaadoor", sum := "aaf2c20d8d060b574561b2dd7e481174c01276feb4057e53edf23e8bd4ac1e7f", func := "grille/grillelaw01.TextTells", spec := "textTells", inPlace := ["internal/abi.NoEscape"], unfollowed := true, recurses := true, named := ["unicode/utf8.first", "unicode/utf8.acceptRanges"], apart := false, laid := [("unicode/utf8.acceptRanges", laid_unicode_utf8_acceptRanges), ("unicode/utf8.first", laid_unicode_utf8_first)], narrowed := true }
def TextTellsUptoSaid : Prop := textTellsUptoRow.holds Tryd.pinned (OpenSpec.upto textTellsSpec)

/-- 'grillelaw01.TextMakes', WHERE WHAT IT READS IS OF BULK AT MOST 1048576: true; the input reads as it did. -/
def textMakesUptoRow : OpenClaim := { program := "ytdbkefgdeenjoaadoor", sum := "aaf2c20d8d060b574561b2dd7e481174c01276feb4057e53edf23e8bd4ac1e7f", func := "grille/grillelaw01.TextMakes", spec := "textMakes", inPlace := ["internal/abi.NoEscape"], unfollowed := true, recurses := true, named := ["unicode/utf8.first", "unicode/utf8.acceptRanges"], apart := false, laid := [("unicode/utf8.acceptRanges", laid_unicode_utf8_acceptRanges), ("unicode/utf8.first", laid_unicode_utf8_first)], narrowed := true }
def TextMakesUptoSaid : Prop := textMakesUptoRow.holds Tryd.pinned (OpenSpec.upto textMakesSpec)

/-- 'grillelaw01.TextBack', WHERE WHAT IT READS IS OF BULK AT MOST 1048576: true; the input reads as it did. -/
def textBackUptoRow : OpenClaim := { program := "ytdbkefgdeenjoaadoor", sum := "aaf2c20d8d060b574561b2dd7e481174c01276feb4057e53edf23e8bd4ac1e7f", func := "grille/grillelaw01.TextBack", spec := "textBack", inPlace := ["internal/abi.NoEscape"], unfollowed := true, recurses := true, named := ["unicode/utf8.first", "unicode/utf8.acceptRanges"], apart := false, laid := [("unicode/utf8.acceptRanges", laid_unicode_utf8_acceptRanges), ("unicode/utf8.first", laid_unicode_utf8_first)], narrowed := true }
def TextBackUptoSaid : Prop := textBackUptoRow.holds Tryd.pinned (OpenSpec.upto textBackSpec)

/-- 'grillelaw01.TextBreaks', WHERE WHAT IT READS IS OF BULK AT MOST 1048576: true; the input reads as it did. -/
def textBreaksUptoRow : OpenClaim := { program := "ytdbkefgdeenjoaadoor", sum := "aaf2c20d8d060b574561b2dd7e481174c01276feb4057e53edf23e8bd4ac1e7f", func := "grille/grillelaw01.TextBreaks", spec := "textBreaks", inPlace := ["internal/abi.NoEscape"], unfollowed := true, recurses := true, named := ["unicode/utf8.first", "unicode/utf8.acceptRanges"], apart := false, laid := [("unicode/utf8.acceptRanges", laid_unicode_utf8_acceptRanges), ("unicode/utf8.first", laid_unicode_utf8_first)], narrowed := true }
def TextBreaksUptoSaid : Prop := textBreaksUptoRow.holds Tryd.pinned (OpenSpec.upto textBreaksSpec)

/-- 'grillelaw01.TextMarks', WHERE WHAT IT READS IS OF BULK AT MOST 1048576: true; the input reads as it did. -/
def textMarksUptoRow : OpenClaim := { program := "ytdbkefgdeenjoaadoor", sum := "aaf2c20d8d060b574561b2dd7e481174c01276feb4057e53edf23e8bd4ac1e7f", func := "grille/grillelaw01.TextMarks", spec := "textMarks", inPlace := ["internal/abi.NoEscape"], unfollowed := true, recurses := true, named := ["unicode/utf8.first", "unicode/utf8.acceptRanges"], apart := false, laid := [("unicode/utf8.acceptRanges", laid_unicode_utf8_acceptRanges), ("unicode/utf8.first", laid_unicode_utf8_first)], narrowed := true }
def TextMarksUptoSaid : Prop := textMarksUptoRow.holds Tryd.pinned (OpenSpec.upto textMarksSpec)

/-- 'grillelaw01.TextPlain', WHERE WHAT IT READS IS OF BULK AT MOST 1048576: true; the input reads as it did. -/
def textPlainUptoRow : OpenClaim := { program := "ytdbkefgdeenjoaadoor", sum := "aaf2c20d8d060b574561b2dd7e481174c01276feb4057e53edf23e8bd4ac1e7f", func := "grille/grillelaw01.TextPlain", spec := "textPlain", inPlace := ["internal/abi.NoEscape"], unfollowed := true, recurses := true, named := ["unicode/utf8.first", "unicode/utf8.acceptRanges"], apart := false, laid := [("unicode/utf8.acceptRanges", laid_unicode_utf8_acceptRanges), ("unicode/utf8.first", laid_unicode_utf8_first)], narrowed := true }
def TextPlainUptoSaid : Prop := textPlainUptoRow.holds Tryd.pinned (OpenSpec.upto textPlainSpec)

/-- 'grillelaw01.TextJoins', WHERE WHAT IT READS IS OF BULK AT MOST 1048576: true; the input reads as it did. -/
def textJoinsUptoRow : OpenClaim := { program := "ytdbkefgdeenjoaadoor", sum := "aaf2c20d8d060b574561b2dd7e481174c01276feb4057e53edf23e8bd4ac1e7f", func := "grille/grillelaw01.TextJoins", spec := "textJoins", inPlace := ["internal/abi.NoEscape"], unfollowed := true, recurses := true, named := ["unicode/utf8.first", "unicode/utf8.acceptRanges"], apart := false, laid := [("unicode/utf8.acceptRanges", laid_unicode_utf8_acceptRanges), ("unicode/utf8.first", laid_unicode_utf8_first)], narrowed := true }
def TextJoinsUptoSaid : Prop := textJoinsUptoRow.holds Tryd.pinned (OpenSpec.upto textJoinsSpec)

end Rows
end Go.Proofs.YtdbkefgdeenjoaaDoor
