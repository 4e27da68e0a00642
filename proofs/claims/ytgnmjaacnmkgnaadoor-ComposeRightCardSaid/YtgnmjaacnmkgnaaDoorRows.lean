/-
  NARROWER THAN 'FOR EVERY INPUT', by the rows' own cells (each row's printed sentence says how): ComposeTags: laid · ComposeTells: laid · ComposeParts: laid · ComposeNames: laid · ComposeRight: laid.
  DERIVED. THE GIVEN ROWS OF THIS SEAT. 5 by the template 'for every input the law returns true; each argument reads behind the call as it read before'; 0 by the template 'total and deterministic' (their statements: YtgnmjaacnmkgnaaDoorTotals.lean).
  GIVEN WITH THE SEED: the statements are not yours to turn. If you find one false, say at which input.
  Laid BY PROGRAM, IN A SANDBOX (cutbox-rows.mjs): the forced cells as the released guide's own fill.sh prints them over the translation 9a4268d7b40f31e1… (all of the seat's roots in one cut). By AI agents, Wed Nov 11 2026. No macro, syntax, notation, axiom, sorry.
-/
import Derived.Test.YtgnmjaacnmkgnaaDoorChecked
import GoSem.PinnedTables
import GoSem.Claim
import GoSem.ClaimJoined
import GoSem.ClaimMapViews
import Derived.JoinedTies
import Derived.KernelRfl
namespace Go.Proofs.YtgnmjaacnmkgnaaDoor
/- THE CELL 'sum', in the pinned program and in every row, IS THE sha256 OF THE DUMP (.gsa) THAT YtgnmjaacnmkgnaaDoorProg.lean LOADS. Nothing in Lean hashes anything: it is a label: what it is worth is what the hold of that sum in a sandbox is worth. -/
noncomputable def Tryd.pinned : Pinned := { name := "ytgnmjaacnmkgnaadoor", sum := "9a4268d7b40f31e151e44fd54745c44d6405ce8b21a1983dfecff1d8a60873b6", checked := Tryd.checked }
namespace Rows
def none {H : Type} : Left H := { results := [], args := [] }

/- WHAT THE LISTED PACKAGE-LEVEL VARIABLES READ AS WHEN THE CALL BEGINS. Each datum BY PROGRAM (the guide's laid-datum.mjs) off the statement by which the dump's own 'gosem.cut.vars' lays the variable. In a bare row this is a premise. The card (YtgnmjaacnmkgnaaDoorCards.lean) ties it to the program's text. -/
def laid_unicode_utf8_acceptRanges {H : Type} : DataW H := .agg [.agg [.lit (.int .u8 128), .lit (.int .u8 191)], .agg [.lit (.int .u8 160), .lit (.int .u8 191)], .agg [.lit (.int .u8 128), .lit (.int .u8 159)], .agg [.lit (.int .u8 144), .lit (.int .u8 191)], .agg [.lit (.int .u8 128), .lit (.int .u8 143)], .agg [.lit (.int .u8 0), .lit (.int .u8 0)], .agg [.lit (.int .u8 0), .lit (.int .u8 0)], .agg [.lit (.int .u8 0), .lit (.int .u8 0)], .agg [.lit (.int .u8 0), .lit (.int .u8 0)], .agg [.lit (.int .u8 0), .lit (.int .u8 0)], .agg [.lit (.int .u8 0), .lit (.int .u8 0)], .agg [.lit (.int .u8 0), .lit (.int .u8 0)], .agg [.lit (.int .u8 0), .lit (.int .u8 0)], .agg [.lit (.int .u8 0), .lit (.int .u8 0)], .agg [.lit (.int .u8 0), .lit (.int .u8 0)], .agg [.lit (.int .u8 0), .lit (.int .u8 0)]]
/-- One of Go's own tables, pinned by name: the form's constant. -/
def laid_unicode_utf8_first : DataW Unit := Go.Pinned.utf8First

/-- 'grillelaw09.ComposeTags': WHATEVER THE INPUT: true; the input reads as it did. -/
def composeTagsSpec : ChangeSpec := { name := "composeTags", fn := fun _ => fun
  | [d] => { results := [.lit (.bool true)], args := [d] }
  | _ => none }
def composeTagsRow : OpenClaim := { program := "ytgnmjaacnmkgnaadoor", sum := "9a4268d7b40f31e151e44fd54745c44d6405ce8b21a1983dfecff1d8a60873b6", func := "grille/grillelaw09.ComposeTags", spec := "composeTags", unfollowed := true, recurses := true, named := ["unicode/utf8.first", "unicode/utf8.acceptRanges"], plainKeys := false, apart := false, laid := [("unicode/utf8.acceptRanges", laid_unicode_utf8_acceptRanges), ("unicode/utf8.first", laid_unicode_utf8_first)] }
def ComposeTagsSaid : Prop := composeTagsRow.holds Tryd.pinned (OpenSpec.ofChange composeTagsSpec)

/-- ITS FALSE NEIGHBOUR: 'it returns false'. Refute it at one input. -/
def composeTagsWrong : ChangeSpec := { name := "composeTags", fn := fun _ => fun
  | [d] => { results := [.lit (.bool false)], args := [d] }
  | _ => none }
def ComposeTagsWrongFalsely : Prop := composeTagsRow.holds Tryd.pinned (OpenSpec.ofChange composeTagsWrong)

/-- 'grillelaw09.ComposeTells': WHATEVER THE INPUT: true; the input reads as it did. -/
def composeTellsSpec : ChangeSpec := { name := "composeTells", fn := fun _ => fun
  | [d] => { results := [.lit (.bool true)], args := [d] }
  | _ => none }
def composeTellsRow : OpenClaim := { program := "ytgnmjaacnmkgnaadoor", sum := "9a4268d7b40f31e151e44fd54745c44d6405ce8b21a1983dfecff1d8a60873b6", func := "grille/grillelaw09.ComposeTells", spec := "composeTells", unfollowed := true, recurses := true, named := ["unicode/utf8.first", "unicode/utf8.acceptRanges"], plainKeys := false, apart := false, laid := [("unicode/utf8.acceptRanges", laid_unicode_utf8_acceptRanges), ("unicode/utf8.first", laid_unicode_utf8_first)] }
def ComposeTellsSaid : Prop := composeTellsRow.holds Tryd.pinned (OpenSpec.ofChange composeTellsSpec)

/-- ITS FALSE NEIGHBOUR: 'it returns false'. Refute it at one input. -/
def composeTellsWrong : ChangeSpec := { name := "composeTells", fn := fun _ => fun
  | [d] => { results := [.lit (.bool false)], args := [d] }
  | _ => none }
def ComposeTellsWrongFalsely : Prop := composeTellsRow.holds Tryd.pinned (OpenSpec.ofChange composeTellsWrong)

/-- 'grillelaw09.ComposeParts': WHATEVER THE INPUT: true; the input reads as it did. -/
def composePartsSpec : ChangeSpec := { name := "composeParts", fn := fun _ => fun
  | [d1, d2] => { results := [.lit (.bool true)], args := [d1, d2] }
  | _ => none }
def composePartsRow : OpenClaim := { program := "ytgnmjaacnmkgnaadoor", sum := "9a4268d7b40f31e151e44fd54745c44d6405ce8b21a1983dfecff1d8a60873b6", func := "grille/grillelaw09.ComposeParts", spec := "composeParts", unfollowed := true, recurses := true, named := ["unicode/utf8.first", "unicode/utf8.acceptRanges"], plainKeys := false, apart := false, laid := [("unicode/utf8.acceptRanges", laid_unicode_utf8_acceptRanges), ("unicode/utf8.first", laid_unicode_utf8_first)] }
def ComposePartsSaid : Prop := composePartsRow.holds Tryd.pinned (OpenSpec.ofChange composePartsSpec)

/-- ITS FALSE NEIGHBOUR: 'it returns false'. Refute it at one input. -/
def composePartsWrong : ChangeSpec := { name := "composeParts", fn := fun _ => fun
  | [d1, d2] => { results := [.lit (.bool false)], args := [d1, d2] }
  | _ => none }
def ComposePartsWrongFalsely : Prop := composePartsRow.holds Tryd.pinned (OpenSpec.ofChange composePartsWrong)

/-- 'grillelaw09.ComposeNames': WHATEVER THE INPUT: true; the input reads as it did. -/
def composeNamesSpec : ChangeSpec := { name := "composeNames", fn := fun _ => fun
  | [d] => { results := [.lit (.bool true)], args := [d] }
  | _ => none }
def composeNamesRow : OpenClaim := { program := "ytgnmjaacnmkgnaadoor", sum := "9a4268d7b40f31e151e44fd54745c44d6405ce8b21a1983dfecff1d8a60873b6", func := "grille/grillelaw09.ComposeNames", spec := "composeNames", unfollowed := true, recurses := true, named := ["unicode/utf8.first", "unicode/utf8.acceptRanges"], plainKeys := false, apart := false, laid := [("unicode/utf8.acceptRanges", laid_unicode_utf8_acceptRanges), ("unicode/utf8.first", laid_unicode_utf8_first)] }
def ComposeNamesSaid : Prop := composeNamesRow.holds Tryd.pinned (OpenSpec.ofChange composeNamesSpec)

/-- ITS FALSE NEIGHBOUR: 'it returns false'. Refute it at one input. -/
def composeNamesWrong : ChangeSpec := { name := "composeNames", fn := fun _ => fun
  | [d] => { results := [.lit (.bool false)], args := [d] }
  | _ => none }
def ComposeNamesWrongFalsely : Prop := composeNamesRow.holds Tryd.pinned (OpenSpec.ofChange composeNamesWrong)

/-- 'grillelaw09.ComposeRight': WHATEVER THE INPUT: true; the input reads as it did. -/
def composeRightSpec : ChangeSpec := { name := "composeRight", fn := fun _ => fun
  | [d] => { results := [.lit (.bool true)], args := [d] }
  | _ => none }
def composeRightRow : OpenClaim := { program := "ytgnmjaacnmkgnaadoor", sum := "9a4268d7b40f31e151e44fd54745c44d6405ce8b21a1983dfecff1d8a60873b6", func := "grille/grillelaw09.ComposeRight", spec := "composeRight", unfollowed := true, recurses := true, named := ["unicode/utf8.first", "unicode/utf8.acceptRanges"], plainKeys := false, apart := false, laid := [("unicode/utf8.acceptRanges", laid_unicode_utf8_acceptRanges), ("unicode/utf8.first", laid_unicode_utf8_first)] }
def ComposeRightSaid : Prop := composeRightRow.holds Tryd.pinned (OpenSpec.ofChange composeRightSpec)

/-- ITS FALSE NEIGHBOUR: 'it returns false'. Refute it at one input. -/
def composeRightWrong : ChangeSpec := { name := "composeRight", fn := fun _ => fun
  | [d] => { results := [.lit (.bool false)], args := [d] }
  | _ => none }
def ComposeRightWrongFalsely : Prop := composeRightRow.holds Tryd.pinned (OpenSpec.ofChange composeRightWrong)

/- THE SECOND FORM. 'bulk': how many values and letters a reading holds, each counted each time it is reached (what is shared counts as often as it is met; a slice's spare places count too). A statement '..UptoSaid' is the law's where the arguments, and the package variables that the reading takes, are together of bulk at most 1048576: NARROWER than '..Said'. Prove '..Said' where nothing that the law and all that it calls make is longer than what came in: it says more and counts as full. Else prove '..UptoSaid'. A law counts once. -/
mutual
def uptoBulk {H : Type} : DataW H → Nat
  | .lit (.string bytes) => bytes.length + 1
  | .lit _ => 1
  | .nil => 1
  | .ptr d => uptoBulk d + 1
  | .slice elems spare => uptoBulkAll elems + uptoBulkAll spare + 1
  | .agg parts => uptoBulkAll parts + 1
  | .iface _ d => uptoBulk d + 1
  | .map entries => uptoBulkEntries entries + 1
  | .held _ => 1
def uptoBulkAll {H : Type} : List (DataW H) → Nat
  | [] => 0
  | d :: r => uptoBulk d + uptoBulkAll r
def uptoBulkEntries {H : Type} : List (Lit × DataW H) → Nat
  | [] => 0
  | x :: r => uptoBulkEntry x + uptoBulkEntries r
def uptoBulkEntry {H : Type} : Lit × DataW H → Nat
  | (.string bytes, d) => bytes.length + uptoBulk d + 1
  | (_, d) => uptoBulk d + 1
 end
def uptoSmall : (H : Type) → List (DataW H) → Bool := fun _ ds => decide (uptoBulkAll ds ≤ 1048576)
def OpenSpec.upto (s : _root_.Go.ChangeSpec) : _root_.Go.OpenSpec := { _root_.Go.OpenSpec.ofChange s with cond := some uptoSmall }

/-- 'grillelaw09.ComposeTags', WHERE WHAT IT READS IS OF BULK AT MOST 1048576: true; the input reads as it did. -/
def composeTagsUptoRow : OpenClaim := { program := "ytgnmjaacnmkgnaadoor", sum := "9a4268d7b40f31e151e44fd54745c44d6405ce8b21a1983dfecff1d8a60873b6", func := "grille/grillelaw09.ComposeTags", spec := "composeTags", unfollowed := true, recurses := true, named := ["unicode/utf8.first", "unicode/utf8.acceptRanges"], plainKeys := false, apart := false, laid := [("unicode/utf8.acceptRanges", laid_unicode_utf8_acceptRanges), ("unicode/utf8.first", laid_unicode_utf8_first)], narrowed := true }
def ComposeTagsUptoSaid : Prop := composeTagsUptoRow.holds Tryd.pinned (OpenSpec.upto composeTagsSpec)

/-- 'grillelaw09.ComposeTells', WHERE WHAT IT READS IS OF BULK AT MOST 1048576: true; the input reads as it did. -/
def composeTellsUptoRow : OpenClaim := { program := "ytgnmjaacnmkgnaadoor", sum := "9a4268d7b40f31e151e44fd54745c44d6405ce8b21a1983dfecff1d8a60873b6", func := "grille/grillelaw09.ComposeTells", spec := "composeTells", unfollowed := true, recurses := true, named := ["unicode/utf8.first", "unicode/utf8.acceptRanges"], plainKeys := false, apart := false, laid := [("unicode/utf8.acceptRanges", laid_unicode_utf8_acceptRanges), ("unicode/utf8.first", laid_unicode_utf8_first)], narrowed := true }
def ComposeTellsUptoSaid : Prop := composeTellsUptoRow.holds Tryd.pinned (OpenSpec.upto composeTellsSpec)

/-- 'grillelaw09.ComposeParts', WHERE WHAT IT READS IS OF BULK AT MOST 1048576: true; the input reads as it did. -/
def composePartsUptoRow : OpenClaim := { program := "ytgnmjaacnmkgnaadoor", sum := "9a4268d7b40f31e151e44fd54745c44d6405ce8b21a1983dfecff1d8a60873b6", func := "grille/grillelaw09.ComposeParts", spec := "composeParts", unfollowed := true, recurses := true, named := ["unicode/utf8.first", "unicode/utf8.acceptRanges"], plainKeys := false, apart := false, laid := [("unicode/utf8.acceptRanges", laid_unicode_utf8_acceptRanges), ("unicode/utf8.first", laid_unicode_utf8_first)], narrowed := true }
def ComposePartsUptoSaid : Prop := composePartsUptoRow.holds Tryd.pinned (OpenSpec.upto composePartsSpec)

/-- 'grillelaw09.ComposeNames', WHERE WHAT IT READS IS OF BULK AT MOST 1048576: true; the input reads as it did. -/
def composeNamesUptoRow : OpenClaim := { program := "ytgnmjaacnmkgnaadoor", sum := "9a4268d7b40f31e151e44fd54745c44d6405ce8b21a1983dfecff1d8a60873b6", func := "grille/grillelaw09.ComposeNames", spec := "composeNames", unfollowed := true, recurses := true, named := ["unicode/utf8.first", "unicode/utf8.acceptRanges"], plainKeys := false, apart := false, laid := [("unicode/utf8.acceptRanges", laid_unicode_utf8_acceptRanges), ("unicode/utf8.first", laid_unicode_utf8_first)], narrowed := true }
def ComposeNamesUptoSaid : Prop := composeNamesUptoRow.holds Tryd.pinned (OpenSpec.upto composeNamesSpec)

/-- 'grillelaw09.ComposeRight', WHERE WHAT IT READS IS OF BULK AT MOST 1048576: true; the input reads as it did. -/
def composeRightUptoRow : OpenClaim := { program := "ytgnmjaacnmkgnaadoor", sum := "9a4268d7b40f31e151e44fd54745c44d6405ce8b21a1983dfecff1d8a60873b6", func := "grille/grillelaw09.ComposeRight", spec := "composeRight", unfollowed := true, recurses := true, named := ["unicode/utf8.first", "unicode/utf8.acceptRanges"], plainKeys := false, apart := false, laid := [("unicode/utf8.acceptRanges", laid_unicode_utf8_acceptRanges), ("unicode/utf8.first", laid_unicode_utf8_first)], narrowed := true }
def ComposeRightUptoSaid : Prop := composeRightUptoRow.holds Tryd.pinned (OpenSpec.upto composeRightSpec)

end Rows
end Go.Proofs.YtgnmjaacnmkgnaaDoor
