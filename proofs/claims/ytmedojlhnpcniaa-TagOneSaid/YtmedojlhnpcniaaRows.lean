/-
  No cell of these rows narrows 'for every input' (looked for: loops, veiled, ifaces, maps, wideKeys, modest, calm, conditions, laid).
  DERIVED. THE GIVEN ROWS OF THIS SEAT. 4 by the template 'for every input the law returns true; each argument reads behind the call as it read before'; 0 by the template 'total and deterministic' (their statements: YtmedojlhnpcniaaTotals.lean).
  GIVEN WITH THE SEED: the statements are not yours to turn. If you find one false, say at which input.
  Laid BY PROGRAM, IN A SANDBOX (cutbox-rows.mjs): the forced cells as the released guide's own fill.sh prints them over the translation 71ccc5ec6f6115ae… (all of the seat's roots in one cut). By AI agents, Wed Nov 11 2026. No macro, syntax, notation, axiom, sorry.
-/
import Derived.Test.YtmedojlhnpcniaaChecked
import GoSem.Claim
import GoSem.ClaimJoined
import GoSem.ClaimMapViews
import Derived.JoinedTies
import Derived.KernelRfl
namespace Go.Proofs.Ytmedojlhnpcniaa
/- THE CELL 'sum', in the pinned program and in every row, IS THE sha256 OF THE DUMP (.gsa) THAT YtmedojlhnpcniaaProg.lean LOADS. Nothing in Lean hashes anything: it is a label: what it is worth is what the hold of that sum in a sandbox is worth. -/
noncomputable def Try.pinned : Pinned := { name := "ytmedojlhnpcniaa", sum := "71ccc5ec6f6115ae0f1dc6a3a2b90a272e9dce2b08f65609832636151ce740c1", checked := Try.checked }
namespace Rows
def none {H : Type} : Left H := { results := [], args := [] }

/-- 'grillelaw03.TagResolves': WHATEVER THE INPUT: true; the input reads as it did. -/
def tagResolvesSpec : ChangeSpec := { name := "tagResolves", fn := fun _ => fun
  | [d1, d2] => { results := [.lit (.bool true)], args := [d1, d2] }
  | _ => none }
def tagResolvesRow : OpenClaim := { program := "ytmedojlhnpcniaa", sum := "71ccc5ec6f6115ae0f1dc6a3a2b90a272e9dce2b08f65609832636151ce740c1", func := "grille/grillelaw03.TagResolves", spec := "tagResolves", unfollowed := true, recurses := true, apart := false }
def TagResolvesSaid : Prop := tagResolvesRow.holds Try.pinned (OpenSpec.ofChange tagResolvesSpec)

/-- ITS FALSE NEIGHBOUR: 'it returns false'. Refute it at one input. -/
def tagResolvesWrong : ChangeSpec := { name := "tagResolves", fn := fun _ => fun
  | [d1, d2] => { results := [.lit (.bool false)], args := [d1, d2] }
  | _ => none }
def TagResolvesWrongFalsely : Prop := tagResolvesRow.holds Try.pinned (OpenSpec.ofChange tagResolvesWrong)

/-- 'grillelaw03.TagWords': WHATEVER THE INPUT: true; the input reads as it did. -/
def tagWordsSpec : ChangeSpec := { name := "tagWords", fn := fun _ => fun
  | [d1, d2] => { results := [.lit (.bool true)], args := [d1, d2] }
  | _ => none }
def tagWordsRow : OpenClaim := { program := "ytmedojlhnpcniaa", sum := "71ccc5ec6f6115ae0f1dc6a3a2b90a272e9dce2b08f65609832636151ce740c1", func := "grille/grillelaw03.TagWords", spec := "tagWords", unfollowed := true, recurses := true, apart := false }
def TagWordsSaid : Prop := tagWordsRow.holds Try.pinned (OpenSpec.ofChange tagWordsSpec)

/-- ITS FALSE NEIGHBOUR: 'it returns false'. Refute it at one input. -/
def tagWordsWrong : ChangeSpec := { name := "tagWords", fn := fun _ => fun
  | [d1, d2] => { results := [.lit (.bool false)], args := [d1, d2] }
  | _ => none }
def TagWordsWrongFalsely : Prop := tagWordsRow.holds Try.pinned (OpenSpec.ofChange tagWordsWrong)

/-- 'grillelaw03.TagBack': WHATEVER THE INPUT: true; the input reads as it did. -/
def tagBackSpec : ChangeSpec := { name := "tagBack", fn := fun _ => fun
  | [d1, d2, d3] => { results := [.lit (.bool true)], args := [d1, d2, d3] }
  | _ => none }
def tagBackRow : OpenClaim := { program := "ytmedojlhnpcniaa", sum := "71ccc5ec6f6115ae0f1dc6a3a2b90a272e9dce2b08f65609832636151ce740c1", func := "grille/grillelaw03.TagBack", spec := "tagBack", unfollowed := true, recurses := true, apart := false }
def TagBackSaid : Prop := tagBackRow.holds Try.pinned (OpenSpec.ofChange tagBackSpec)

/-- ITS FALSE NEIGHBOUR: 'it returns false'. Refute it at one input. -/
def tagBackWrong : ChangeSpec := { name := "tagBack", fn := fun _ => fun
  | [d1, d2, d3] => { results := [.lit (.bool false)], args := [d1, d2, d3] }
  | _ => none }
def TagBackWrongFalsely : Prop := tagBackRow.holds Try.pinned (OpenSpec.ofChange tagBackWrong)

/-- 'grillelaw03.TagOne': WHATEVER THE INPUT: true; the input reads as it did. -/
def tagOneSpec : ChangeSpec := { name := "tagOne", fn := fun _ => fun
  | [d] => { results := [.lit (.bool true)], args := [d] }
  | _ => none }
def tagOneRow : OpenClaim := { program := "ytmedojlhnpcniaa", sum := "71ccc5ec6f6115ae0f1dc6a3a2b90a272e9dce2b08f65609832636151ce740c1", func := "grille/grillelaw03.TagOne", spec := "tagOne", unfollowed := true, recurses := true, apart := false }
def TagOneSaid : Prop := tagOneRow.holds Try.pinned (OpenSpec.ofChange tagOneSpec)

/-- ITS FALSE NEIGHBOUR: 'it returns false'. Refute it at one input. -/
def tagOneWrong : ChangeSpec := { name := "tagOne", fn := fun _ => fun
  | [d] => { results := [.lit (.bool false)], args := [d] }
  | _ => none }
def TagOneWrongFalsely : Prop := tagOneRow.holds Try.pinned (OpenSpec.ofChange tagOneWrong)

/- THE SECOND FORM. 'bulk': how many values and letters a reading holds, each counted each time it is reached (what is shared counts as often as it is met; a slice's spare places count too). A statement '..UptoSaid' is the law's where the arguments, and the package variables that the reading takes, are together of bulk at most 1048576: NARROWER than '..Said'. Prove '..Said' where nothing that the law and all that it calls make is longer than what came in: it says more and counts as full. Else prove '..UptoSaid'. A law counts once. -/
mutual
def uptoBulk {H : Type} : DataW H → Nat
  | .lit (.string bytes) => bytes.length + 1
  | .lit _ => 1
  | .nil => 1
  | .ptr d => uptoBulk d + 1
  | .slice elems spare => uptoBulkAll elems + uptoBulkAll spare + 1
  | .agg parts => uptoBulkAll parts + 1
  | .iface _ d => uptoBulk d + 1
  | .map entries => uptoBulkEntries entries + 1
  | .held _ => 1
def uptoBulkAll {H : Type} : List (DataW H) → Nat
  | [] => 0
  | d :: r => uptoBulk d + uptoBulkAll r
def uptoBulkEntries {H : Type} : List (Lit × DataW H) → Nat
  | [] => 0
  | x :: r => uptoBulkEntry x + uptoBulkEntries r
def uptoBulkEntry {H : Type} : Lit × DataW H → Nat
  | (.string bytes, d) => bytes.length + uptoBulk d + 1
  | (_, d) => uptoBulk d + 1
 end
def uptoSmall : (H : Type) → List (DataW H) → Bool := fun _ ds => decide (uptoBulkAll ds ≤ 1048576)
def OpenSpec.upto (s : _root_.Go.ChangeSpec) : _root_.Go.OpenSpec := { _root_.Go.OpenSpec.ofChange s with cond := some uptoSmall }

/-- 'grillelaw03.TagResolves', WHERE WHAT IT READS IS OF BULK AT MOST 1048576: true; the input reads as it did. -/
def tagResolvesUptoRow : OpenClaim := { program := "ytmedojlhnpcniaa", sum := "71ccc5ec6f6115ae0f1dc6a3a2b90a272e9dce2b08f65609832636151ce740c1", func := "grille/grillelaw03.TagResolves", spec := "tagResolves", unfollowed := true, recurses := true, apart := false, narrowed := true }
def TagResolvesUptoSaid : Prop := tagResolvesUptoRow.holds Try.pinned (OpenSpec.upto tagResolvesSpec)

/-- 'grillelaw03.TagWords', WHERE WHAT IT READS IS OF BULK AT MOST 1048576: true; the input reads as it did. -/
def tagWordsUptoRow : OpenClaim := { program := "ytmedojlhnpcniaa", sum := "71ccc5ec6f6115ae0f1dc6a3a2b90a272e9dce2b08f65609832636151ce740c1", func := "grille/grillelaw03.TagWords", spec := "tagWords", unfollowed := true, recurses := true, apart := false, narrowed := true }
def TagWordsUptoSaid : Prop := tagWordsUptoRow.holds Try.pinned (OpenSpec.upto tagWordsSpec)

/-- 'grillelaw03.TagBack', WHERE WHAT IT READS IS OF BULK AT MOST 1048576: true; the input reads as it did. -/
def tagBackUptoRow : OpenClaim := { program := "ytmedojlhnpcniaa", sum := "71ccc5ec6f6115ae0f1dc6a3a2b90a272e9dce2b08f65609832636151ce740c1", func := "grille/grillelaw03.TagBack", spec := "tagBack", unfollowed := true, recurses := true, apart := false, narrowed := true }
def TagBackUptoSaid : Prop := tagBackUptoRow.holds Try.pinned (OpenSpec.upto tagBackSpec)

/-- 'grillelaw03.TagOne', WHERE WHAT IT READS IS OF BULK AT MOST 1048576: true; the input reads as it did. -/
def tagOneUptoRow : OpenClaim := { program := "ytmedojlhnpcniaa", sum := "71ccc5ec6f6115ae0f1dc6a3a2b90a272e9dce2b08f65609832636151ce740c1", func := "grille/grillelaw03.TagOne", spec := "tagOne", unfollowed := true, recurses := true, apart := false, narrowed := true }
def TagOneUptoSaid : Prop := tagOneUptoRow.holds Try.pinned (OpenSpec.upto tagOneSpec)

end Rows
end Go.Proofs.Ytmedojlhnpcniaa
