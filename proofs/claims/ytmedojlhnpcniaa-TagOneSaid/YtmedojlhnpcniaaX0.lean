/- Printed by a program of ours (wip/tools) out of the translation: each function as a plain Lean function, and a proof that the call answers so. -/
import Derived.Test.YtmedojlhnpcniaaProg
import Derived.Below
import Derived.Deep.Draws
import Derived.Deep.AppendLies
import Derived.Maps.AppendAt
import Derived.OwnWalk
import Derived.Laws.BytesArg
import Derived.Laws.MakeOwn
import Derived.Laws.OwnMore
import Derived.Deep.OwnRows
import Derived.Tactics
import Derived.Lib.ConvBytes
import Derived.Laws.Slices
import Derived.WalkKit
import Derived.KernelRfl
import Derived.RowKit3
import Derived.Deep.LoopGhost
import Derived.Deep.QuietTactic
import Derived.BigQuiet
import Derived.WideLaws
import Derived.Deep.DeepCutAuto
import Derived.Deep.CutBlock
import Derived.Deep.RegionHeld3
import Derived.Laws.Rows
import Derived.Lib.AppendStr
import Derived.ArgAppend
import Derived.Laws.IdiomCopy
import Derived.OrdersHeld
import Derived.Laws.BitsLemmas
import Derived.RowKit
import Derived.Test.YtmedojlhnpcniaaOwn
import Derived.Test.YtmedojlhnpcniaaWWords
import Derived.Test.YtmedojlhnpcniaaWLast
import Derived.Test.YtmedojlhnpcniaaWTab
import Derived.Test.YtmedojlhnpcniaaWFour
import Derived.Test.YtmedojlhnpcniaaWQPut
import Derived.Test.YtmedojlhnpcniaaWApart
import Derived.Test.YtmedojlhnpcniaaWArr
import Derived.Test.YtmedojlhnpcniaaWZeros
import Derived.Test.YtmedojlhnpcniaaWFoot
import Derived.Test.YtmedojlhnpcniaaWKept
import Derived.Test.YtmedojlhnpcniaaWShare
import Derived.Test.YtmedojlhnpcniaaWN
import Derived.Test.YtmedojlhnpcniaaWFootNe
import Derived.Test.YtmedojlhnpcniaaWAt
import Derived.Test.YtmedojlhnpcniaaWEqStruct
import Derived.Test.YtmedojlhnpcniaaWRepsOne
import Derived.Test.YtmedojlhnpcniaaWInv
import Derived.Test.YtmedojlhnpcniaaWInvWords
import Derived.Test.YtmedojlhnpcniaaWGuard
import Derived.Test.YtmedojlhnpcniaaWNEv
import Derived.Test.YtmedojlhnpcniaaWMore
namespace Go.Proofs.Ytmedojlhnpcniaa.X
open Go.RowKit Go.Proofs.YtmedojlhnpcniaaW.PrintWords Go.Proofs.YtmedojlhnpcniaaW.PrintLast Go.Proofs.YtmedojlhnpcniaaW.PrintMore
attribute [local go_sem] max2_int min2_int max_two min_two max_three min_three max_four min_four   -- for this text's walks alone
set_option linter.unusedVariables false
set_option linter.unusedSimpArgs false



def errW : Option Int → Value
  | none => .nilIface
  | some c => .iface 0 (.int .i64 c)
theorem errW_none : errW none = .nilIface := rfl
theorem errW_some (c : Int) : errW (some c) = .iface 0 (.int .i64 c) := rfl

theorem xbne_nil (l : List UInt8) : (l != []) = !l.isEmpty := by cases l <;> rfl
theorem xbeq_nil (l : List UInt8) : (l == []) = l.isEmpty := by cases l <;> rfl
theorem info9 : (Try.prog.info? 9).map (fun i => (i.zero, i.size, i.bytes)) = some (some (.string ⟨#[]⟩), 1, 16) := by kernel_rfl
-- the values' own types

end Go.Proofs.Ytmedojlhnpcniaa.X
