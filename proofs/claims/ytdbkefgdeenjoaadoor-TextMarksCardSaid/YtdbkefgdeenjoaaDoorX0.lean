/- Printed by a program of ours (wip/tools) out of the translation: each function as a plain Lean function, and a proof that the call answers so. -/
import Derived.Test.YtdbkefgdeenjoaaDoorProg
import Derived.Below
import Derived.Deep.Draws
import Derived.Deep.AppendLies
import Derived.Maps.AppendAt
import Derived.OwnWalk
import Derived.Laws.BytesArg
import Derived.Laws.MakeOwn
import Derived.Laws.OwnMore
import Derived.Deep.OwnRows
import Derived.Tactics
import Derived.Lib.ConvBytes
import Derived.Laws.Slices
import Derived.WalkKit
import Derived.KernelRfl
import Derived.RowKit3
import Derived.Deep.LoopGhost
import Derived.Deep.QuietTactic
import Derived.BigQuiet
import Derived.WideLaws
import Derived.Deep.DeepCutAuto
import Derived.Deep.CutBlock
import Derived.Deep.RegionHeld3
import Derived.Laws.Rows
import Derived.Lib.AppendStr
import Derived.ArgAppend
import Derived.Laws.IdiomCopy
import Derived.OrdersHeld
import Derived.Laws.BitsLemmas
import Derived.RowKit
import Derived.Test.YtdbkefgdeenjoaaDoorDec
import Derived.Test.YtdbkefgdeenjoaaDoorBld
import Derived.Test.YtdbkefgdeenjoaaDoorShelf
import Derived.Laws.ResultCell
import Derived.Shelf.Utf8.AppendRunePlain
import Derived.Lib.SlBytesConst
import Derived.Test.YtdbkefgdeenjoaaDoorWWords
import Derived.Test.YtdbkefgdeenjoaaDoorWLast
import Derived.Test.YtdbkefgdeenjoaaDoorWTab
import Derived.Test.YtdbkefgdeenjoaaDoorWFour
import Derived.Test.YtdbkefgdeenjoaaDoorWQPut
import Derived.Test.YtdbkefgdeenjoaaDoorWApart
import Derived.Test.YtdbkefgdeenjoaaDoorWArr
import Derived.Test.YtdbkefgdeenjoaaDoorWZeros
import Derived.Test.YtdbkefgdeenjoaaDoorWFoot
import Derived.Test.YtdbkefgdeenjoaaDoorWKept
import Derived.Test.YtdbkefgdeenjoaaDoorWShare
import Derived.Test.YtdbkefgdeenjoaaDoorWN
import Derived.Test.YtdbkefgdeenjoaaDoorWFootNe
import Derived.Test.YtdbkefgdeenjoaaDoorWAt
import Derived.Test.YtdbkefgdeenjoaaDoorWEqStruct
import Derived.Test.YtdbkefgdeenjoaaDoorWRepsOne
import Derived.Test.YtdbkefgdeenjoaaDoorWInv
import Derived.Test.YtdbkefgdeenjoaaDoorWInvWords
import Derived.Test.YtdbkefgdeenjoaaDoorWGuard
import Derived.Test.YtdbkefgdeenjoaaDoorWNEv
import Derived.Test.YtdbkefgdeenjoaaDoorWMore
namespace Go.Proofs.YtdbkefgdeenjoaaDoor.X
open Go.RowKit Go.Proofs.YtdbkefgdeenjoaaDoorW.PrintWords Go.Proofs.YtdbkefgdeenjoaaDoorW.PrintLast Go.Proofs.YtdbkefgdeenjoaaDoorW.PrintMore
attribute [local go_sem] max2_int min2_int max_two min_two max_three min_three max_four min_four   -- for this text's walks alone
set_option linter.unusedVariables false
set_option linter.unusedSimpArgs false



def errW : Option Int → Value
  | none => .nilIface
  | some c => .iface 0 (.int .i64 c)
theorem errW_none : errW none = .nilIface := rfl
theorem errW_some (c : Int) : errW (some c) = .iface 0 (.int .i64 c) := rfl

theorem xbne_nil (l : List UInt8) : (l != []) = !l.isEmpty := by cases l <;> rfl
theorem xbeq_nil (l : List UInt8) : (l == []) = l.isEmpty := by cases l <;> rfl
theorem info3 : (Tryd.prog.info? 3).map (fun i => (i.zero, i.size, i.bytes)) = some (some (.int .i64 0), 1, 8) := by kernel_rfl
theorem info5 : (Tryd.prog.info? 5).map (fun i => (i.zero, i.size, i.bytes)) = some (some (.int .u8 0), 1, 1) := by kernel_rfl
theorem info21 : (Tryd.prog.info? 21).map (fun i => (i.zero, i.size, i.bytes)) = some (some (.int .i32 0), 1, 4) := by kernel_rfl
theorem info66 : (Tryd.prog.info? 66).map (fun i => (i.zero, i.size, i.bytes)) = some (some (.int .u32 0), 1, 4) := by kernel_rfl
-- the values' own types

end Go.Proofs.YtdbkefgdeenjoaaDoor.X
