-- LAID BY A PROGRAM OF THIS SESSION (wip/tools: the kit's print with changes of our own)
import Derived.Test.YtacolbcmlpfbmaaProg
import Derived.Below
import Derived.Deep.Draws
import Derived.Deep.AppendLies
import Derived.Maps.AppendAt
import Derived.OwnWalk
import Derived.Laws.BytesArg
import Derived.Laws.MakeOwn
import Derived.Laws.OwnMore
import Derived.Deep.OwnRows
import Derived.Tactics
import Derived.Lib.ConvBytes
import Derived.Laws.Slices
import Derived.WalkKit
import Derived.KernelRfl
import Derived.RowKit3
import Derived.Deep.LoopGhost
import Derived.Deep.QuietTactic
import Derived.BigQuiet
import Derived.WideLaws
import Derived.Deep.DeepCutAuto
import Derived.Deep.CutBlock
import Derived.Deep.RegionHeld3
import Derived.Laws.Rows
import Derived.Lib.AppendStr
import Derived.ArgAppend
import Derived.Laws.IdiomCopy
import Derived.OrdersHeld
import Derived.Laws.BitsLemmas
import Derived.RowKit
import Derived.WalkMore
import Derived.Lib.SmallJoins
import Derived.Test.YtacolbcmlpfbmaaWWords
import Derived.Test.YtacolbcmlpfbmaaWLast
import Derived.Test.YtacolbcmlpfbmaaWTab
import Derived.Test.YtacolbcmlpfbmaaWFour
import Derived.Test.YtacolbcmlpfbmaaWQPut
import Derived.Test.YtacolbcmlpfbmaaWApart
import Derived.Test.YtacolbcmlpfbmaaWArr
import Derived.Test.YtacolbcmlpfbmaaWZeros
import Derived.Test.YtacolbcmlpfbmaaWFoot
import Derived.Test.YtacolbcmlpfbmaaWKept
import Derived.Test.YtacolbcmlpfbmaaWShare
import Derived.Test.YtacolbcmlpfbmaaWN
import Derived.Test.YtacolbcmlpfbmaaWFootNe
import Derived.Test.YtacolbcmlpfbmaaWAt
import Derived.Test.YtacolbcmlpfbmaaWEqStruct
import Derived.Test.YtacolbcmlpfbmaaWRepsOne
import Derived.Test.YtacolbcmlpfbmaaWInv
import Derived.Test.YtacolbcmlpfbmaaWInvWords
import Derived.Test.YtacolbcmlpfbmaaWGuard
import Derived.Test.YtacolbcmlpfbmaaWNEv
import Derived.Test.YtacolbcmlpfbmaaWMore
namespace Go.Proofs.Ytacolbcmlpfbmaa.PAll
open Go.RowKit Go.Proofs.YtacolbcmlpfbmaaW.PrintWords Go.Proofs.YtacolbcmlpfbmaaW.PrintLast Go.Proofs.YtacolbcmlpfbmaaW.PrintMore
attribute [local go_sem] max2_int min2_int max_two min_two max_three min_three max_four min_four   -- for this text's walks alone
set_option linter.unusedVariables false
set_option linter.unusedSimpArgs false



def errW : Option Int → Value
  | none => .nilIface
  | some c => .iface 0 (.int .i64 c)
theorem errW_none : errW none = .nilIface := rfl
theorem errW_some (c : Int) : errW (some c) = .iface 0 (.int .i64 c) := rfl

theorem info3 : (Try.prog.info? 3).map (fun i => (i.zero, i.size, i.bytes)) = some (some (.int .i64 0), 1, 8) := by kernel_rfl
theorem info4 : (Try.prog.info? 4).map (fun i => (i.zero, i.size, i.bytes)) = some (some (.bool false), 1, 1) := by kernel_rfl
-- the values' own types

end Go.Proofs.Ytacolbcmlpfbmaa.PAll
