-- LAID BY A PROGRAM OF THIS SESSION (wip/tools: the kit's print with changes of our own)
import Derived.Test.YtamlcdillkohhaaProg
import Derived.Below
import Derived.Deep.Draws
import Derived.Deep.AppendLies
import Derived.Maps.AppendAt
import Derived.OwnWalk
import Derived.Laws.BytesArg
import Derived.Laws.MakeOwn
import Derived.Laws.OwnMore
import Derived.Deep.OwnRows
import Derived.Tactics
import Derived.Lib.ConvBytes
import Derived.Laws.Slices
import Derived.WalkKit
import Derived.KernelRfl
import Derived.RowKit3
import Derived.Deep.LoopGhost
import Derived.Deep.QuietTactic
import Derived.BigQuiet
import Derived.WideLaws
import Derived.Deep.DeepCutAuto
import Derived.Deep.CutBlock
import Derived.Deep.RegionHeld3
import Derived.Laws.Rows
import Derived.Lib.AppendStr
import Derived.ArgAppend
import Derived.Laws.IdiomCopy
import Derived.OrdersHeld
import Derived.Laws.BitsLemmas
import Derived.RowKit
import Derived.WalkMore
import Derived.Lib.SmallJoins
import Derived.Test.YtamlcdillkohhaaWWords
import Derived.Test.YtamlcdillkohhaaWLast
import Derived.Test.YtamlcdillkohhaaWTab
import Derived.Test.YtamlcdillkohhaaWFour
import Derived.Test.YtamlcdillkohhaaWQPut
import Derived.Test.YtamlcdillkohhaaWApart
import Derived.Test.YtamlcdillkohhaaWArr
import Derived.Test.YtamlcdillkohhaaWZeros
import Derived.Test.YtamlcdillkohhaaWFoot
import Derived.Test.YtamlcdillkohhaaWKept
import Derived.Test.YtamlcdillkohhaaWShare
import Derived.Test.YtamlcdillkohhaaWN
import Derived.Test.YtamlcdillkohhaaWFootNe
import Derived.Test.YtamlcdillkohhaaWAt
import Derived.Test.YtamlcdillkohhaaWEqStruct
import Derived.Test.YtamlcdillkohhaaWRepsOne
import Derived.Test.YtamlcdillkohhaaWInv
import Derived.Test.YtamlcdillkohhaaWInvWords
import Derived.Test.YtamlcdillkohhaaWGuard
import Derived.Test.YtamlcdillkohhaaWNEv
import Derived.Test.YtamlcdillkohhaaWMore
namespace Go.Proofs.Ytamlcdillkohhaa.PAll
open Go.RowKit Go.Proofs.YtamlcdillkohhaaW.PrintWords Go.Proofs.YtamlcdillkohhaaW.PrintLast Go.Proofs.YtamlcdillkohhaaW.PrintMore
attribute [local go_sem] max2_int min2_int max_two min_two max_three min_three max_four min_four   -- for this text's walks alone
set_option linter.unusedVariables false
set_option linter.unusedSimpArgs false



def errW : Option Int → Value
  | none => .nilIface
  | some c => .iface 0 (.int .i64 c)
theorem errW_none : errW none = .nilIface := rfl
theorem errW_some (c : Int) : errW (some c) = .iface 0 (.int .i64 c) := rfl

theorem info5 : (Try.prog.info? 5).map (fun i => (i.zero, i.size, i.bytes)) = some (some (.int .u8 0), 1, 1) := by kernel_rfl
-- the values' own types

end Go.Proofs.Ytamlcdillkohhaa.PAll
