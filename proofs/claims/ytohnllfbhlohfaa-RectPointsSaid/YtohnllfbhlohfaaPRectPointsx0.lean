-- Written by a copy of the print that this session has turned (wip/tools/patchprint.py): arrays as records.
import Derived.Test.YtohnllfbhlohfaaProg
import Derived.Below
import Derived.Deep.Draws
import Derived.Deep.AppendLies
import Derived.Maps.AppendAt
import Derived.OwnWalk
import Derived.Laws.BytesArg
import Derived.Laws.MakeOwn
import Derived.Laws.OwnMore
import Derived.Deep.OwnRows
import Derived.Tactics
import Derived.Lib.ConvBytes
import Derived.Laws.Slices
import Derived.WalkKit
import Derived.KernelRfl
import Derived.RowKit3
import Derived.Deep.LoopGhost
import Derived.Deep.QuietTactic
import Derived.BigQuiet
import Derived.WideLaws
import Derived.Deep.DeepCutAuto
import Derived.Deep.CutBlock
import Derived.Deep.RegionHeld3
import Derived.Laws.Rows
import Derived.Lib.AppendStr
import Derived.ArgAppend
import Derived.Laws.IdiomCopy
import Derived.OrdersHeld
import Derived.Laws.BitsLemmas
import Derived.RowKit
import Derived.Test.YtohnllfbhlohfaaWWords
import Derived.Test.YtohnllfbhlohfaaWLast
import Derived.Test.YtohnllfbhlohfaaWTab
import Derived.Test.YtohnllfbhlohfaaWFour
import Derived.Test.YtohnllfbhlohfaaWQPut
import Derived.Test.YtohnllfbhlohfaaWApart
import Derived.Test.YtohnllfbhlohfaaWArr
import Derived.Test.YtohnllfbhlohfaaWZeros
import Derived.Test.YtohnllfbhlohfaaWFoot
import Derived.Test.YtohnllfbhlohfaaWKept
import Derived.Test.YtohnllfbhlohfaaWShare
import Derived.Test.YtohnllfbhlohfaaWN
import Derived.Test.YtohnllfbhlohfaaWFootNe
import Derived.Test.YtohnllfbhlohfaaWAt
import Derived.Test.YtohnllfbhlohfaaWEqStruct
import Derived.Test.YtohnllfbhlohfaaWRepsOne
import Derived.Test.YtohnllfbhlohfaaWInv
import Derived.Test.YtohnllfbhlohfaaWInvWords
import Derived.Test.YtohnllfbhlohfaaWGuard
import Derived.Test.YtohnllfbhlohfaaWNEv
import Derived.Test.YtohnllfbhlohfaaWMore
namespace Go.Proofs.Ytohnllfbhlohfaa.PRectPoints
open Go.RowKit Go.Proofs.YtohnllfbhlohfaaW.PrintWords Go.Proofs.YtohnllfbhlohfaaW.PrintLast Go.Proofs.YtohnllfbhlohfaaW.PrintMore
attribute [local go_sem] max2_int min2_int max_two min_two max_three min_three max_four min_four   -- for this text's walks alone
set_option linter.unusedVariables false
set_option linter.unusedSimpArgs false



def errW : Option Int → Value
  | none => .nilIface
  | some c => .iface 0 (.int .i64 c)
theorem errW_none : errW none = .nilIface := rfl
theorem errW_some (c : Int) : errW (some c) = .iface 0 (.int .i64 c) := rfl

-- the values' own types


end Go.Proofs.Ytohnllfbhlohfaa.PRectPoints
