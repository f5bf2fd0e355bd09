-- Written by a copy of the print that this session has turned (wip/tools/patchprint.py): arrays as records.
import Derived.Test.YtgehocejaipacaaDoorProg
import Derived.Below
import Derived.Deep.Draws
import Derived.Deep.AppendLies
import Derived.Maps.AppendAt
import Derived.OwnWalk
import Derived.Laws.BytesArg
import Derived.Laws.MakeOwn
import Derived.Laws.OwnMore
import Derived.Deep.OwnRows
import Derived.Tactics
import Derived.Lib.ConvBytes
import Derived.Laws.Slices
import Derived.WalkKit
import Derived.KernelRfl
import Derived.RowKit3
import Derived.Deep.LoopGhost
import Derived.Deep.QuietTactic
import Derived.BigQuiet
import Derived.WideLaws
import Derived.Deep.DeepCutAuto
import Derived.Deep.CutBlock
import Derived.Deep.RegionHeld3
import Derived.Laws.Rows
import Derived.Lib.AppendStr
import Derived.ArgAppend
import Derived.Laws.IdiomCopy
import Derived.OrdersHeld
import Derived.Laws.BitsLemmas
import Derived.RowKit
import Derived.Test.YtgehocejaipacaaDoorShelf
import Derived.Test.YtgehocejaipacaaDoorLaid
import Derived.Test.YtgehocejaipacaaDoorBldr
import Derived.Test.YtgehocejaipacaaDoorWWords
import Derived.Test.YtgehocejaipacaaDoorWLast
import Derived.Test.YtgehocejaipacaaDoorWTab
import Derived.Test.YtgehocejaipacaaDoorWFour
import Derived.Test.YtgehocejaipacaaDoorWQPut
import Derived.Test.YtgehocejaipacaaDoorWApart
import Derived.Test.YtgehocejaipacaaDoorWArr
import Derived.Test.YtgehocejaipacaaDoorWZeros
import Derived.Test.YtgehocejaipacaaDoorWFoot
import Derived.Test.YtgehocejaipacaaDoorWKept
import Derived.Test.YtgehocejaipacaaDoorWShare
import Derived.Test.YtgehocejaipacaaDoorWN
import Derived.Test.YtgehocejaipacaaDoorWFootNe
import Derived.Test.YtgehocejaipacaaDoorWAt
import Derived.Test.YtgehocejaipacaaDoorWEqStruct
import Derived.Test.YtgehocejaipacaaDoorWRepsOne
import Derived.Test.YtgehocejaipacaaDoorWInv
import Derived.Test.YtgehocejaipacaaDoorWInvWords
import Derived.Test.YtgehocejaipacaaDoorWGuard
import Derived.Test.YtgehocejaipacaaDoorWNEv
import Derived.Test.YtgehocejaipacaaDoorWMore
namespace Go.Proofs.YtgehocejaipacaaDoor.PUtfBack
open Go.RowKit Go.Proofs.YtgehocejaipacaaDoorW.PrintWords Go.Proofs.YtgehocejaipacaaDoorW.PrintLast Go.Proofs.YtgehocejaipacaaDoorW.PrintMore
attribute [local go_sem] max2_int min2_int max_two min_two max_three min_three max_four min_four   -- for this text's walks alone
set_option linter.unusedVariables false
set_option linter.unusedSimpArgs false



def errW : Option Int → Value
  | none => .nilIface
  | some c => .iface 0 (.int .i64 c)
theorem errW_none : errW none = .nilIface := rfl
theorem errW_some (c : Int) : errW (some c) = .iface 0 (.int .i64 c) := rfl

theorem info3 : (Tryd.prog.info? 3).map (fun i => (i.zero, i.size, i.bytes)) = some (some (.int .i64 0), 1, 8) := by kernel_rfl
theorem info5 : (Tryd.prog.info? 5).map (fun i => (i.zero, i.size, i.bytes)) = some (some (.int .u8 0), 1, 1) := by kernel_rfl
-- the values' own types


end Go.Proofs.YtgehocejaipacaaDoor.PUtfBack
