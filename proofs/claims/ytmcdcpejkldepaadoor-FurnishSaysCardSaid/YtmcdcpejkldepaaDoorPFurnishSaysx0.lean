-- Written by a copy of the print that this session has turned (wip/tools/patchprint.py): arrays as records.
import Derived.Test.YtmcdcpejkldepaaDoorProg
import Derived.Below
import Derived.Deep.Draws
import Derived.Deep.AppendLies
import Derived.Maps.AppendAt
import Derived.OwnWalk
import Derived.Laws.BytesArg
import Derived.Laws.MakeOwn
import Derived.Laws.OwnMore
import Derived.Deep.OwnRows
import Derived.Tactics
import Derived.Lib.ConvBytes
import Derived.Laws.Slices
import Derived.WalkKit
import Derived.KernelRfl
import Derived.RowKit3
import Derived.Deep.LoopGhost
import Derived.Deep.QuietTactic
import Derived.BigQuiet
import Derived.WideLaws
import Derived.Deep.DeepCutAuto
import Derived.Deep.CutBlock
import Derived.Deep.RegionHeld3
import Derived.Laws.Rows
import Derived.Lib.AppendStr
import Derived.ArgAppend
import Derived.Laws.IdiomCopy
import Derived.OrdersHeld
import Derived.Laws.BitsLemmas
import Derived.RowKit
import Derived.Test.YtmcdcpejkldepaaDoorShelf
import Derived.Test.YtmcdcpejkldepaaDoorLaid
import Derived.Test.YtmcdcpejkldepaaDoorFurnD
import Derived.Test.YtmcdcpejkldepaaDoorWWords
import Derived.Test.YtmcdcpejkldepaaDoorWLast
import Derived.Test.YtmcdcpejkldepaaDoorWTab
import Derived.Test.YtmcdcpejkldepaaDoorWFour
import Derived.Test.YtmcdcpejkldepaaDoorWQPut
import Derived.Test.YtmcdcpejkldepaaDoorWApart
import Derived.Test.YtmcdcpejkldepaaDoorWArr
import Derived.Test.YtmcdcpejkldepaaDoorWZeros
import Derived.Test.YtmcdcpejkldepaaDoorWFoot
import Derived.Test.YtmcdcpejkldepaaDoorWKept
import Derived.Test.YtmcdcpejkldepaaDoorWShare
import Derived.Test.YtmcdcpejkldepaaDoorWN
import Derived.Test.YtmcdcpejkldepaaDoorWFootNe
import Derived.Test.YtmcdcpejkldepaaDoorWAt
import Derived.Test.YtmcdcpejkldepaaDoorWEqStruct
import Derived.Test.YtmcdcpejkldepaaDoorWRepsOne
import Derived.Test.YtmcdcpejkldepaaDoorWInv
import Derived.Test.YtmcdcpejkldepaaDoorWInvWords
import Derived.Test.YtmcdcpejkldepaaDoorWGuard
import Derived.Test.YtmcdcpejkldepaaDoorWNEv
import Derived.Test.YtmcdcpejkldepaaDoorWMore
namespace Go.Proofs.YtmcdcpejkldepaaDoor.PFurnishSays
open Go.RowKit Go.Proofs.YtmcdcpejkldepaaDoorW.PrintWords Go.Proofs.YtmcdcpejkldepaaDoorW.PrintLast Go.Proofs.YtmcdcpejkldepaaDoorW.PrintMore
attribute [local go_sem] max2_int min2_int max_two min_two max_three min_three max_four min_four   -- for this text's walks alone
set_option linter.unusedVariables false
set_option linter.unusedSimpArgs false



def errW : Option Int → Value
  | none => .nilIface
  | some c => .iface 0 (.int .i64 c)
theorem errW_none : errW none = .nilIface := rfl
theorem errW_some (c : Int) : errW (some c) = .iface 0 (.int .i64 c) := rfl

theorem info3 : (Tryd.prog.info? 3).map (fun i => (i.zero, i.size, i.bytes)) = some (some (.int .i64 0), 1, 8) := by kernel_rfl
theorem info5 : (Tryd.prog.info? 5).map (fun i => (i.zero, i.size, i.bytes)) = some (some (.int .u8 0), 1, 1) := by kernel_rfl
theorem info9 : (Tryd.prog.info? 9).map (fun i => (i.zero, i.size, i.bytes)) = some (some (.string ⟨#[]⟩), 1, 16) := by kernel_rfl
-- the values' own types


end Go.Proofs.YtmcdcpejkldepaaDoor.PFurnishSays
