-- Written by a copy of the print that this session has turned (wip/tools/patchprint.py): arrays as records.
import Derived.Test.YtmllebfeghlmbaaProg
import Derived.Below
import Derived.Deep.Draws
import Derived.Deep.AppendLies
import Derived.Maps.AppendAt
import Derived.OwnWalk
import Derived.Laws.BytesArg
import Derived.Laws.MakeOwn
import Derived.Laws.OwnMore
import Derived.Deep.OwnRows
import Derived.Tactics
import Derived.Lib.ConvBytes
import Derived.Laws.Slices
import Derived.WalkKit
import Derived.KernelRfl
import Derived.RowKit3
import Derived.Deep.LoopGhost
import Derived.Deep.QuietTactic
import Derived.BigQuiet
import Derived.WideLaws
import Derived.Deep.DeepCutAuto
import Derived.Deep.CutBlock
import Derived.Deep.RegionHeld3
import Derived.Laws.Rows
import Derived.Lib.AppendStr
import Derived.ArgAppend
import Derived.Laws.IdiomCopy
import Derived.OrdersHeld
import Derived.Laws.BitsLemmas
import Derived.RowKit
import Derived.Test.YtmllebfeghlmbaaWWords
import Derived.Test.YtmllebfeghlmbaaWLast
import Derived.Test.YtmllebfeghlmbaaWTab
import Derived.Test.YtmllebfeghlmbaaWFour
import Derived.Test.YtmllebfeghlmbaaWQPut
import Derived.Test.YtmllebfeghlmbaaWApart
import Derived.Test.YtmllebfeghlmbaaWArr
import Derived.Test.YtmllebfeghlmbaaWZeros
import Derived.Test.YtmllebfeghlmbaaWFoot
import Derived.Test.YtmllebfeghlmbaaWKept
import Derived.Test.YtmllebfeghlmbaaWShare
import Derived.Test.YtmllebfeghlmbaaWN
import Derived.Test.YtmllebfeghlmbaaWFootNe
import Derived.Test.YtmllebfeghlmbaaWAt
import Derived.Test.YtmllebfeghlmbaaWEqStruct
import Derived.Test.YtmllebfeghlmbaaWRepsOne
import Derived.Test.YtmllebfeghlmbaaWInv
import Derived.Test.YtmllebfeghlmbaaWInvWords
import Derived.Test.YtmllebfeghlmbaaWGuard
import Derived.Test.YtmllebfeghlmbaaWNEv
import Derived.Test.YtmllebfeghlmbaaWMore
namespace Go.Proofs.Ytmllebfeghlmbaa.PBadTells
open Go.RowKit Go.Proofs.YtmllebfeghlmbaaW.PrintWords Go.Proofs.YtmllebfeghlmbaaW.PrintLast Go.Proofs.YtmllebfeghlmbaaW.PrintMore
attribute [local go_sem] max2_int min2_int max_two min_two max_three min_three max_four min_four   -- for this text's walks alone
set_option linter.unusedVariables false
set_option linter.unusedSimpArgs false



def errW : Option Int → Value
  | none => .nilIface
  | some c => .iface 0 (.int .i64 c)
theorem errW_none : errW none = .nilIface := rfl
theorem errW_some (c : Int) : errW (some c) = .iface 0 (.int .i64 c) := rfl

-- the values' own types

end Go.Proofs.Ytmllebfeghlmbaa.PBadTells
