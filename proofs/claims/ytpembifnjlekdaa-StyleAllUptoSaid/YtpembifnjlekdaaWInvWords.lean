-- Words of the print, those that this claim uses (cut by wip/tools/prune.py).
import Derived.Test.YtpembifnjlekdaaWInv
import Derived.Test.YtpembifnjlekdaaWFootNe
namespace Go.Proofs.YtpembifnjlekdaaW.PrintWords
open Go.RowKit
end Go.Proofs.YtpembifnjlekdaaW.PrintWords
namespace Go.Proofs.YtpembifnjlekdaaW.PrintLast
section
variable {ops : Array Oper} {a : Act} {o og : Oper} {g : Nat} {t : Tmp} {u : Bool}
end
end Go.Proofs.YtpembifnjlekdaaW.PrintLast
