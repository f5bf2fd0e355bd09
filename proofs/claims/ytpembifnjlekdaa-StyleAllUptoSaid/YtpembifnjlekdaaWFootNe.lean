-- Words of the print, those that this claim uses (cut by wip/tools/prune.py).
import Derived.Test.YtpembifnjlekdaaWN
/-! ### 52. A row that stays read whatever happens to a block (a set of blocks) doesn't lie there -/
namespace Go.Proofs.YtpembifnjlekdaaW.PrintWords
open Go.RowKit
namespace Kd
section
variable {α : Type} {d : Kd α} {W : World} {g n : Nat} {S ok : Nat → Prop} {A : Option Addr} {ad : Addr} {xs : List α}
end
end Kd
end Go.Proofs.YtpembifnjlekdaaW.PrintWords
