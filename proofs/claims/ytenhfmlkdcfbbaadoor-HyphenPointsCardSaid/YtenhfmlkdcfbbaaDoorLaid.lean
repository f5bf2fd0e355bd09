/- What a walk asks of a world: the two tables of unicode/utf8 read as the program's text lays them; it stands where memory is made. No condition beyond what the theorem states. -/
import Derived.Test.YtenhfmlkdcfbbaaDoorShelf
import Derived.Lib.LaidU8
import Derived.Below
namespace Go.Proofs.YtenhfmlkdcfbbaaDoor
structure Lw (w : World) : Prop where mk :: (out : Lib.Utf8Tabs 0 1 w)
theorem Lw.below {w w' : World} (h : Lw w) (hb : RowKit.Below w.heap.size w w') : Lw w' := ⟨Utf8Tabs_below h.out hb⟩
end Go.Proofs.YtenhfmlkdcfbbaaDoor
