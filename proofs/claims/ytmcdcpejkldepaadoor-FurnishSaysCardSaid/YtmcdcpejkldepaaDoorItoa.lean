/- strconv.Itoa, laid over the seat's program; what it asks of a world stands where memory is made. -/
import Derived.Test.YtmcdcpejkldepaaDoorShelf
import Derived.Lib.AppendIntMem
import Derived.Below
namespace Go.Proofs.YtmcdcpejkldepaaDoor.Itoa
open Go.RowKit
def Tabs (w : World) : Prop := Lib.TabIs Tryd.prog w "internal/strconv.uint64pow10" .u64 Lib.pow10Tab
theorem Tabs.below {w w' : World} (h : Tabs w) (hb : Below w.heap.size w w') : Tabs w' := Lib.tabBelow_of_tabIs h w' hb
theorem calls (n : Int) (h : -9223372036854775808 ≤ n ∧ n ≤ 9223372036854775807) (w : World) (ht : Tabs w) :
    Calls Tryd.prog 26 #[.int .i64 n] w fun e w' => e = .returned (.string ⟨(Lib.itoa n).toArray⟩) ∧ Below w.heap.size w w' := by
  refine (Tryd.strconv_Itoa n h.1 h.2 w ht).mono ?_
  rintro e w' ⟨rfl, k, os, rfl⟩
  exact ⟨rfl, Lib.below_grow _ _ (Nat.le_refl _) _ _⟩
end Go.Proofs.YtmcdcpejkldepaaDoor.Itoa
