/- What a walk asks of a world: the tables of unicode/utf8 and of strconv read as the program's text lays them; it stands where memory is made. No condition beyond what the theorem states. -/
import Derived.Test.YtmcdcpejkldepaaDoorItoa
import Derived.Lib.LaidU8
import Derived.Below
namespace Go.Proofs.YtmcdcpejkldepaaDoor
structure Lw (w : World) : Prop where
  out : Lib.Utf8Tabs 0 1 w
  tabs : Itoa.Tabs w
theorem Lw.below {w w' : World} (h : Lw w) (hb : RowKit.Below w.heap.size w w') : Lw w' := ⟨Utf8Tabs_below h.out hb, h.tabs.below hb⟩
theorem tabs_of_reads {W : World} (h : Lib.VarReads Tryd.prog W "internal/strconv.uint64pow10" (Lib.tabData .u64 Lib.pow10Tab)) : Itoa.Tabs W := by
  obtain ⟨g, t, cs, fuel, p, hg, hty, hvar, hd⟩ := h
  have e1 : Tryd.prog.globalNamed "internal/strconv.uint64pow10" = some 2 := by kernel_rfl
  have e2 : (Tryd.prog.globals[2]?).map (·.type) = some 80 := by kernel_rfl
  obtain rfl := Option.some.inj (e1.symm.trans hg)
  obtain rfl := Option.some.inj (e2.symm.trans hty)
  unfold Itoa.Tabs Lib.TabIs
  rw [hvar, ← Lib.cells_of_tab Tryd.underlying80 Tryd.underlying73 (by kernel_rfl) (by kernel_rfl) hd]
end Go.Proofs.YtmcdcpejkldepaaDoor
