/- The builder's WriteRune at this dump: the laying of its bodies and one application of the shelf's contract. -/
import Derived.Shelf.Strings.BuilderRune
import Derived.Shelf.Strings.BuilderK
import Derived.Test.YtenhfmlkdcfbbaaDoorProg
import Derived.Test.YtenhfmlkdcfbbaaDoorShelf
namespace Go.Proofs
open Go.Shelf Go.RowKit
def Tryd.lays168_ren : Go.Shelf.Ren := ⟨fun | 168 => 53 | 240 => 56 | 242 => 57 | 276 => 58 | 278 => 59 | n => n, fun | 0 => 0 | 3 => 3 | 4 => 4 | 5 => 5 | 9 => 9 | 20 => 20 | 21 => 21 | 37 => 98 | 46 => 109 | 51 => 115 | 70 => 97 | 72 => 100 | 75 => 102 | 80 => 105 | 164 => 113 | n => n, fun | n => n⟩
theorem Tryd.lays168 : Go.Proofs.Lays.n168 Tryd.prog Tryd.lays168_ren := {
 mixed := by kernel_rfl
 f168 := Tryd.func53.trans (congrArg some (by kernel_rfl))
 f240 := Tryd.func56.trans (congrArg some (by kernel_rfl))
 f242 := Tryd.func57.trans (congrArg some (by kernel_rfl))
 f276 := Tryd.func58.trans (congrArg some (by kernel_rfl))
 f278 := Tryd.func59.trans (congrArg some (by kernel_rfl))
 t0 := Tryd.underlying0
 a0 := Tryd.isAgg0
 z0 := Tryd.sizeOf0
 v0 := Tryd.zeroValue0
 t3 := Tryd.underlying3
 a3 := Tryd.isAgg3
 z3 := Tryd.sizeOf3
 v3 := Tryd.zeroValue3
 t4 := Tryd.underlying4
 a4 := Tryd.isAgg4
 z4 := Tryd.sizeOf4
 v4 := Tryd.zeroValue4
 t5 := Tryd.underlying5
 a5 := Tryd.isAgg5
 z5 := Tryd.sizeOf5
 v5 := Tryd.zeroValue5
 t9 := Tryd.underlying9
 a9 := Tryd.isAgg9
 z9 := Tryd.sizeOf9
 v9 := Tryd.zeroValue9
 t20 := Tryd.underlying20
 a20 := Tryd.isAgg20
 z20 := Tryd.sizeOf20
 v20 := Tryd.zeroValue20
 t21 := Tryd.underlying21
 a21 := Tryd.isAgg21
 z21 := Tryd.sizeOf21
 v21 := Tryd.zeroValue21
 t37 := Tryd.underlying98
 a37 := Tryd.isAgg98
 z37 := Tryd.sizeOf98
 v37 := Tryd.zeroValue98
 t46 := Tryd.underlying109
 a46 := Tryd.isAgg109
 z46 := Tryd.sizeOf109
 v46 := Tryd.zeroValue109
 t51 := Tryd.underlying115
 a51 := Tryd.isAgg115
 z51 := Tryd.sizeOf115
 v51 := Tryd.zeroValue115
 t70 := Tryd.underlying97
 a70 := Tryd.isAgg97
 z70 := Tryd.sizeOf97
 v70 := Tryd.zeroValue97
 t72 := Tryd.underlying100
 a72 := Tryd.isAgg100
 z72 := Tryd.sizeOf100
 v72 := Tryd.zeroValue100
 t75 := Tryd.underlying102
 a75 := Tryd.isAgg102
 z75 := Tryd.sizeOf102
 v75 := Tryd.zeroValue102
 t164 := Tryd.underlying113
 a164 := Tryd.isAgg113
 z164 := Tryd.sizeOf113
 v164 := Tryd.zeroValue113
}
theorem Tryd.Builder_Extra_168 : Builder.Extra Tryd.prog Tryd.lays168_ren := {
 sizeBuilder := by kernel_rfl
 liesBuilder := by kernel_rfl
 t5 := Tryd.underlying5
 a5 := Tryd.isAgg5
 z5 := Tryd.sizeOf5
 v5 := Tryd.zeroValue5
 infoByte := by kernel_rfl
 cellsByte := by kernel_rfl
 sizeByte := by kernel_rfl
 neB5 := by decide
}
theorem Tryd.Builder_WriteRune_k (B b : Nat) (bs : List Value) (r : Int) (hr0 : -2147483648 ≤ r) (hr1 : r ≤ 2147483647) (w : World) (h : Lib.IsBuilderF 100 5 B b bs w) (hlen : bs.length + 4 ≤ 140737488355328) (hBw : B ≤ w.heap.size) :
  Calls Tryd.prog 53 #[.pointer (some ⟨b, 0, none⟩), .int .i32 r] w fun e w' => e = .returned (.tuple #[.int .i64 (Lib.runeCells r).length, .nilIface]) ∧ (Lib.BuilderAtF 100 5 B b (.pointer (some ⟨b, 0, none⟩)) (bs ++ Lib.runeCells r) w' ∧ Below B w w' ∧ Lib.OthersKept 5 (some b) w w') := Any.Builder_WriteRune_k Tryd.lays168 Tryd.Builder_Extra_168 B b bs r hr0 hr1 w h hlen hBw
end Go.Proofs
