/- law21: the reference's set in memory. -/
import Derived.Test.YtenhfmlkdcfbbaaDoorPHyphenPointsx10
import Derived.Test.YtenhfmlkdcfbbaaDoorPHyphenPointsx9
import Derived.Test.YtenhfmlkdcfbbaaDoorPHyphenPointsx8
import Derived.Test.YtenhfmlkdcfbbaaDoorPHyphenPointsx5
import Derived.Test.YtenhfmlkdcfbbaaDoorPHyphenPointsx1
import Derived.WalkSpells
namespace Go.Proofs.YtenhfmlkdcfbbaaDoor.PHyphenPoints
open Go.RowKit Go.Proofs.YtenhfmlkdcfbbaaDoorW.PrintWords Go.Proofs.YtenhfmlkdcfbbaaDoorW.PrintLast Go.Proofs.YtenhfmlkdcfbbaaDoorW.PrintMore
attribute [local go_sem] max2_int min2_int max_two min_two max_three min_three max_four min_four
set_option linter.unusedVariables false
set_option linter.unusedSimpArgs false
def rd_L1 (xs : List (List Int)) (i : Int) : (List Int) := xs.getD i.toNat ([] : List Int)
structure S66 where
 f0 : (List Int)
 f1 : Bool
 f2 : Bool
 f3 : (List Int)
def z66 : S66 := ⟨([] : List Int), false, false, ([] : List Int)⟩
def k66 : Kd S66 := Kd.iso (Kd.pair (Kd.slice 3 (Kd.int .i64)) (Kd.pair Kd.bool (Kd.pair Kd.bool (Kd.slice 3 (Kd.int .i64))))) (fun x : S66 => (x.f0, x.f1, x.f2, x.f3))
def rd_T66 (xs : List S66) (i : Int) : S66 := xs.getD i.toNat z66
structure S72 where
 f0 : (List Int)
 f1 : (List Int)
def z72 : S72 := ⟨([] : List Int), ([] : List Int)⟩
def k72 : Kd S72 := Kd.iso (Kd.pair (Kd.slice 3 (Kd.int .i64)) (Kd.slice 3 (Kd.int .i64))) (fun x : S72 => (x.f0, x.f1))
def rd_T72 (xs : List S72) (i : Int) : S72 := xs.getD i.toNat z72
namespace Rf
abbrev RS := List S66 × List S72
def SetV (W : World) (v : Value) : Option RS → Prop
 | none => v = .pointer none
 | some s => ∃ Rb A1 c1 A2 c2, v = .pointer (some ⟨Rb, 0, none⟩) ∧ W.heap[Rb]? = some (.cells #[.slice A1 s.1.length c1, .slice A2 s.2.length c2] 62 (0, 0)) ∧ Kd.C k66 W A1 s.1.length s.1 ∧ s.1.length ≤ c1 ∧ Kd.C k72 W A2 s.2.length s.2 ∧ s.2.length ≤ c2
theorem SetV.below {W W1 : World} {v : Value} {s : Option RS} (h : SetV W v s) (hb : Below W.heap.size W W1) : SetV W1 v s := by
 cases s with
 | none => exact h
 | some s =>
  obtain ⟨Rb, A1, c1, A2, c2, h1, h2, h3, h4, h5, h6⟩ := h
  exact ⟨Rb, A1, c1, A2, c2, h1, (hb.block _ (blk_lt h2)).trans h2, Kd.C_below h3 hb, h4, Kd.C_below h5 hb, h6⟩
end Rf
end Go.Proofs.YtenhfmlkdcfbbaaDoor.PHyphenPoints
