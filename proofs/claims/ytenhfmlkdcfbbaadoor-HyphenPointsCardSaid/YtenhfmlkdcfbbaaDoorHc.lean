/- law21: HyphenCompiles' own function (3), walked; what its calls tell is asked as one premise. -/
import Derived.Test.YtenhfmlkdcfbbaaDoorWk
import Derived.Test.YtenhfmlkdcfbbaaDoorRn
import Derived.Test.YtenhfmlkdcfbbaaDoorRcm
import Derived.Test.YtenhfmlkdcfbbaaDoorWay
import Derived.Test.YtenhfmlkdcfbbaaDoorPHyphenPointsx1
namespace Go.Proofs.YtenhfmlkdcfbbaaDoor.PHyphenPoints
open Go.RowKit Go.Proofs.YtenhfmlkdcfbbaaDoorW.PrintWords Go.Proofs.YtenhfmlkdcfbbaaDoorW.PrintLast Go.Proofs.YtenhfmlkdcfbbaaDoorW.PrintMore
attribute [local go_sem] max2_int min2_int max_two min_two max_three min_three max_four min_four
set_option linter.unusedVariables false
set_option linter.unusedSimpArgs false
theorem blk_below {w W : World} {b : Nat} {o : Obj} (h : w.heap[b]? = some o) (hb : Below w.heap.size w W) : W.heap[b]? = some o := (hb.block b (blk_lt h)).trans h
structure Two (k : Nat) (a0 a1 : ByteArray) (s : Option Cp.HS) (t : Option Rf.RS) (at_ er : Int) : Prop where
 c : hyphen_Compile.f k a0 a1 = some (s, at_, er)
 o : hyphen_Compile.OK k a0 a1
 d : colophonref21_Compile.f k a0 a1 = some (t, at_, er)
 p : colophonref21_Compile.OK k a0 a1
 nil : s = none ↔ t = none
structure CompilesOk (k : Nat) (a0 a1 : ByteArray) : Prop where
 wk : ∃ s W1 W2, Wk.Ok k s W1 W2
 two : a0.size ≤ 3000 → a1.size ≤ 3000 → ∃ s t at_ er, Two k a0 a1 s t at_ er ∧ Rf.nodes k t = some (hyphen_Set_Nodes.f s)
noncomputable def colophonlaw21_HyphenCompiles.f (k : Nat) (a0 a1 : ByteArray) (l2 : List Int) : Option Bool := @ite _ (CompilesOk k a0 a1) (Classical.propDecidable _) (some true) none
end Go.Proofs.YtenhfmlkdcfbbaaDoor.PHyphenPoints
