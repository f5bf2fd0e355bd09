/- law21: the reference's Nodes, Levels and Points on a set that may be nil. -/
import Derived.Test.YtenhfmlkdcfbbaaDoorRefC
namespace Go.Proofs.YtenhfmlkdcfbbaaDoor.PHyphenPoints
open Go.RowKit Go.Proofs.YtenhfmlkdcfbbaaDoorW.PrintWords Go.Proofs.YtenhfmlkdcfbbaaDoorW.PrintLast Go.Proofs.YtenhfmlkdcfbbaaDoorW.PrintMore
attribute [local go_sem] max2_int min2_int max_two min_two max_three min_three max_four min_four
set_option linter.unusedVariables false
set_option linter.unusedSimpArgs false
namespace Rf
def nodes (k : Nat) : Option RS → Option Int
 | none => some 0
 | some s => colophonref21_Set_Nodes.f k s.1
def levels (k : Nat) : Option RS → List Int → Option (List Int)
 | none, _ => some []
 | some s, l => colophonref21_Set_Levels.f k s.1 l
def points (k : Nat) : Option RS → List Int → Option (List Int)
 | none, _ => some []
 | some s, l => colophonref21_Set_Points.f k s.2 l s.1
end Rf
end Go.Proofs.YtenhfmlkdcfbbaaDoor.PHyphenPoints
