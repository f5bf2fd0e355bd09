/- law21: the reference's Nodes, Levels and Points on a set that may be nil. -/
import Derived.Test.YtenhfmlkdcfbbaaDoorRefC
namespace Go.Proofs.YtenhfmlkdcfbbaaDoor.PHyphenPoints
open Go.RowKit Go.Proofs.YtenhfmlkdcfbbaaDoorW.PrintWords Go.Proofs.YtenhfmlkdcfbbaaDoorW.PrintLast Go.Proofs.YtenhfmlkdcfbbaaDoorW.PrintMore
attribute [local go_sem] max2_int min2_int max_two min_two max_three min_three max_four min_four
set_option linter.unusedVariables false
set_option linter.unusedSimpArgs false
namespace Rf
def nodes (k : Nat) : Option RS → Option Int
 | none => some 0
 | some s => colophonref21_Set_Nodes.f k s.1
def levels (k : Nat) : Option RS → List Int → Option (List Int)
 | none, _ => some []
 | some s, l => colophonref21_Set_Levels.f k s.1 l
def points (k : Nat) : Option RS → List Int → Option (List Int)
 | none, _ => some []
 | some s, l => colophonref21_Set_Points.f k s.2 l s.1
set_option maxHeartbeats 2000000 in
theorem nodes_calls (k : Nat) (v : Value) (s : Option RS) (r : Int) (w : World) (hS : SetV w v s) (h : nodes k s = some r) :
  Calls Tryd.prog 14 #[v] w fun e w' => e = .returned (.int .i64 r) ∧ Below w.heap.size w w' := by
 cases s with
 | none =>
  have hv : v = .pointer none := hS
  subst hv
  injection h with h
  subst h
  go_enter Tryd.func14, Tryd.ntmps14
  go_wp2
  go_ret
  exact ⟨rfl, Below.refl _ _⟩
 | some s =>
  obtain ⟨Rb, A1, c1, A2, c2, rfl, h2, h3, h4, h5, h6⟩ := hS
  exact colophonref21_Set_Nodes.calls k A1 c1 s.1 r w h3 h4 h Rb _ h2
end Rf
end Go.Proofs.YtenhfmlkdcfbbaaDoor.PHyphenPoints
