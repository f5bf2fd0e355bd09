/- law21: the reference's Nodes, Levels and Points on a set that may be nil. -/
import Derived.Test.YtenhfmlkdcfbbaaDoorRefC
namespace Go.Proofs.YtenhfmlkdcfbbaaDoor.PHyphenPoints
open Go.RowKit Go.Proofs.YtenhfmlkdcfbbaaDoorW.PrintWords Go.Proofs.YtenhfmlkdcfbbaaDoorW.PrintLast Go.Proofs.YtenhfmlkdcfbbaaDoorW.PrintMore
attribute [local go_sem] max2_int min2_int max_two min_two max_three min_three max_four min_four
set_option linter.unusedVariables false
set_option linter.unusedSimpArgs false
namespace Rf
def nodes (k : Nat) : Option RS → Option Int
 | none => some 0
 | some s => colophonref21_Set_Nodes.f k s.1
def levels (k : Nat) : Option RS → List Int → Option (List Int)
 | none, _ => some []
 | some s, l => colophonref21_Set_Levels.f k s.1 l
def points (k : Nat) : Option RS → List Int → Option (List Int)
 | none, _ => some []
 | some s, l => colophonref21_Set_Points.f k s.2 l s.1
set_option maxHeartbeats 2000000 in
theorem levels_nil (A1 : Option Addr) (c1 n : Nat) (w : World) :
  Calls Tryd.prog 18 #[.pointer none, .slice A1 n c1] w fun e w' => e = .returned (.slice none 0 0) ∧ w' = w := by
 go_enter Tryd.func18, Tryd.ntmps18
 go_wp2
 go_ret
 exact ⟨rfl, rfl⟩
set_option maxHeartbeats 2000000 in
theorem points_calls (k : Nat) (v : Value) (s : Option RS) (A1 : Option Addr) (c1 : Nat) (l1 : List Int) (r : List Int) (w : World) (hS : SetV w v s) (hr1 : Kd.C (Kd.int .i64) w A1 l1.length l1) (hc1 : l1.length ≤ c1) (h : points k s l1 = some r) :
  Calls Tryd.prog 20 #[v, .slice A1 l1.length c1] w fun e w' => ∃ v0_ : Value, e = .returned v0_ ∧ Kd.R (Kd.int .i64) 3 w' w.heap.size (fun _ => True) v0_ r ∧ Below w.heap.size w w' := by
 cases s with
 | none =>
  have hv : v = .pointer none := hS
  subst hv
  injection h with h
  subst h
  clear hr1 hc1
  go_enter Tryd.func20, Tryd.ntmps20
  go_wp2_with (first | ((with_reducible refine gate_callee (f := 18) rfl ?_); refine goesL_ (some 12) rfl rfl Tryd.func18 (by kernel_rfl) rfl #[.pointer none, .slice A1 l1.length c1] rfl (by (try simp only [List.map_toArray, List.map_cons, List.map_nil]); first | done | rfl) ?_; (with_reducible refine (levels_nil A1 c1 l1.length _).mono ?_); rintro e w3 ⟨rfl, rfl⟩; refine ⟨_, rfl, ?_⟩))
  go_ret
  exact ⟨_, rfl, Kd.R_nil _ _ _ _ _, Below.refl _ _⟩
 | some s =>
  obtain ⟨Rb, B1, d1, A2, c2, rfl, h2, h3, h4, h5, h6⟩ := hS
  exact colophonref21_Set_Points.calls k A2 c2 s.2 A1 c1 l1 B1 d1 s.1 r w h5 h6 hr1 hc1 h3 h4 h Rb h2
end Rf
end Go.Proofs.YtenhfmlkdcfbbaaDoor.PHyphenPoints
