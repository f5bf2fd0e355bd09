/-
  No cell of these rows narrows 'for every input' (looked for: loops, veiled, ifaces, maps, wideKeys, modest, calm, conditions, laid).
  DERIVED. THE GIVEN ROWS OF THIS SEAT. 7 by the template 'for every input the law returns true; each argument reads behind the call as it read before'; 0 by the template 'total and deterministic' (their statements: YtohnllfbhlohfaaTotals.lean).
  GIVEN WITH THE SEED: the statements are not yours to turn. If you find one false, say at which input.
  Laid BY PROGRAM, IN A SANDBOX (cutbox-rows.mjs): the forced cells as the released guide's own fill.sh prints them over the translation f735af8458d27f3c… (all of the seat's roots in one cut). By AI agents, Wed Nov 11 2026. No macro, syntax, notation, axiom, sorry.
-/
import Derived.Test.YtohnllfbhlohfaaChecked
import GoSem.Claim
import GoSem.ClaimJoined
import GoSem.ClaimMapViews
import Derived.JoinedTies
import Derived.KernelRfl
namespace Go.Proofs.Ytohnllfbhlohfaa
/- THE CELL 'sum', in the pinned program and in every row, IS THE sha256 OF THE DUMP (.gsa) THAT YtohnllfbhlohfaaProg.lean LOADS. Nothing in Lean hashes anything: it is a label: what it is worth is what the hold of that sum in a sandbox is worth. -/
noncomputable def Try.pinned : Pinned := { name := "ytohnllfbhlohfaa", sum := "f735af8458d27f3c38202abed40537822c2261a6e2c67a1399f38875f1d76cc2", checked := Try.checked }
namespace Rows
def none {H : Type} : Left H := { results := [], args := [] }

/-- 'colophonlaw03.RectCorners': WHATEVER THE INPUT: true; the input reads as it did. -/
def rectCornersSpec : ChangeSpec := { name := "rectCorners", fn := fun _ => fun
  | [d1, d2] => { results := [.lit (.bool true)], args := [d1, d2] }
  | _ => none }
def rectCornersRow : OpenClaim := { program := "ytohnllfbhlohfaa", sum := "f735af8458d27f3c38202abed40537822c2261a6e2c67a1399f38875f1d76cc2", func := "colophon/colophonlaw03.RectCorners", spec := "rectCorners", apart := false }
def RectCornersSaid : Prop := rectCornersRow.holds Try.pinned (OpenSpec.ofChange rectCornersSpec)

/-- ITS FALSE NEIGHBOUR: 'it returns false'. Refute it at one input. -/
def rectCornersWrong : ChangeSpec := { name := "rectCorners", fn := fun _ => fun
  | [d1, d2] => { results := [.lit (.bool false)], args := [d1, d2] }
  | _ => none }
def RectCornersWrongFalsely : Prop := rectCornersRow.holds Try.pinned (OpenSpec.ofChange rectCornersWrong)

/-- 'colophonlaw03.RectTwo': WHATEVER THE INPUT: true; the input reads as it did. -/
def rectTwoSpec : ChangeSpec := { name := "rectTwo", fn := fun _ => fun
  | [d1, d2] => { results := [.lit (.bool true)], args := [d1, d2] }
  | _ => none }
def rectTwoRow : OpenClaim := { program := "ytohnllfbhlohfaa", sum := "f735af8458d27f3c38202abed40537822c2261a6e2c67a1399f38875f1d76cc2", func := "colophon/colophonlaw03.RectTwo", spec := "rectTwo", apart := false }
def RectTwoSaid : Prop := rectTwoRow.holds Try.pinned (OpenSpec.ofChange rectTwoSpec)

/-- ITS FALSE NEIGHBOUR: 'it returns false'. Refute it at one input. -/
def rectTwoWrong : ChangeSpec := { name := "rectTwo", fn := fun _ => fun
  | [d1, d2] => { results := [.lit (.bool false)], args := [d1, d2] }
  | _ => none }
def RectTwoWrongFalsely : Prop := rectTwoRow.holds Try.pinned (OpenSpec.ofChange rectTwoWrong)

/-- 'colophonlaw03.RectPoints': WHATEVER THE INPUT: true; the input reads as it did. -/
def rectPointsSpec : ChangeSpec := { name := "rectPoints", fn := fun _ => fun
  | [d1, d2, d3] => { results := [.lit (.bool true)], args := [d1, d2, d3] }
  | _ => none }
def rectPointsRow : OpenClaim := { program := "ytohnllfbhlohfaa", sum := "f735af8458d27f3c38202abed40537822c2261a6e2c67a1399f38875f1d76cc2", func := "colophon/colophonlaw03.RectPoints", spec := "rectPoints", apart := false }
def RectPointsSaid : Prop := rectPointsRow.holds Try.pinned (OpenSpec.ofChange rectPointsSpec)

/-- ITS FALSE NEIGHBOUR: 'it returns false'. Refute it at one input. -/
def rectPointsWrong : ChangeSpec := { name := "rectPoints", fn := fun _ => fun
  | [d1, d2, d3] => { results := [.lit (.bool false)], args := [d1, d2, d3] }
  | _ => none }
def RectPointsWrongFalsely : Prop := rectPointsRow.holds Try.pinned (OpenSpec.ofChange rectPointsWrong)

/-- 'colophonlaw03.RectLattice': WHATEVER THE INPUT: true; the input reads as it did. -/
def rectLatticeSpec : ChangeSpec := { name := "rectLattice", fn := fun _ => fun
  | [d1, d2] => { results := [.lit (.bool true)], args := [d1, d2] }
  | _ => none }
def rectLatticeRow : OpenClaim := { program := "ytohnllfbhlohfaa", sum := "f735af8458d27f3c38202abed40537822c2261a6e2c67a1399f38875f1d76cc2", func := "colophon/colophonlaw03.RectLattice", spec := "rectLattice", apart := false }
def RectLatticeSaid : Prop := rectLatticeRow.holds Try.pinned (OpenSpec.ofChange rectLatticeSpec)

/-- ITS FALSE NEIGHBOUR: 'it returns false'. Refute it at one input. -/
def rectLatticeWrong : ChangeSpec := { name := "rectLattice", fn := fun _ => fun
  | [d1, d2] => { results := [.lit (.bool false)], args := [d1, d2] }
  | _ => none }
def RectLatticeWrongFalsely : Prop := rectLatticeRow.holds Try.pinned (OpenSpec.ofChange rectLatticeWrong)

/-- 'colophonlaw03.RectMoves': WHATEVER THE INPUT: true; the input reads as it did. -/
def rectMovesSpec : ChangeSpec := { name := "rectMoves", fn := fun _ => fun
  | [d1, d2, d3] => { results := [.lit (.bool true)], args := [d1, d2, d3] }
  | _ => none }
def rectMovesRow : OpenClaim := { program := "ytohnllfbhlohfaa", sum := "f735af8458d27f3c38202abed40537822c2261a6e2c67a1399f38875f1d76cc2", func := "colophon/colophonlaw03.RectMoves", spec := "rectMoves", apart := false }
def RectMovesSaid : Prop := rectMovesRow.holds Try.pinned (OpenSpec.ofChange rectMovesSpec)

/-- ITS FALSE NEIGHBOUR: 'it returns false'. Refute it at one input. -/
def rectMovesWrong : ChangeSpec := { name := "rectMoves", fn := fun _ => fun
  | [d1, d2, d3] => { results := [.lit (.bool false)], args := [d1, d2, d3] }
  | _ => none }
def RectMovesWrongFalsely : Prop := rectMovesRow.holds Try.pinned (OpenSpec.ofChange rectMovesWrong)

/-- 'colophonlaw03.RectBack': WHATEVER THE INPUT: true; the input reads as it did. -/
def rectBackSpec : ChangeSpec := { name := "rectBack", fn := fun _ => fun
  | [d1, d2, d3] => { results := [.lit (.bool true)], args := [d1, d2, d3] }
  | _ => none }
def rectBackRow : OpenClaim := { program := "ytohnllfbhlohfaa", sum := "f735af8458d27f3c38202abed40537822c2261a6e2c67a1399f38875f1d76cc2", func := "colophon/colophonlaw03.RectBack", spec := "rectBack", apart := false }
def RectBackSaid : Prop := rectBackRow.holds Try.pinned (OpenSpec.ofChange rectBackSpec)

/-- ITS FALSE NEIGHBOUR: 'it returns false'. Refute it at one input. -/
def rectBackWrong : ChangeSpec := { name := "rectBack", fn := fun _ => fun
  | [d1, d2, d3] => { results := [.lit (.bool false)], args := [d1, d2, d3] }
  | _ => none }
def RectBackWrongFalsely : Prop := rectBackRow.holds Try.pinned (OpenSpec.ofChange rectBackWrong)

/-- 'colophonlaw03.RectAll': WHATEVER THE INPUT: true; the input reads as it did. -/
def rectAllSpec : ChangeSpec := { name := "rectAll", fn := fun _ => fun
  | [d] => { results := [.lit (.bool true)], args := [d] }
  | _ => none }
def rectAllRow : OpenClaim := { program := "ytohnllfbhlohfaa", sum := "f735af8458d27f3c38202abed40537822c2261a6e2c67a1399f38875f1d76cc2", func := "colophon/colophonlaw03.RectAll", spec := "rectAll", apart := false }
def RectAllSaid : Prop := rectAllRow.holds Try.pinned (OpenSpec.ofChange rectAllSpec)

/-- ITS FALSE NEIGHBOUR: 'it returns false'. Refute it at one input. -/
def rectAllWrong : ChangeSpec := { name := "rectAll", fn := fun _ => fun
  | [d] => { results := [.lit (.bool false)], args := [d] }
  | _ => none }
def RectAllWrongFalsely : Prop := rectAllRow.holds Try.pinned (OpenSpec.ofChange rectAllWrong)

/- THE SECOND FORM. 'bulk': how many values and letters a reading holds, each counted each time it is reached (what is shared counts as often as it is met; a slice's spare places count too). A statement '..UptoSaid' is the law's where the arguments, and the package variables that the reading takes, are together of bulk at most 1048576: NARROWER than '..Said'. Prove '..Said' where nothing that the law and all that it calls make is longer than what came in: it says more and counts as full. Else prove '..UptoSaid'. A law counts once. -/
mutual
def uptoBulk {H : Type} : DataW H → Nat
  | .lit (.string bytes) => bytes.length + 1
  | .lit _ => 1
  | .nil => 1
  | .ptr d => uptoBulk d + 1
  | .slice elems spare => uptoBulkAll elems + uptoBulkAll spare + 1
  | .agg parts => uptoBulkAll parts + 1
  | .iface _ d => uptoBulk d + 1
  | .map entries => uptoBulkEntries entries + 1
  | .held _ => 1
def uptoBulkAll {H : Type} : List (DataW H) → Nat
  | [] => 0
  | d :: r => uptoBulk d + uptoBulkAll r
def uptoBulkEntries {H : Type} : List (Lit × DataW H) → Nat
  | [] => 0
  | x :: r => uptoBulkEntry x + uptoBulkEntries r
def uptoBulkEntry {H : Type} : Lit × DataW H → Nat
  | (.string bytes, d) => bytes.length + uptoBulk d + 1
  | (_, d) => uptoBulk d + 1
 end
def uptoSmall : (H : Type) → List (DataW H) → Bool := fun _ ds => decide (uptoBulkAll ds ≤ 1048576)
def OpenSpec.upto (s : _root_.Go.ChangeSpec) : _root_.Go.OpenSpec := { _root_.Go.OpenSpec.ofChange s with cond := some uptoSmall }

/-- 'colophonlaw03.RectCorners', WHERE WHAT IT READS IS OF BULK AT MOST 1048576: true; the input reads as it did. -/
def rectCornersUptoRow : OpenClaim := { program := "ytohnllfbhlohfaa", sum := "f735af8458d27f3c38202abed40537822c2261a6e2c67a1399f38875f1d76cc2", func := "colophon/colophonlaw03.RectCorners", spec := "rectCorners", apart := false, narrowed := true }
def RectCornersUptoSaid : Prop := rectCornersUptoRow.holds Try.pinned (OpenSpec.upto rectCornersSpec)

/-- 'colophonlaw03.RectTwo', WHERE WHAT IT READS IS OF BULK AT MOST 1048576: true; the input reads as it did. -/
def rectTwoUptoRow : OpenClaim := { program := "ytohnllfbhlohfaa", sum := "f735af8458d27f3c38202abed40537822c2261a6e2c67a1399f38875f1d76cc2", func := "colophon/colophonlaw03.RectTwo", spec := "rectTwo", apart := false, narrowed := true }
def RectTwoUptoSaid : Prop := rectTwoUptoRow.holds Try.pinned (OpenSpec.upto rectTwoSpec)

/-- 'colophonlaw03.RectPoints', WHERE WHAT IT READS IS OF BULK AT MOST 1048576: true; the input reads as it did. -/
def rectPointsUptoRow : OpenClaim := { program := "ytohnllfbhlohfaa", sum := "f735af8458d27f3c38202abed40537822c2261a6e2c67a1399f38875f1d76cc2", func := "colophon/colophonlaw03.RectPoints", spec := "rectPoints", apart := false, narrowed := true }
def RectPointsUptoSaid : Prop := rectPointsUptoRow.holds Try.pinned (OpenSpec.upto rectPointsSpec)

/-- 'colophonlaw03.RectLattice', WHERE WHAT IT READS IS OF BULK AT MOST 1048576: true; the input reads as it did. -/
def rectLatticeUptoRow : OpenClaim := { program := "ytohnllfbhlohfaa", sum := "f735af8458d27f3c38202abed40537822c2261a6e2c67a1399f38875f1d76cc2", func := "colophon/colophonlaw03.RectLattice", spec := "rectLattice", apart := false, narrowed := true }
def RectLatticeUptoSaid : Prop := rectLatticeUptoRow.holds Try.pinned (OpenSpec.upto rectLatticeSpec)

/-- 'colophonlaw03.RectMoves', WHERE WHAT IT READS IS OF BULK AT MOST 1048576: true; the input reads as it did. -/
def rectMovesUptoRow : OpenClaim := { program := "ytohnllfbhlohfaa", sum := "f735af8458d27f3c38202abed40537822c2261a6e2c67a1399f38875f1d76cc2", func := "colophon/colophonlaw03.RectMoves", spec := "rectMoves", apart := false, narrowed := true }
def RectMovesUptoSaid : Prop := rectMovesUptoRow.holds Try.pinned (OpenSpec.upto rectMovesSpec)

/-- 'colophonlaw03.RectBack', WHERE WHAT IT READS IS OF BULK AT MOST 1048576: true; the input reads as it did. -/
def rectBackUptoRow : OpenClaim := { program := "ytohnllfbhlohfaa", sum := "f735af8458d27f3c38202abed40537822c2261a6e2c67a1399f38875f1d76cc2", func := "colophon/colophonlaw03.RectBack", spec := "rectBack", apart := false, narrowed := true }
def RectBackUptoSaid : Prop := rectBackUptoRow.holds Try.pinned (OpenSpec.upto rectBackSpec)

/-- 'colophonlaw03.RectAll', WHERE WHAT IT READS IS OF BULK AT MOST 1048576: true; the input reads as it did. -/
def rectAllUptoRow : OpenClaim := { program := "ytohnllfbhlohfaa", sum := "f735af8458d27f3c38202abed40537822c2261a6e2c67a1399f38875f1d76cc2", func := "colophon/colophonlaw03.RectAll", spec := "rectAll", apart := false, narrowed := true }
def RectAllUptoSaid : Prop := rectAllUptoRow.holds Try.pinned (OpenSpec.upto rectAllSpec)

end Rows
end Go.Proofs.Ytohnllfbhlohfaa
