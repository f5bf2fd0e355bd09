/-
  No cell of these rows narrows 'for every input' (looked for: loops, veiled, ifaces, maps, wideKeys, modest, calm, conditions, laid).
  DERIVED. THE GIVEN ROWS OF THIS SEAT. 5 by the template 'for every input the law returns true; each argument reads behind the call as it read before'; 0 by the template 'total and deterministic' (their statements: YtdoponngnjmkkaaTotals.lean).
  GIVEN WITH THE SEED: the statements are not yours to turn. If you find one false, say at which input.
  Laid BY PROGRAM, IN A SANDBOX (cutbox-rows.mjs): the forced cells as the released guide's own fill.sh prints them over the translation 2d4ff882d1d3e7ee… (all of the seat's roots in one cut). By AI agents, Wed Nov 11 2026. No macro, syntax, notation, axiom, sorry.
-/
import Derived.Test.YtdoponngnjmkkaaChecked
import GoSem.Claim
import GoSem.ClaimJoined
import GoSem.ClaimMapViews
import Derived.JoinedTies
import Derived.KernelRfl
namespace Go.Proofs.Ytdoponngnjmkkaa
/- THE CELL 'sum', in the pinned program and in every row, IS THE sha256 OF THE DUMP (.gsa) THAT YtdoponngnjmkkaaProg.lean LOADS. Nothing in Lean hashes anything: it is a label: what it is worth is what the hold of that sum in a sandbox is worth. -/
noncomputable def Try.pinned : Pinned := { name := "ytdoponngnjmkkaa", sum := "2d4ff882d1d3e7eec60f0cb5c3dd3e4ced930ac0ad151982c8d8ce71513916f2", checked := Try.checked }
namespace Rows
def none {H : Type} : Left H := { results := [], args := [] }

/-- 'colophonlaw29.AnchorsKnots': WHATEVER THE INPUT: true; the input reads as it did. -/
def anchorsKnotsSpec : ChangeSpec := { name := "anchorsKnots", fn := fun _ => fun
  | [d] => { results := [.lit (.bool true)], args := [d] }
  | _ => none }
def anchorsKnotsRow : OpenClaim := { program := "ytdoponngnjmkkaa", sum := "2d4ff882d1d3e7eec60f0cb5c3dd3e4ced930ac0ad151982c8d8ce71513916f2", func := "colophon/colophonlaw29.AnchorsKnots", spec := "anchorsKnots", apart := false }
def AnchorsKnotsSaid : Prop := anchorsKnotsRow.holds Try.pinned (OpenSpec.ofChange anchorsKnotsSpec)

/-- ITS FALSE NEIGHBOUR: 'it returns false'. Refute it at one input. -/
def anchorsKnotsWrong : ChangeSpec := { name := "anchorsKnots", fn := fun _ => fun
  | [d] => { results := [.lit (.bool false)], args := [d] }
  | _ => none }
def AnchorsKnotsWrongFalsely : Prop := anchorsKnotsRow.holds Try.pinned (OpenSpec.ofChange anchorsKnotsWrong)

/-- 'colophonlaw29.AnchorsReach': WHATEVER THE INPUT: true; the input reads as it did. -/
def anchorsReachSpec : ChangeSpec := { name := "anchorsReach", fn := fun _ => fun
  | [d] => { results := [.lit (.bool true)], args := [d] }
  | _ => none }
def anchorsReachRow : OpenClaim := { program := "ytdoponngnjmkkaa", sum := "2d4ff882d1d3e7eec60f0cb5c3dd3e4ced930ac0ad151982c8d8ce71513916f2", func := "colophon/colophonlaw29.AnchorsReach", spec := "anchorsReach", apart := false }
def AnchorsReachSaid : Prop := anchorsReachRow.holds Try.pinned (OpenSpec.ofChange anchorsReachSpec)

/-- ITS FALSE NEIGHBOUR: 'it returns false'. Refute it at one input. -/
def anchorsReachWrong : ChangeSpec := { name := "anchorsReach", fn := fun _ => fun
  | [d] => { results := [.lit (.bool false)], args := [d] }
  | _ => none }
def AnchorsReachWrongFalsely : Prop := anchorsReachRow.holds Try.pinned (OpenSpec.ofChange anchorsReachWrong)

/-- 'colophonlaw29.AnchorsBoth': WHATEVER THE INPUT: true; the input reads as it did. -/
def anchorsBothSpec : ChangeSpec := { name := "anchorsBoth", fn := fun _ => fun
  | [d] => { results := [.lit (.bool true)], args := [d] }
  | _ => none }
def anchorsBothRow : OpenClaim := { program := "ytdoponngnjmkkaa", sum := "2d4ff882d1d3e7eec60f0cb5c3dd3e4ced930ac0ad151982c8d8ce71513916f2", func := "colophon/colophonlaw29.AnchorsBoth", spec := "anchorsBoth", apart := false }
def AnchorsBothSaid : Prop := anchorsBothRow.holds Try.pinned (OpenSpec.ofChange anchorsBothSpec)

/-- ITS FALSE NEIGHBOUR: 'it returns false'. Refute it at one input. -/
def anchorsBothWrong : ChangeSpec := { name := "anchorsBoth", fn := fun _ => fun
  | [d] => { results := [.lit (.bool false)], args := [d] }
  | _ => none }
def AnchorsBothWrongFalsely : Prop := anchorsBothRow.holds Try.pinned (OpenSpec.ofChange anchorsBothWrong)

/-- 'colophonlaw29.AnchorsFrags': WHATEVER THE INPUT: true; the input reads as it did. -/
def anchorsFragsSpec : ChangeSpec := { name := "anchorsFrags", fn := fun _ => fun
  | [d] => { results := [.lit (.bool true)], args := [d] }
  | _ => none }
def anchorsFragsRow : OpenClaim := { program := "ytdoponngnjmkkaa", sum := "2d4ff882d1d3e7eec60f0cb5c3dd3e4ced930ac0ad151982c8d8ce71513916f2", func := "colophon/colophonlaw29.AnchorsFrags", spec := "anchorsFrags", apart := false }
def AnchorsFragsSaid : Prop := anchorsFragsRow.holds Try.pinned (OpenSpec.ofChange anchorsFragsSpec)

/-- ITS FALSE NEIGHBOUR: 'it returns false'. Refute it at one input. -/
def anchorsFragsWrong : ChangeSpec := { name := "anchorsFrags", fn := fun _ => fun
  | [d] => { results := [.lit (.bool false)], args := [d] }
  | _ => none }
def AnchorsFragsWrongFalsely : Prop := anchorsFragsRow.holds Try.pinned (OpenSpec.ofChange anchorsFragsWrong)

/-- 'colophonlaw29.AnchorsResolve': WHATEVER THE INPUT: true; the input reads as it did. -/
def anchorsResolveSpec : ChangeSpec := { name := "anchorsResolve", fn := fun _ => fun
  | [d1, d2] => { results := [.lit (.bool true)], args := [d1, d2] }
  | _ => none }
def anchorsResolveRow : OpenClaim := { program := "ytdoponngnjmkkaa", sum := "2d4ff882d1d3e7eec60f0cb5c3dd3e4ced930ac0ad151982c8d8ce71513916f2", func := "colophon/colophonlaw29.AnchorsResolve", spec := "anchorsResolve", apart := false }
def AnchorsResolveSaid : Prop := anchorsResolveRow.holds Try.pinned (OpenSpec.ofChange anchorsResolveSpec)

/-- ITS FALSE NEIGHBOUR: 'it returns false'. Refute it at one input. -/
def anchorsResolveWrong : ChangeSpec := { name := "anchorsResolve", fn := fun _ => fun
  | [d1, d2] => { results := [.lit (.bool false)], args := [d1, d2] }
  | _ => none }
def AnchorsResolveWrongFalsely : Prop := anchorsResolveRow.holds Try.pinned (OpenSpec.ofChange anchorsResolveWrong)

/- THE SECOND FORM. 'bulk': how many values and letters a reading holds, each counted each time it is reached (what is shared counts as often as it is met; a slice's spare places count too). A statement '..UptoSaid' is the law's where the arguments, and the package variables that the reading takes, are together of bulk at most 1048576: NARROWER than '..Said'. Prove '..Said' where nothing that the law and all that it calls make is longer than what came in: it says more and counts as full. Else prove '..UptoSaid'. A law counts once. -/
mutual
def uptoBulk {H : Type} : DataW H → Nat
  | .lit (.string bytes) => bytes.length + 1
  | .lit _ => 1
  | .nil => 1
  | .ptr d => uptoBulk d + 1
  | .slice elems spare => uptoBulkAll elems + uptoBulkAll spare + 1
  | .agg parts => uptoBulkAll parts + 1
  | .iface _ d => uptoBulk d + 1
  | .map entries => uptoBulkEntries entries + 1
  | .held _ => 1
def uptoBulkAll {H : Type} : List (DataW H) → Nat
  | [] => 0
  | d :: r => uptoBulk d + uptoBulkAll r
def uptoBulkEntries {H : Type} : List (Lit × DataW H) → Nat
  | [] => 0
  | x :: r => uptoBulkEntry x + uptoBulkEntries r
def uptoBulkEntry {H : Type} : Lit × DataW H → Nat
  | (.string bytes, d) => bytes.length + uptoBulk d + 1
  | (_, d) => uptoBulk d + 1
 end
def uptoSmall : (H : Type) → List (DataW H) → Bool := fun _ ds => decide (uptoBulkAll ds ≤ 1048576)
def OpenSpec.upto (s : _root_.Go.ChangeSpec) : _root_.Go.OpenSpec := { _root_.Go.OpenSpec.ofChange s with cond := some uptoSmall }

/-- 'colophonlaw29.AnchorsKnots', WHERE WHAT IT READS IS OF BULK AT MOST 1048576: true; the input reads as it did. -/
def anchorsKnotsUptoRow : OpenClaim := { program := "ytdoponngnjmkkaa", sum := "2d4ff882d1d3e7eec60f0cb5c3dd3e4ced930ac0ad151982c8d8ce71513916f2", func := "colophon/colophonlaw29.AnchorsKnots", spec := "anchorsKnots", apart := false, narrowed := true }
def AnchorsKnotsUptoSaid : Prop := anchorsKnotsUptoRow.holds Try.pinned (OpenSpec.upto anchorsKnotsSpec)

/-- 'colophonlaw29.AnchorsReach', WHERE WHAT IT READS IS OF BULK AT MOST 1048576: true; the input reads as it did. -/
def anchorsReachUptoRow : OpenClaim := { program := "ytdoponngnjmkkaa", sum := "2d4ff882d1d3e7eec60f0cb5c3dd3e4ced930ac0ad151982c8d8ce71513916f2", func := "colophon/colophonlaw29.AnchorsReach", spec := "anchorsReach", apart := false, narrowed := true }
def AnchorsReachUptoSaid : Prop := anchorsReachUptoRow.holds Try.pinned (OpenSpec.upto anchorsReachSpec)

/-- 'colophonlaw29.AnchorsBoth', WHERE WHAT IT READS IS OF BULK AT MOST 1048576: true; the input reads as it did. -/
def anchorsBothUptoRow : OpenClaim := { program := "ytdoponngnjmkkaa", sum := "2d4ff882d1d3e7eec60f0cb5c3dd3e4ced930ac0ad151982c8d8ce71513916f2", func := "colophon/colophonlaw29.AnchorsBoth", spec := "anchorsBoth", apart := false, narrowed := true }
def AnchorsBothUptoSaid : Prop := anchorsBothUptoRow.holds Try.pinned (OpenSpec.upto anchorsBothSpec)

/-- 'colophonlaw29.AnchorsFrags', WHERE WHAT IT READS IS OF BULK AT MOST 1048576: true; the input reads as it did. -/
def anchorsFragsUptoRow : OpenClaim := { program := "ytdoponngnjmkkaa", sum := "2d4ff882d1d3e7eec60f0cb5c3dd3e4ced930ac0ad151982c8d8ce71513916f2", func := "colophon/colophonlaw29.AnchorsFrags", spec := "anchorsFrags", apart := false, narrowed := true }
def AnchorsFragsUptoSaid : Prop := anchorsFragsUptoRow.holds Try.pinned (OpenSpec.upto anchorsFragsSpec)

/-- 'colophonlaw29.AnchorsResolve', WHERE WHAT IT READS IS OF BULK AT MOST 1048576: true; the input reads as it did. -/
def anchorsResolveUptoRow : OpenClaim := { program := "ytdoponngnjmkkaa", sum := "2d4ff882d1d3e7eec60f0cb5c3dd3e4ced930ac0ad151982c8d8ce71513916f2", func := "colophon/colophonlaw29.AnchorsResolve", spec := "anchorsResolve", apart := false, narrowed := true }
def AnchorsResolveUptoSaid : Prop := anchorsResolveUptoRow.holds Try.pinned (OpenSpec.upto anchorsResolveSpec)

end Rows
end Go.Proofs.Ytdoponngnjmkkaa
