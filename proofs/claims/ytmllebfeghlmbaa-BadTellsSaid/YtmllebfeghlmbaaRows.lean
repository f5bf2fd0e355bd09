/-
  No cell of these rows narrows 'for every input' (looked for: loops, veiled, ifaces, maps, wideKeys, modest, calm, conditions, laid).
  DERIVED. THE GIVEN ROWS OF THIS SEAT. 4 by the template 'for every input the law returns true; each argument reads behind the call as it read before'; 0 by the template 'total and deterministic' (their statements: YtmllebfeghlmbaaTotals.lean).
  GIVEN WITH THE SEED: the statements are not yours to turn. If you find one false, say at which input.
  Laid BY PROGRAM, IN A SANDBOX (cutbox-rows.mjs): the forced cells as the released guide's own fill.sh prints them over the translation 5b743b76e2438b9c… (all of the seat's roots in one cut). By AI agents, Wed Nov 11 2026. No macro, syntax, notation, axiom, sorry.
-/
import Derived.Test.YtmllebfeghlmbaaChecked
import GoSem.Claim
import GoSem.ClaimJoined
import GoSem.ClaimMapViews
import Derived.JoinedTies
import Derived.KernelRfl
namespace Go.Proofs.Ytmllebfeghlmbaa
/- THE CELL 'sum', in the pinned program and in every row, IS THE sha256 OF THE DUMP (.gsa) THAT YtmllebfeghlmbaaProg.lean LOADS. Nothing in Lean hashes anything: it is a label: what it is worth is what the hold of that sum in a sandbox is worth. -/
noncomputable def Try.pinned : Pinned := { name := "ytmllebfeghlmbaa", sum := "5b743b76e2438b9c9d6179e8bf66a5978584e22ced69f02a6616bb84047f2dc8", checked := Try.checked }
namespace Rows
def none {H : Type} : Left H := { results := [], args := [] }

/-- 'colophonlaw23.BadTells': WHATEVER THE INPUT: true; the input reads as it did. -/
def badTellsSpec : ChangeSpec := { name := "badTells", fn := fun _ => fun
  | [d1, d2, d3] => { results := [.lit (.bool true)], args := [d1, d2, d3] }
  | _ => none }
def badTellsRow : OpenClaim := { program := "ytmllebfeghlmbaa", sum := "5b743b76e2438b9c9d6179e8bf66a5978584e22ced69f02a6616bb84047f2dc8", func := "colophon/colophonlaw23.BadTells", spec := "badTells", apart := false }
def BadTellsSaid : Prop := badTellsRow.holds Try.pinned (OpenSpec.ofChange badTellsSpec)

/-- ITS FALSE NEIGHBOUR: 'it returns false'. Refute it at one input. -/
def badTellsWrong : ChangeSpec := { name := "badTells", fn := fun _ => fun
  | [d1, d2, d3] => { results := [.lit (.bool false)], args := [d1, d2, d3] }
  | _ => none }
def BadTellsWrongFalsely : Prop := badTellsRow.holds Try.pinned (OpenSpec.ofChange badTellsWrong)

/-- 'colophonlaw23.BadLines': WHATEVER THE INPUT: true; the input reads as it did. -/
def badLinesSpec : ChangeSpec := { name := "badLines", fn := fun _ => fun
  | [d1, d2, d3] => { results := [.lit (.bool true)], args := [d1, d2, d3] }
  | _ => none }
def badLinesRow : OpenClaim := { program := "ytmllebfeghlmbaa", sum := "5b743b76e2438b9c9d6179e8bf66a5978584e22ced69f02a6616bb84047f2dc8", func := "colophon/colophonlaw23.BadLines", spec := "badLines", apart := false }
def BadLinesSaid : Prop := badLinesRow.holds Try.pinned (OpenSpec.ofChange badLinesSpec)

/-- ITS FALSE NEIGHBOUR: 'it returns false'. Refute it at one input. -/
def badLinesWrong : ChangeSpec := { name := "badLines", fn := fun _ => fun
  | [d1, d2, d3] => { results := [.lit (.bool false)], args := [d1, d2, d3] }
  | _ => none }
def BadLinesWrongFalsely : Prop := badLinesRow.holds Try.pinned (OpenSpec.ofChange badLinesWrong)

/-- 'colophonlaw23.BadGrows': WHATEVER THE INPUT: true; the input reads as it did. -/
def badGrowsSpec : ChangeSpec := { name := "badGrows", fn := fun _ => fun
  | [d1, d2, d3] => { results := [.lit (.bool true)], args := [d1, d2, d3] }
  | _ => none }
def badGrowsRow : OpenClaim := { program := "ytmllebfeghlmbaa", sum := "5b743b76e2438b9c9d6179e8bf66a5978584e22ced69f02a6616bb84047f2dc8", func := "colophon/colophonlaw23.BadGrows", spec := "badGrows", apart := false }
def BadGrowsSaid : Prop := badGrowsRow.holds Try.pinned (OpenSpec.ofChange badGrowsSpec)

/-- ITS FALSE NEIGHBOUR: 'it returns false'. Refute it at one input. -/
def badGrowsWrong : ChangeSpec := { name := "badGrows", fn := fun _ => fun
  | [d1, d2, d3] => { results := [.lit (.bool false)], args := [d1, d2, d3] }
  | _ => none }
def BadGrowsWrongFalsely : Prop := badGrowsRow.holds Try.pinned (OpenSpec.ofChange badGrowsWrong)

/-- 'colophonlaw23.BadPairs': WHATEVER THE INPUT: true; the input reads as it did. -/
def badPairsSpec : ChangeSpec := { name := "badPairs", fn := fun _ => fun
  | [d] => { results := [.lit (.bool true)], args := [d] }
  | _ => none }
def badPairsRow : OpenClaim := { program := "ytmllebfeghlmbaa", sum := "5b743b76e2438b9c9d6179e8bf66a5978584e22ced69f02a6616bb84047f2dc8", func := "colophon/colophonlaw23.BadPairs", spec := "badPairs", apart := false }
def BadPairsSaid : Prop := badPairsRow.holds Try.pinned (OpenSpec.ofChange badPairsSpec)

/-- ITS FALSE NEIGHBOUR: 'it returns false'. Refute it at one input. -/
def badPairsWrong : ChangeSpec := { name := "badPairs", fn := fun _ => fun
  | [d] => { results := [.lit (.bool false)], args := [d] }
  | _ => none }
def BadPairsWrongFalsely : Prop := badPairsRow.holds Try.pinned (OpenSpec.ofChange badPairsWrong)

/- THE SECOND FORM. 'bulk': how many values and letters a reading holds, each counted each time it is reached (what is shared counts as often as it is met; a slice's spare places count too). A statement '..UptoSaid' is the law's where the arguments, and the package variables that the reading takes, are together of bulk at most 1048576: NARROWER than '..Said'. Prove '..Said' where nothing that the law and all that it calls make is longer than what came in: it says more and counts as full. Else prove '..UptoSaid'. A law counts once. -/
mutual
def uptoBulk {H : Type} : DataW H → Nat
  | .lit (.string bytes) => bytes.length + 1
  | .lit _ => 1
  | .nil => 1
  | .ptr d => uptoBulk d + 1
  | .slice elems spare => uptoBulkAll elems + uptoBulkAll spare + 1
  | .agg parts => uptoBulkAll parts + 1
  | .iface _ d => uptoBulk d + 1
  | .map entries => uptoBulkEntries entries + 1
  | .held _ => 1
def uptoBulkAll {H : Type} : List (DataW H) → Nat
  | [] => 0
  | d :: r => uptoBulk d + uptoBulkAll r
def uptoBulkEntries {H : Type} : List (Lit × DataW H) → Nat
  | [] => 0
  | x :: r => uptoBulkEntry x + uptoBulkEntries r
def uptoBulkEntry {H : Type} : Lit × DataW H → Nat
  | (.string bytes, d) => bytes.length + uptoBulk d + 1
  | (_, d) => uptoBulk d + 1
 end
def uptoSmall : (H : Type) → List (DataW H) → Bool := fun _ ds => decide (uptoBulkAll ds ≤ 1048576)
def OpenSpec.upto (s : _root_.Go.ChangeSpec) : _root_.Go.OpenSpec := { _root_.Go.OpenSpec.ofChange s with cond := some uptoSmall }

/-- 'colophonlaw23.BadTells', WHERE WHAT IT READS IS OF BULK AT MOST 1048576: true; the input reads as it did. -/
def badTellsUptoRow : OpenClaim := { program := "ytmllebfeghlmbaa", sum := "5b743b76e2438b9c9d6179e8bf66a5978584e22ced69f02a6616bb84047f2dc8", func := "colophon/colophonlaw23.BadTells", spec := "badTells", apart := false, narrowed := true }
def BadTellsUptoSaid : Prop := badTellsUptoRow.holds Try.pinned (OpenSpec.upto badTellsSpec)

/-- 'colophonlaw23.BadLines', WHERE WHAT IT READS IS OF BULK AT MOST 1048576: true; the input reads as it did. -/
def badLinesUptoRow : OpenClaim := { program := "ytmllebfeghlmbaa", sum := "5b743b76e2438b9c9d6179e8bf66a5978584e22ced69f02a6616bb84047f2dc8", func := "colophon/colophonlaw23.BadLines", spec := "badLines", apart := false, narrowed := true }
def BadLinesUptoSaid : Prop := badLinesUptoRow.holds Try.pinned (OpenSpec.upto badLinesSpec)

/-- 'colophonlaw23.BadGrows', WHERE WHAT IT READS IS OF BULK AT MOST 1048576: true; the input reads as it did. -/
def badGrowsUptoRow : OpenClaim := { program := "ytmllebfeghlmbaa", sum := "5b743b76e2438b9c9d6179e8bf66a5978584e22ced69f02a6616bb84047f2dc8", func := "colophon/colophonlaw23.BadGrows", spec := "badGrows", apart := false, narrowed := true }
def BadGrowsUptoSaid : Prop := badGrowsUptoRow.holds Try.pinned (OpenSpec.upto badGrowsSpec)

/-- 'colophonlaw23.BadPairs', WHERE WHAT IT READS IS OF BULK AT MOST 1048576: true; the input reads as it did. -/
def badPairsUptoRow : OpenClaim := { program := "ytmllebfeghlmbaa", sum := "5b743b76e2438b9c9d6179e8bf66a5978584e22ced69f02a6616bb84047f2dc8", func := "colophon/colophonlaw23.BadPairs", spec := "badPairs", apart := false, narrowed := true }
def BadPairsUptoSaid : Prop := badPairsUptoRow.holds Try.pinned (OpenSpec.upto badPairsSpec)

end Rows
end Go.Proofs.Ytmllebfeghlmbaa
