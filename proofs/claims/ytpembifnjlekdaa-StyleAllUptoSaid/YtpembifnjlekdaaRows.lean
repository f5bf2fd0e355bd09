/-
  NARROWER THAN 'FOR EVERY INPUT', by the rows' own cells (each row's printed sentence says how): StyleFacts: loops · StyleAll: loops.
  DERIVED. THE GIVEN ROWS OF THIS SEAT. 6 by the template 'for every input the law returns true; each argument reads behind the call as it read before'; 0 by the template 'total and deterministic' (their statements: YtpembifnjlekdaaTotals.lean).
  GIVEN WITH THE SEED: the statements are not yours to turn. If you find one false, say at which input.
  Laid BY PROGRAM, IN A SANDBOX (cutbox-rows.mjs): the forced cells as the released guide's own fill.sh prints them over the translation 81ce245851099808… (all of the seat's roots in one cut). By AI agents, Wed Nov 11 2026. No macro, syntax, notation, axiom, sorry.
-/
import Derived.Test.YtpembifnjlekdaaChecked
import GoSem.Claim
import GoSem.ClaimJoined
import GoSem.ClaimMapViews
import Derived.JoinedTies
import Derived.KernelRfl
namespace Go.Proofs.Ytpembifnjlekdaa
/- THE CELL 'sum', in the pinned program and in every row, IS THE sha256 OF THE DUMP (.gsa) THAT YtpembifnjlekdaaProg.lean LOADS. Nothing in Lean hashes anything: it is a label: what it is worth is what the hold of that sum in a sandbox is worth. -/
noncomputable def Try.pinned : Pinned := { name := "ytpembifnjlekdaa", sum := "81ce24585109980805b44e697ffbd49c7b4d655d1166d72f2ba4ef06cfc48132", checked := Try.checked }
namespace Rows
def none {H : Type} : Left H := { results := [], args := [] }

/-- 'colophonlaw20.StyleWins': WHATEVER THE INPUT: true; the input reads as it did. -/
def styleWinsSpec : ChangeSpec := { name := "styleWins", fn := fun _ => fun
  | [d1, d2, d3] => { results := [.lit (.bool true)], args := [d1, d2, d3] }
  | _ => none }
def styleWinsRow : OpenClaim := { program := "ytpembifnjlekdaa", sum := "81ce24585109980805b44e697ffbd49c7b4d655d1166d72f2ba4ef06cfc48132", func := "colophon/colophonlaw20.StyleWins", spec := "styleWins", unfollowed := true, recurses := true, apart := false }
def StyleWinsSaid : Prop := styleWinsRow.holds Try.pinned (OpenSpec.ofChange styleWinsSpec)

/-- ITS FALSE NEIGHBOUR: 'it returns false'. Refute it at one input. -/
def styleWinsWrong : ChangeSpec := { name := "styleWins", fn := fun _ => fun
  | [d1, d2, d3] => { results := [.lit (.bool false)], args := [d1, d2, d3] }
  | _ => none }
def StyleWinsWrongFalsely : Prop := styleWinsRow.holds Try.pinned (OpenSpec.ofChange styleWinsWrong)

/-- 'colophonlaw20.StyleIs': WHATEVER THE INPUT: true; the input reads as it did. -/
def styleIsSpec : ChangeSpec := { name := "styleIs", fn := fun _ => fun
  | [d1, d2, d3] => { results := [.lit (.bool true)], args := [d1, d2, d3] }
  | _ => none }
def styleIsRow : OpenClaim := { program := "ytpembifnjlekdaa", sum := "81ce24585109980805b44e697ffbd49c7b4d655d1166d72f2ba4ef06cfc48132", func := "colophon/colophonlaw20.StyleIs", spec := "styleIs", unfollowed := true, recurses := true, apart := false }
def StyleIsSaid : Prop := styleIsRow.holds Try.pinned (OpenSpec.ofChange styleIsSpec)

/-- ITS FALSE NEIGHBOUR: 'it returns false'. Refute it at one input. -/
def styleIsWrong : ChangeSpec := { name := "styleIs", fn := fun _ => fun
  | [d1, d2, d3] => { results := [.lit (.bool false)], args := [d1, d2, d3] }
  | _ => none }
def StyleIsWrongFalsely : Prop := styleIsRow.holds Try.pinned (OpenSpec.ofChange styleIsWrong)

/-- 'colophonlaw20.StyleIdle': WHATEVER THE INPUT: true; the input reads as it did. -/
def styleIdleSpec : ChangeSpec := { name := "styleIdle", fn := fun _ => fun
  | [d1, d2, d3] => { results := [.lit (.bool true)], args := [d1, d2, d3] }
  | _ => none }
def styleIdleRow : OpenClaim := { program := "ytpembifnjlekdaa", sum := "81ce24585109980805b44e697ffbd49c7b4d655d1166d72f2ba4ef06cfc48132", func := "colophon/colophonlaw20.StyleIdle", spec := "styleIdle", unfollowed := true, recurses := true, apart := false }
def StyleIdleSaid : Prop := styleIdleRow.holds Try.pinned (OpenSpec.ofChange styleIdleSpec)

/-- ITS FALSE NEIGHBOUR: 'it returns false'. Refute it at one input. -/
def styleIdleWrong : ChangeSpec := { name := "styleIdle", fn := fun _ => fun
  | [d1, d2, d3] => { results := [.lit (.bool false)], args := [d1, d2, d3] }
  | _ => none }
def StyleIdleWrongFalsely : Prop := styleIdleRow.holds Try.pinned (OpenSpec.ofChange styleIdleWrong)

/-- 'colophonlaw20.StyleLast': WHATEVER THE INPUT: true; the input reads as it did. -/
def styleLastSpec : ChangeSpec := { name := "styleLast", fn := fun _ => fun
  | [d1, d2, d3] => { results := [.lit (.bool true)], args := [d1, d2, d3] }
  | _ => none }
def styleLastRow : OpenClaim := { program := "ytpembifnjlekdaa", sum := "81ce24585109980805b44e697ffbd49c7b4d655d1166d72f2ba4ef06cfc48132", func := "colophon/colophonlaw20.StyleLast", spec := "styleLast", unfollowed := true, recurses := true, apart := false }
def StyleLastSaid : Prop := styleLastRow.holds Try.pinned (OpenSpec.ofChange styleLastSpec)

/-- ITS FALSE NEIGHBOUR: 'it returns false'. Refute it at one input. -/
def styleLastWrong : ChangeSpec := { name := "styleLast", fn := fun _ => fun
  | [d1, d2, d3] => { results := [.lit (.bool false)], args := [d1, d2, d3] }
  | _ => none }
def StyleLastWrongFalsely : Prop := styleLastRow.holds Try.pinned (OpenSpec.ofChange styleLastWrong)

/-- 'colophonlaw20.StyleFacts': WHATEVER THE INPUT: true; the input reads as it did. -/
def styleFactsSpec : ChangeSpec := { name := "styleFacts", fn := fun _ => fun
  | [d] => { results := [.lit (.bool true)], args := [d] }
  | _ => none }
def styleFactsRow : OpenClaim := { program := "ytpembifnjlekdaa", sum := "81ce24585109980805b44e697ffbd49c7b4d655d1166d72f2ba4ef06cfc48132", func := "colophon/colophonlaw20.StyleFacts", spec := "styleFacts", unfollowed := true, recurses := true, loops := true, apart := false }
def StyleFactsSaid : Prop := styleFactsRow.holds Try.pinned (OpenSpec.ofChange styleFactsSpec)

/-- ITS FALSE NEIGHBOUR: 'it returns false'. Refute it at one input. -/
def styleFactsWrong : ChangeSpec := { name := "styleFacts", fn := fun _ => fun
  | [d] => { results := [.lit (.bool false)], args := [d] }
  | _ => none }
def StyleFactsWrongFalsely : Prop := styleFactsRow.holds Try.pinned (OpenSpec.ofChange styleFactsWrong)

/-- 'colophonlaw20.StyleAll': WHATEVER THE INPUT: true; the input reads as it did. -/
def styleAllSpec : ChangeSpec := { name := "styleAll", fn := fun _ => fun
  | [d1, d2] => { results := [.lit (.bool true)], args := [d1, d2] }
  | _ => none }
def styleAllRow : OpenClaim := { program := "ytpembifnjlekdaa", sum := "81ce24585109980805b44e697ffbd49c7b4d655d1166d72f2ba4ef06cfc48132", func := "colophon/colophonlaw20.StyleAll", spec := "styleAll", unfollowed := true, recurses := true, loops := true, apart := false }
def StyleAllSaid : Prop := styleAllRow.holds Try.pinned (OpenSpec.ofChange styleAllSpec)

/-- ITS FALSE NEIGHBOUR: 'it returns false'. Refute it at one input. -/
def styleAllWrong : ChangeSpec := { name := "styleAll", fn := fun _ => fun
  | [d1, d2] => { results := [.lit (.bool false)], args := [d1, d2] }
  | _ => none }
def StyleAllWrongFalsely : Prop := styleAllRow.holds Try.pinned (OpenSpec.ofChange styleAllWrong)

/- THE SECOND FORM. 'bulk': how many values and letters a reading holds, each counted each time it is reached (what is shared counts as often as it is met; a slice's spare places count too). A statement '..UptoSaid' is the law's where the arguments, and the package variables that the reading takes, are together of bulk at most 1048576: NARROWER than '..Said'. Prove '..Said' where nothing that the law and all that it calls make is longer than what came in: it says more and counts as full. Else prove '..UptoSaid'. A law counts once. -/
mutual
def uptoBulk {H : Type} : DataW H → Nat
  | .lit (.string bytes) => bytes.length + 1
  | .lit _ => 1
  | .nil => 1
  | .ptr d => uptoBulk d + 1
  | .slice elems spare => uptoBulkAll elems + uptoBulkAll spare + 1
  | .agg parts => uptoBulkAll parts + 1
  | .iface _ d => uptoBulk d + 1
  | .map entries => uptoBulkEntries entries + 1
  | .held _ => 1
def uptoBulkAll {H : Type} : List (DataW H) → Nat
  | [] => 0
  | d :: r => uptoBulk d + uptoBulkAll r
def uptoBulkEntries {H : Type} : List (Lit × DataW H) → Nat
  | [] => 0
  | x :: r => uptoBulkEntry x + uptoBulkEntries r
def uptoBulkEntry {H : Type} : Lit × DataW H → Nat
  | (.string bytes, d) => bytes.length + uptoBulk d + 1
  | (_, d) => uptoBulk d + 1
 end
def uptoSmall : (H : Type) → List (DataW H) → Bool := fun _ ds => decide (uptoBulkAll ds ≤ 1048576)
def OpenSpec.upto (s : _root_.Go.ChangeSpec) : _root_.Go.OpenSpec := { _root_.Go.OpenSpec.ofChange s with cond := some uptoSmall }

/-- 'colophonlaw20.StyleWins', WHERE WHAT IT READS IS OF BULK AT MOST 1048576: true; the input reads as it did. -/
def styleWinsUptoRow : OpenClaim := { program := "ytpembifnjlekdaa", sum := "81ce24585109980805b44e697ffbd49c7b4d655d1166d72f2ba4ef06cfc48132", func := "colophon/colophonlaw20.StyleWins", spec := "styleWins", unfollowed := true, recurses := true, apart := false, narrowed := true }
def StyleWinsUptoSaid : Prop := styleWinsUptoRow.holds Try.pinned (OpenSpec.upto styleWinsSpec)

/-- 'colophonlaw20.StyleIs', WHERE WHAT IT READS IS OF BULK AT MOST 1048576: true; the input reads as it did. -/
def styleIsUptoRow : OpenClaim := { program := "ytpembifnjlekdaa", sum := "81ce24585109980805b44e697ffbd49c7b4d655d1166d72f2ba4ef06cfc48132", func := "colophon/colophonlaw20.StyleIs", spec := "styleIs", unfollowed := true, recurses := true, apart := false, narrowed := true }
def StyleIsUptoSaid : Prop := styleIsUptoRow.holds Try.pinned (OpenSpec.upto styleIsSpec)

/-- 'colophonlaw20.StyleIdle', WHERE WHAT IT READS IS OF BULK AT MOST 1048576: true; the input reads as it did. -/
def styleIdleUptoRow : OpenClaim := { program := "ytpembifnjlekdaa", sum := "81ce24585109980805b44e697ffbd49c7b4d655d1166d72f2ba4ef06cfc48132", func := "colophon/colophonlaw20.StyleIdle", spec := "styleIdle", unfollowed := true, recurses := true, apart := false, narrowed := true }
def StyleIdleUptoSaid : Prop := styleIdleUptoRow.holds Try.pinned (OpenSpec.upto styleIdleSpec)

/-- 'colophonlaw20.StyleLast', WHERE WHAT IT READS IS OF BULK AT MOST 1048576: true; the input reads as it did. -/
def styleLastUptoRow : OpenClaim := { program := "ytpembifnjlekdaa", sum := "81ce24585109980805b44e697ffbd49c7b4d655d1166d72f2ba4ef06cfc48132", func := "colophon/colophonlaw20.StyleLast", spec := "styleLast", unfollowed := true, recurses := true, apart := false, narrowed := true }
def StyleLastUptoSaid : Prop := styleLastUptoRow.holds Try.pinned (OpenSpec.upto styleLastSpec)

/-- 'colophonlaw20.StyleFacts', WHERE WHAT IT READS IS OF BULK AT MOST 1048576: true; the input reads as it did. -/
def styleFactsUptoRow : OpenClaim := { program := "ytpembifnjlekdaa", sum := "81ce24585109980805b44e697ffbd49c7b4d655d1166d72f2ba4ef06cfc48132", func := "colophon/colophonlaw20.StyleFacts", spec := "styleFacts", unfollowed := true, recurses := true, loops := true, apart := false, narrowed := true }
def StyleFactsUptoSaid : Prop := styleFactsUptoRow.holds Try.pinned (OpenSpec.upto styleFactsSpec)

/-- 'colophonlaw20.StyleAll', WHERE WHAT IT READS IS OF BULK AT MOST 1048576: true; the input reads as it did. -/
def styleAllUptoRow : OpenClaim := { program := "ytpembifnjlekdaa", sum := "81ce24585109980805b44e697ffbd49c7b4d655d1166d72f2ba4ef06cfc48132", func := "colophon/colophonlaw20.StyleAll", spec := "styleAll", unfollowed := true, recurses := true, loops := true, apart := false, narrowed := true }
def StyleAllUptoSaid : Prop := styleAllUptoRow.holds Try.pinned (OpenSpec.upto styleAllSpec)

end Rows
end Go.Proofs.Ytpembifnjlekdaa
