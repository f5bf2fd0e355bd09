/-
  No cell of these rows narrows 'for every input' (looked for: loops, veiled, ifaces, maps, wideKeys, modest, calm, conditions, laid).
  DERIVED. THE GIVEN ROWS OF THIS SEAT. 7 by the template 'for every input the law returns true; each argument reads behind the call as it read before'; 0 by the template 'total and deterministic' (their statements: YtogjeababinnlaaTotals.lean).
  GIVEN WITH THE SEED: the statements are not yours to turn. If you find one false, say at which input.
  Laid BY PROGRAM, IN A SANDBOX (cutbox-rows.mjs): the forced cells as the released guide's own fill.sh prints them over the translation 727cd861144c5a1a… (all of the seat's roots in one cut). By AI agents, Wed Nov 11 2026. No macro, syntax, notation, axiom, sorry.
-/
import Derived.Test.YtogjeababinnlaaChecked
import GoSem.Claim
import GoSem.ClaimJoined
import GoSem.ClaimMapViews
import Derived.JoinedTies
import Derived.KernelRfl
namespace Go.Proofs.Ytogjeababinnlaa
/- THE CELL 'sum', in the pinned program and in every row, IS THE sha256 OF THE DUMP (.gsa) THAT YtogjeababinnlaaProg.lean LOADS. Nothing in Lean hashes anything: it is a label: what it is worth is what the hold of that sum in a sandbox is worth. -/
noncomputable def Try.pinned : Pinned := { name := "ytogjeababinnlaa", sum := "727cd861144c5a1a7d2b47f1655a813f9ef6ee5b9127165256c5dc3b6fd64e51", checked := Try.checked }
namespace Rows
def none {H : Type} : Left H := { results := [], args := [] }

/-- 'colophonlaw27.PagesBest': WHATEVER THE INPUT: true; the input reads as it did. -/
def pagesBestSpec : ChangeSpec := { name := "pagesBest", fn := fun _ => fun
  | [d1, d2] => { results := [.lit (.bool true)], args := [d1, d2] }
  | _ => none }
def pagesBestRow : OpenClaim := { program := "ytogjeababinnlaa", sum := "727cd861144c5a1a7d2b47f1655a813f9ef6ee5b9127165256c5dc3b6fd64e51", func := "colophon/colophonlaw27.PagesBest", spec := "pagesBest", unfollowed := true, recurses := true, apart := false }
def PagesBestSaid : Prop := pagesBestRow.holds Try.pinned (OpenSpec.ofChange pagesBestSpec)

/-- ITS FALSE NEIGHBOUR: 'it returns false'. Refute it at one input. -/
def pagesBestWrong : ChangeSpec := { name := "pagesBest", fn := fun _ => fun
  | [d1, d2] => { results := [.lit (.bool false)], args := [d1, d2] }
  | _ => none }
def PagesBestWrongFalsely : Prop := pagesBestRow.holds Try.pinned (OpenSpec.ofChange pagesBestWrong)

/-- 'colophonlaw27.PagesAll': WHATEVER THE INPUT: true; the input reads as it did. -/
def pagesAllSpec : ChangeSpec := { name := "pagesAll", fn := fun _ => fun
  | [d1, d2] => { results := [.lit (.bool true)], args := [d1, d2] }
  | _ => none }
def pagesAllRow : OpenClaim := { program := "ytogjeababinnlaa", sum := "727cd861144c5a1a7d2b47f1655a813f9ef6ee5b9127165256c5dc3b6fd64e51", func := "colophon/colophonlaw27.PagesAll", spec := "pagesAll", unfollowed := true, recurses := true, apart := false }
def PagesAllSaid : Prop := pagesAllRow.holds Try.pinned (OpenSpec.ofChange pagesAllSpec)

/-- ITS FALSE NEIGHBOUR: 'it returns false'. Refute it at one input. -/
def pagesAllWrong : ChangeSpec := { name := "pagesAll", fn := fun _ => fun
  | [d1, d2] => { results := [.lit (.bool false)], args := [d1, d2] }
  | _ => none }
def PagesAllWrongFalsely : Prop := pagesAllRow.holds Try.pinned (OpenSpec.ofChange pagesAllWrong)

/-- 'colophonlaw27.PagesRoom': WHATEVER THE INPUT: true; the input reads as it did. -/
def pagesRoomSpec : ChangeSpec := { name := "pagesRoom", fn := fun _ => fun
  | [d1, d2, d3] => { results := [.lit (.bool true)], args := [d1, d2, d3] }
  | _ => none }
def pagesRoomRow : OpenClaim := { program := "ytogjeababinnlaa", sum := "727cd861144c5a1a7d2b47f1655a813f9ef6ee5b9127165256c5dc3b6fd64e51", func := "colophon/colophonlaw27.PagesRoom", spec := "pagesRoom", unfollowed := true, recurses := true, apart := false }
def PagesRoomSaid : Prop := pagesRoomRow.holds Try.pinned (OpenSpec.ofChange pagesRoomSpec)

/-- ITS FALSE NEIGHBOUR: 'it returns false'. Refute it at one input. -/
def pagesRoomWrong : ChangeSpec := { name := "pagesRoom", fn := fun _ => fun
  | [d1, d2, d3] => { results := [.lit (.bool false)], args := [d1, d2, d3] }
  | _ => none }
def PagesRoomWrongFalsely : Prop := pagesRoomRow.holds Try.pinned (OpenSpec.ofChange pagesRoomWrong)

/-- 'colophonlaw27.PagesPara': WHATEVER THE INPUT: true; the input reads as it did. -/
def pagesParaSpec : ChangeSpec := { name := "pagesPara", fn := fun _ => fun
  | [d] => { results := [.lit (.bool true)], args := [d] }
  | _ => none }
def pagesParaRow : OpenClaim := { program := "ytogjeababinnlaa", sum := "727cd861144c5a1a7d2b47f1655a813f9ef6ee5b9127165256c5dc3b6fd64e51", func := "colophon/colophonlaw27.PagesPara", spec := "pagesPara", unfollowed := true, recurses := true, apart := false }
def PagesParaSaid : Prop := pagesParaRow.holds Try.pinned (OpenSpec.ofChange pagesParaSpec)

/-- ITS FALSE NEIGHBOUR: 'it returns false'. Refute it at one input. -/
def pagesParaWrong : ChangeSpec := { name := "pagesPara", fn := fun _ => fun
  | [d] => { results := [.lit (.bool false)], args := [d] }
  | _ => none }
def PagesParaWrongFalsely : Prop := pagesParaRow.holds Try.pinned (OpenSpec.ofChange pagesParaWrong)

/-- 'colophonlaw27.PagesLeast': WHATEVER THE INPUT: true; the input reads as it did. -/
def pagesLeastSpec : ChangeSpec := { name := "pagesLeast", fn := fun _ => fun
  | [d1, d2, d3] => { results := [.lit (.bool true)], args := [d1, d2, d3] }
  | _ => none }
def pagesLeastRow : OpenClaim := { program := "ytogjeababinnlaa", sum := "727cd861144c5a1a7d2b47f1655a813f9ef6ee5b9127165256c5dc3b6fd64e51", func := "colophon/colophonlaw27.PagesLeast", spec := "pagesLeast", unfollowed := true, recurses := true, apart := false }
def PagesLeastSaid : Prop := pagesLeastRow.holds Try.pinned (OpenSpec.ofChange pagesLeastSpec)

/-- ITS FALSE NEIGHBOUR: 'it returns false'. Refute it at one input. -/
def pagesLeastWrong : ChangeSpec := { name := "pagesLeast", fn := fun _ => fun
  | [d1, d2, d3] => { results := [.lit (.bool false)], args := [d1, d2, d3] }
  | _ => none }
def PagesLeastWrongFalsely : Prop := pagesLeastRow.holds Try.pinned (OpenSpec.ofChange pagesLeastWrong)

/-- 'colophonlaw27.PagesCosts': WHATEVER THE INPUT: true; the input reads as it did. -/
def pagesCostsSpec : ChangeSpec := { name := "pagesCosts", fn := fun _ => fun
  | [d1, d2, d3] => { results := [.lit (.bool true)], args := [d1, d2, d3] }
  | _ => none }
def pagesCostsRow : OpenClaim := { program := "ytogjeababinnlaa", sum := "727cd861144c5a1a7d2b47f1655a813f9ef6ee5b9127165256c5dc3b6fd64e51", func := "colophon/colophonlaw27.PagesCosts", spec := "pagesCosts", unfollowed := true, recurses := true, apart := false }
def PagesCostsSaid : Prop := pagesCostsRow.holds Try.pinned (OpenSpec.ofChange pagesCostsSpec)

/-- ITS FALSE NEIGHBOUR: 'it returns false'. Refute it at one input. -/
def pagesCostsWrong : ChangeSpec := { name := "pagesCosts", fn := fun _ => fun
  | [d1, d2, d3] => { results := [.lit (.bool false)], args := [d1, d2, d3] }
  | _ => none }
def PagesCostsWrongFalsely : Prop := pagesCostsRow.holds Try.pinned (OpenSpec.ofChange pagesCostsWrong)

/-- 'colophonlaw27.PagesFlow': WHATEVER THE INPUT: true; the input reads as it did. -/
def pagesFlowSpec : ChangeSpec := { name := "pagesFlow", fn := fun _ => fun
  | [d1, d2] => { results := [.lit (.bool true)], args := [d1, d2] }
  | _ => none }
def pagesFlowRow : OpenClaim := { program := "ytogjeababinnlaa", sum := "727cd861144c5a1a7d2b47f1655a813f9ef6ee5b9127165256c5dc3b6fd64e51", func := "colophon/colophonlaw27.PagesFlow", spec := "pagesFlow", unfollowed := true, recurses := true, apart := false }
def PagesFlowSaid : Prop := pagesFlowRow.holds Try.pinned (OpenSpec.ofChange pagesFlowSpec)

/-- ITS FALSE NEIGHBOUR: 'it returns false'. Refute it at one input. -/
def pagesFlowWrong : ChangeSpec := { name := "pagesFlow", fn := fun _ => fun
  | [d1, d2] => { results := [.lit (.bool false)], args := [d1, d2] }
  | _ => none }
def PagesFlowWrongFalsely : Prop := pagesFlowRow.holds Try.pinned (OpenSpec.ofChange pagesFlowWrong)

/- THE SECOND FORM. 'bulk': how many values and letters a reading holds, each counted each time it is reached (what is shared counts as often as it is met; a slice's spare places count too). A statement '..UptoSaid' is the law's where the arguments, and the package variables that the reading takes, are together of bulk at most 1048576: NARROWER than '..Said'. Prove '..Said' where nothing that the law and all that it calls make is longer than what came in: it says more and counts as full. Else prove '..UptoSaid'. A law counts once. -/
mutual
def uptoBulk {H : Type} : DataW H → Nat
  | .lit (.string bytes) => bytes.length + 1
  | .lit _ => 1
  | .nil => 1
  | .ptr d => uptoBulk d + 1
  | .slice elems spare => uptoBulkAll elems + uptoBulkAll spare + 1
  | .agg parts => uptoBulkAll parts + 1
  | .iface _ d => uptoBulk d + 1
  | .map entries => uptoBulkEntries entries + 1
  | .held _ => 1
def uptoBulkAll {H : Type} : List (DataW H) → Nat
  | [] => 0
  | d :: r => uptoBulk d + uptoBulkAll r
def uptoBulkEntries {H : Type} : List (Lit × DataW H) → Nat
  | [] => 0
  | x :: r => uptoBulkEntry x + uptoBulkEntries r
def uptoBulkEntry {H : Type} : Lit × DataW H → Nat
  | (.string bytes, d) => bytes.length + uptoBulk d + 1
  | (_, d) => uptoBulk d + 1
 end
def uptoSmall : (H : Type) → List (DataW H) → Bool := fun _ ds => decide (uptoBulkAll ds ≤ 1048576)
def OpenSpec.upto (s : _root_.Go.ChangeSpec) : _root_.Go.OpenSpec := { _root_.Go.OpenSpec.ofChange s with cond := some uptoSmall }

/-- 'colophonlaw27.PagesBest', WHERE WHAT IT READS IS OF BULK AT MOST 1048576: true; the input reads as it did. -/
def pagesBestUptoRow : OpenClaim := { program := "ytogjeababinnlaa", sum := "727cd861144c5a1a7d2b47f1655a813f9ef6ee5b9127165256c5dc3b6fd64e51", func := "colophon/colophonlaw27.PagesBest", spec := "pagesBest", unfollowed := true, recurses := true, apart := false, narrowed := true }
def PagesBestUptoSaid : Prop := pagesBestUptoRow.holds Try.pinned (OpenSpec.upto pagesBestSpec)

/-- 'colophonlaw27.PagesAll', WHERE WHAT IT READS IS OF BULK AT MOST 1048576: true; the input reads as it did. -/
def pagesAllUptoRow : OpenClaim := { program := "ytogjeababinnlaa", sum := "727cd861144c5a1a7d2b47f1655a813f9ef6ee5b9127165256c5dc3b6fd64e51", func := "colophon/colophonlaw27.PagesAll", spec := "pagesAll", unfollowed := true, recurses := true, apart := false, narrowed := true }
def PagesAllUptoSaid : Prop := pagesAllUptoRow.holds Try.pinned (OpenSpec.upto pagesAllSpec)

/-- 'colophonlaw27.PagesRoom', WHERE WHAT IT READS IS OF BULK AT MOST 1048576: true; the input reads as it did. -/
def pagesRoomUptoRow : OpenClaim := { program := "ytogjeababinnlaa", sum := "727cd861144c5a1a7d2b47f1655a813f9ef6ee5b9127165256c5dc3b6fd64e51", func := "colophon/colophonlaw27.PagesRoom", spec := "pagesRoom", unfollowed := true, recurses := true, apart := false, narrowed := true }
def PagesRoomUptoSaid : Prop := pagesRoomUptoRow.holds Try.pinned (OpenSpec.upto pagesRoomSpec)

/-- 'colophonlaw27.PagesPara', WHERE WHAT IT READS IS OF BULK AT MOST 1048576: true; the input reads as it did. -/
def pagesParaUptoRow : OpenClaim := { program := "ytogjeababinnlaa", sum := "727cd861144c5a1a7d2b47f1655a813f9ef6ee5b9127165256c5dc3b6fd64e51", func := "colophon/colophonlaw27.PagesPara", spec := "pagesPara", unfollowed := true, recurses := true, apart := false, narrowed := true }
def PagesParaUptoSaid : Prop := pagesParaUptoRow.holds Try.pinned (OpenSpec.upto pagesParaSpec)

/-- 'colophonlaw27.PagesLeast', WHERE WHAT IT READS IS OF BULK AT MOST 1048576: true; the input reads as it did. -/
def pagesLeastUptoRow : OpenClaim := { program := "ytogjeababinnlaa", sum := "727cd861144c5a1a7d2b47f1655a813f9ef6ee5b9127165256c5dc3b6fd64e51", func := "colophon/colophonlaw27.PagesLeast", spec := "pagesLeast", unfollowed := true, recurses := true, apart := false, narrowed := true }
def PagesLeastUptoSaid : Prop := pagesLeastUptoRow.holds Try.pinned (OpenSpec.upto pagesLeastSpec)

/-- 'colophonlaw27.PagesCosts', WHERE WHAT IT READS IS OF BULK AT MOST 1048576: true; the input reads as it did. -/
def pagesCostsUptoRow : OpenClaim := { program := "ytogjeababinnlaa", sum := "727cd861144c5a1a7d2b47f1655a813f9ef6ee5b9127165256c5dc3b6fd64e51", func := "colophon/colophonlaw27.PagesCosts", spec := "pagesCosts", unfollowed := true, recurses := true, apart := false, narrowed := true }
def PagesCostsUptoSaid : Prop := pagesCostsUptoRow.holds Try.pinned (OpenSpec.upto pagesCostsSpec)

/-- 'colophonlaw27.PagesFlow', WHERE WHAT IT READS IS OF BULK AT MOST 1048576: true; the input reads as it did. -/
def pagesFlowUptoRow : OpenClaim := { program := "ytogjeababinnlaa", sum := "727cd861144c5a1a7d2b47f1655a813f9ef6ee5b9127165256c5dc3b6fd64e51", func := "colophon/colophonlaw27.PagesFlow", spec := "pagesFlow", unfollowed := true, recurses := true, apart := false, narrowed := true }
def PagesFlowUptoSaid : Prop := pagesFlowUptoRow.holds Try.pinned (OpenSpec.upto pagesFlowSpec)

end Rows
end Go.Proofs.Ytogjeababinnlaa
