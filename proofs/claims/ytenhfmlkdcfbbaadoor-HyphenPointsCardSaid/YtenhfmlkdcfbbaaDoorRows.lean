/-
  NARROWER THAN 'FOR EVERY INPUT', by the rows' own cells (each row's printed sentence says how): HyphenCompiles: laid · HyphenLevels: laid · HyphenPoints: laid · HyphenCase: laid · HyphenMore: laid · HyphenEnds: laid.
  DERIVED. THE GIVEN ROWS OF THIS SEAT. 6 by the template 'for every input the law returns true; each argument reads behind the call as it read before'; 0 by the template 'total and deterministic' (their statements: YtenhfmlkdcfbbaaDoorTotals.lean).
  GIVEN WITH THE SEED: the statements are not yours to turn. If you find one false, say at which input.
  Laid BY PROGRAM, IN A SANDBOX (cutbox-rows.mjs): the forced cells as the released guide's own fill.sh prints them over the translation b2b8865d2ae7ae43… (all of the seat's roots in one cut). By AI agents, Wed Nov 11 2026. No macro, syntax, notation, axiom, sorry.
-/
import Derived.Test.YtenhfmlkdcfbbaaDoorChecked
import GoSem.PinnedTables
import GoSem.Claim
import GoSem.ClaimJoined
import GoSem.ClaimMapViews
import Derived.JoinedTies
import Derived.KernelRfl
namespace Go.Proofs.YtenhfmlkdcfbbaaDoor
/- THE CELL 'sum', in the pinned program and in every row, IS THE sha256 OF THE DUMP (.gsa) THAT YtenhfmlkdcfbbaaDoorProg.lean LOADS. Nothing in Lean hashes anything: it is a label: what it is worth is what the hold of that sum in a sandbox is worth. -/
noncomputable def Tryd.pinned : Pinned := { name := "ytenhfmlkdcfbbaadoor", sum := "b2b8865d2ae7ae430e4248bebb068af5858619902dd947565e579b956338037b", checked := Tryd.checked }
namespace Rows
def none {H : Type} : Left H := { results := [], args := [] }

/- WHAT THE LISTED PACKAGE-LEVEL VARIABLES READ AS WHEN THE CALL BEGINS. Each datum BY PROGRAM (the guide's laid-datum.mjs) off the statement by which the dump's own 'gosem.cut.vars' lays the variable. In a bare row this is a premise. The card (YtenhfmlkdcfbbaaDoorCards.lean) ties it to the program's text. -/
def laid_unicode_utf8_acceptRanges {H : Type} : DataW H := .agg [.agg [.lit (.int .u8 128), .lit (.int .u8 191)], .agg [.lit (.int .u8 160), .lit (.int .u8 191)], .agg [.lit (.int .u8 128), .lit (.int .u8 159)], .agg [.lit (.int .u8 144), .lit (.int .u8 191)], .agg [.lit (.int .u8 128), .lit (.int .u8 143)], .agg [.lit (.int .u8 0), .lit (.int .u8 0)], .agg [.lit (.int .u8 0), .lit (.int .u8 0)], .agg [.lit (.int .u8 0), .lit (.int .u8 0)], .agg [.lit (.int .u8 0), .lit (.int .u8 0)], .agg [.lit (.int .u8 0), .lit (.int .u8 0)], .agg [.lit (.int .u8 0), .lit (.int .u8 0)], .agg [.lit (.int .u8 0), .lit (.int .u8 0)], .agg [.lit (.int .u8 0), .lit (.int .u8 0)], .agg [.lit (.int .u8 0), .lit (.int .u8 0)], .agg [.lit (.int .u8 0), .lit (.int .u8 0)], .agg [.lit (.int .u8 0), .lit (.int .u8 0)]]
/-- One of Go's own tables, pinned by name: the form's constant. -/
def laid_unicode_utf8_first : DataW Unit := Go.Pinned.utf8First

/-- 'colophonlaw21.HyphenCompiles': WHATEVER THE INPUT: true; the input reads as it did. -/
def hyphenCompilesSpec : ChangeSpec := { name := "hyphenCompiles", fn := fun _ => fun
  | [d] => { results := [.lit (.bool true)], args := [d] }
  | _ => none }
def hyphenCompilesRow : OpenClaim := { program := "ytenhfmlkdcfbbaadoor", sum := "b2b8865d2ae7ae430e4248bebb068af5858619902dd947565e579b956338037b", func := "colophon/colophonlaw21.HyphenCompiles", spec := "hyphenCompiles", inPlace := ["internal/abi.NoEscape"], unfollowed := true, recurses := true, named := ["unicode/utf8.first", "unicode/utf8.acceptRanges"], apart := false, laid := [("unicode/utf8.acceptRanges", laid_unicode_utf8_acceptRanges), ("unicode/utf8.first", laid_unicode_utf8_first)] }
def HyphenCompilesSaid : Prop := hyphenCompilesRow.holds Tryd.pinned (OpenSpec.ofChange hyphenCompilesSpec)

/-- ITS FALSE NEIGHBOUR: 'it returns false'. Refute it at one input. -/
def hyphenCompilesWrong : ChangeSpec := { name := "hyphenCompiles", fn := fun _ => fun
  | [d] => { results := [.lit (.bool false)], args := [d] }
  | _ => none }
def HyphenCompilesWrongFalsely : Prop := hyphenCompilesRow.holds Tryd.pinned (OpenSpec.ofChange hyphenCompilesWrong)

/-- 'colophonlaw21.HyphenLevels': WHATEVER THE INPUT: true; the input reads as it did. -/
def hyphenLevelsSpec : ChangeSpec := { name := "hyphenLevels", fn := fun _ => fun
  | [d] => { results := [.lit (.bool true)], args := [d] }
  | _ => none }
def hyphenLevelsRow : OpenClaim := { program := "ytenhfmlkdcfbbaadoor", sum := "b2b8865d2ae7ae430e4248bebb068af5858619902dd947565e579b956338037b", func := "colophon/colophonlaw21.HyphenLevels", spec := "hyphenLevels", inPlace := ["internal/abi.NoEscape"], unfollowed := true, recurses := true, named := ["unicode/utf8.first", "unicode/utf8.acceptRanges"], apart := false, laid := [("unicode/utf8.acceptRanges", laid_unicode_utf8_acceptRanges), ("unicode/utf8.first", laid_unicode_utf8_first)] }
def HyphenLevelsSaid : Prop := hyphenLevelsRow.holds Tryd.pinned (OpenSpec.ofChange hyphenLevelsSpec)

/-- ITS FALSE NEIGHBOUR: 'it returns false'. Refute it at one input. -/
def hyphenLevelsWrong : ChangeSpec := { name := "hyphenLevels", fn := fun _ => fun
  | [d] => { results := [.lit (.bool false)], args := [d] }
  | _ => none }
def HyphenLevelsWrongFalsely : Prop := hyphenLevelsRow.holds Tryd.pinned (OpenSpec.ofChange hyphenLevelsWrong)

/-- 'colophonlaw21.HyphenPoints': WHATEVER THE INPUT: true; the input reads as it did. -/
def hyphenPointsSpec : ChangeSpec := { name := "hyphenPoints", fn := fun _ => fun
  | [d] => { results := [.lit (.bool true)], args := [d] }
  | _ => none }
def hyphenPointsRow : OpenClaim := { program := "ytenhfmlkdcfbbaadoor", sum := "b2b8865d2ae7ae430e4248bebb068af5858619902dd947565e579b956338037b", func := "colophon/colophonlaw21.HyphenPoints", spec := "hyphenPoints", inPlace := ["internal/abi.NoEscape"], unfollowed := true, recurses := true, named := ["unicode/utf8.first", "unicode/utf8.acceptRanges"], apart := false, laid := [("unicode/utf8.acceptRanges", laid_unicode_utf8_acceptRanges), ("unicode/utf8.first", laid_unicode_utf8_first)] }
def HyphenPointsSaid : Prop := hyphenPointsRow.holds Tryd.pinned (OpenSpec.ofChange hyphenPointsSpec)

/-- ITS FALSE NEIGHBOUR: 'it returns false'. Refute it at one input. -/
def hyphenPointsWrong : ChangeSpec := { name := "hyphenPoints", fn := fun _ => fun
  | [d] => { results := [.lit (.bool false)], args := [d] }
  | _ => none }
def HyphenPointsWrongFalsely : Prop := hyphenPointsRow.holds Tryd.pinned (OpenSpec.ofChange hyphenPointsWrong)

/-- 'colophonlaw21.HyphenCase': WHATEVER THE INPUT: true; the input reads as it did. -/
def hyphenCaseSpec : ChangeSpec := { name := "hyphenCase", fn := fun _ => fun
  | [d1, d2] => { results := [.lit (.bool true)], args := [d1, d2] }
  | _ => none }
def hyphenCaseRow : OpenClaim := { program := "ytenhfmlkdcfbbaadoor", sum := "b2b8865d2ae7ae430e4248bebb068af5858619902dd947565e579b956338037b", func := "colophon/colophonlaw21.HyphenCase", spec := "hyphenCase", inPlace := ["internal/abi.NoEscape"], unfollowed := true, recurses := true, named := ["unicode/utf8.first", "unicode/utf8.acceptRanges"], apart := false, laid := [("unicode/utf8.acceptRanges", laid_unicode_utf8_acceptRanges), ("unicode/utf8.first", laid_unicode_utf8_first)] }
def HyphenCaseSaid : Prop := hyphenCaseRow.holds Tryd.pinned (OpenSpec.ofChange hyphenCaseSpec)

/-- ITS FALSE NEIGHBOUR: 'it returns false'. Refute it at one input. -/
def hyphenCaseWrong : ChangeSpec := { name := "hyphenCase", fn := fun _ => fun
  | [d1, d2] => { results := [.lit (.bool false)], args := [d1, d2] }
  | _ => none }
def HyphenCaseWrongFalsely : Prop := hyphenCaseRow.holds Tryd.pinned (OpenSpec.ofChange hyphenCaseWrong)

/-- 'colophonlaw21.HyphenMore': WHATEVER THE INPUT: true; the input reads as it did. -/
def hyphenMoreSpec : ChangeSpec := { name := "hyphenMore", fn := fun _ => fun
  | [d1, d2] => { results := [.lit (.bool true)], args := [d1, d2] }
  | _ => none }
def hyphenMoreRow : OpenClaim := { program := "ytenhfmlkdcfbbaadoor", sum := "b2b8865d2ae7ae430e4248bebb068af5858619902dd947565e579b956338037b", func := "colophon/colophonlaw21.HyphenMore", spec := "hyphenMore", inPlace := ["internal/abi.NoEscape"], unfollowed := true, recurses := true, named := ["unicode/utf8.first", "unicode/utf8.acceptRanges"], apart := false, laid := [("unicode/utf8.acceptRanges", laid_unicode_utf8_acceptRanges), ("unicode/utf8.first", laid_unicode_utf8_first)] }
def HyphenMoreSaid : Prop := hyphenMoreRow.holds Tryd.pinned (OpenSpec.ofChange hyphenMoreSpec)

/-- ITS FALSE NEIGHBOUR: 'it returns false'. Refute it at one input. -/
def hyphenMoreWrong : ChangeSpec := { name := "hyphenMore", fn := fun _ => fun
  | [d1, d2] => { results := [.lit (.bool false)], args := [d1, d2] }
  | _ => none }
def HyphenMoreWrongFalsely : Prop := hyphenMoreRow.holds Tryd.pinned (OpenSpec.ofChange hyphenMoreWrong)

/-- 'colophonlaw21.HyphenEnds': WHATEVER THE INPUT: true; the input reads as it did. -/
def hyphenEndsSpec : ChangeSpec := { name := "hyphenEnds", fn := fun _ => fun
  | [d] => { results := [.lit (.bool true)], args := [d] }
  | _ => none }
def hyphenEndsRow : OpenClaim := { program := "ytenhfmlkdcfbbaadoor", sum := "b2b8865d2ae7ae430e4248bebb068af5858619902dd947565e579b956338037b", func := "colophon/colophonlaw21.HyphenEnds", spec := "hyphenEnds", inPlace := ["internal/abi.NoEscape"], unfollowed := true, recurses := true, named := ["unicode/utf8.first", "unicode/utf8.acceptRanges"], apart := false, laid := [("unicode/utf8.acceptRanges", laid_unicode_utf8_acceptRanges), ("unicode/utf8.first", laid_unicode_utf8_first)] }
def HyphenEndsSaid : Prop := hyphenEndsRow.holds Tryd.pinned (OpenSpec.ofChange hyphenEndsSpec)

/-- ITS FALSE NEIGHBOUR: 'it returns false'. Refute it at one input. -/
def hyphenEndsWrong : ChangeSpec := { name := "hyphenEnds", fn := fun _ => fun
  | [d] => { results := [.lit (.bool false)], args := [d] }
  | _ => none }
def HyphenEndsWrongFalsely : Prop := hyphenEndsRow.holds Tryd.pinned (OpenSpec.ofChange hyphenEndsWrong)

/- THE SECOND FORM. 'bulk': how many values and letters a reading holds, each counted each time it is reached (what is shared counts as often as it is met; a slice's spare places count too). A statement '..UptoSaid' is the law's where the arguments, and the package variables that the reading takes, are together of bulk at most 1048576: NARROWER than '..Said'. Prove '..Said' where nothing that the law and all that it calls make is longer than what came in: it says more and counts as full. Else prove '..UptoSaid'. A law counts once. -/
mutual
def uptoBulk {H : Type} : DataW H → Nat
  | .lit (.string bytes) => bytes.length + 1
  | .lit _ => 1
  | .nil => 1
  | .ptr d => uptoBulk d + 1
  | .slice elems spare => uptoBulkAll elems + uptoBulkAll spare + 1
  | .agg parts => uptoBulkAll parts + 1
  | .iface _ d => uptoBulk d + 1
  | .map entries => uptoBulkEntries entries + 1
  | .held _ => 1
def uptoBulkAll {H : Type} : List (DataW H) → Nat
  | [] => 0
  | d :: r => uptoBulk d + uptoBulkAll r
def uptoBulkEntries {H : Type} : List (Lit × DataW H) → Nat
  | [] => 0
  | x :: r => uptoBulkEntry x + uptoBulkEntries r
def uptoBulkEntry {H : Type} : Lit × DataW H → Nat
  | (.string bytes, d) => bytes.length + uptoBulk d + 1
  | (_, d) => uptoBulk d + 1
 end
def uptoSmall : (H : Type) → List (DataW H) → Bool := fun _ ds => decide (uptoBulkAll ds ≤ 1048576)
def OpenSpec.upto (s : _root_.Go.ChangeSpec) : _root_.Go.OpenSpec := { _root_.Go.OpenSpec.ofChange s with cond := some uptoSmall }

/-- 'colophonlaw21.HyphenCompiles', WHERE WHAT IT READS IS OF BULK AT MOST 1048576: true; the input reads as it did. -/
def hyphenCompilesUptoRow : OpenClaim := { program := "ytenhfmlkdcfbbaadoor", sum := "b2b8865d2ae7ae430e4248bebb068af5858619902dd947565e579b956338037b", func := "colophon/colophonlaw21.HyphenCompiles", spec := "hyphenCompiles", inPlace := ["internal/abi.NoEscape"], unfollowed := true, recurses := true, named := ["unicode/utf8.first", "unicode/utf8.acceptRanges"], apart := false, laid := [("unicode/utf8.acceptRanges", laid_unicode_utf8_acceptRanges), ("unicode/utf8.first", laid_unicode_utf8_first)], narrowed := true }
def HyphenCompilesUptoSaid : Prop := hyphenCompilesUptoRow.holds Tryd.pinned (OpenSpec.upto hyphenCompilesSpec)

/-- 'colophonlaw21.HyphenLevels', WHERE WHAT IT READS IS OF BULK AT MOST 1048576: true; the input reads as it did. -/
def hyphenLevelsUptoRow : OpenClaim := { program := "ytenhfmlkdcfbbaadoor", sum := "b2b8865d2ae7ae430e4248bebb068af5858619902dd947565e579b956338037b", func := "colophon/colophonlaw21.HyphenLevels", spec := "hyphenLevels", inPlace := ["internal/abi.NoEscape"], unfollowed := true, recurses := true, named := ["unicode/utf8.first", "unicode/utf8.acceptRanges"], apart := false, laid := [("unicode/utf8.acceptRanges", laid_unicode_utf8_acceptRanges), ("unicode/utf8.first", laid_unicode_utf8_first)], narrowed := true }
def HyphenLevelsUptoSaid : Prop := hyphenLevelsUptoRow.holds Tryd.pinned (OpenSpec.upto hyphenLevelsSpec)

/-- 'colophonlaw21.HyphenPoints', WHERE WHAT IT READS IS OF BULK AT MOST 1048576: true; the input reads as it did. -/
def hyphenPointsUptoRow : OpenClaim := { program := "ytenhfmlkdcfbbaadoor", sum := "b2b8865d2ae7ae430e4248bebb068af5858619902dd947565e579b956338037b", func := "colophon/colophonlaw21.HyphenPoints", spec := "hyphenPoints", inPlace := ["internal/abi.NoEscape"], unfollowed := true, recurses := true, named := ["unicode/utf8.first", "unicode/utf8.acceptRanges"], apart := false, laid := [("unicode/utf8.acceptRanges", laid_unicode_utf8_acceptRanges), ("unicode/utf8.first", laid_unicode_utf8_first)], narrowed := true }
def HyphenPointsUptoSaid : Prop := hyphenPointsUptoRow.holds Tryd.pinned (OpenSpec.upto hyphenPointsSpec)

/-- 'colophonlaw21.HyphenCase', WHERE WHAT IT READS IS OF BULK AT MOST 1048576: true; the input reads as it did. -/
def hyphenCaseUptoRow : OpenClaim := { program := "ytenhfmlkdcfbbaadoor", sum := "b2b8865d2ae7ae430e4248bebb068af5858619902dd947565e579b956338037b", func := "colophon/colophonlaw21.HyphenCase", spec := "hyphenCase", inPlace := ["internal/abi.NoEscape"], unfollowed := true, recurses := true, named := ["unicode/utf8.first", "unicode/utf8.acceptRanges"], apart := false, laid := [("unicode/utf8.acceptRanges", laid_unicode_utf8_acceptRanges), ("unicode/utf8.first", laid_unicode_utf8_first)], narrowed := true }
def HyphenCaseUptoSaid : Prop := hyphenCaseUptoRow.holds Tryd.pinned (OpenSpec.upto hyphenCaseSpec)

/-- 'colophonlaw21.HyphenMore', WHERE WHAT IT READS IS OF BULK AT MOST 1048576: true; the input reads as it did. -/
def hyphenMoreUptoRow : OpenClaim := { program := "ytenhfmlkdcfbbaadoor", sum := "b2b8865d2ae7ae430e4248bebb068af5858619902dd947565e579b956338037b", func := "colophon/colophonlaw21.HyphenMore", spec := "hyphenMore", inPlace := ["internal/abi.NoEscape"], unfollowed := true, recurses := true, named := ["unicode/utf8.first", "unicode/utf8.acceptRanges"], apart := false, laid := [("unicode/utf8.acceptRanges", laid_unicode_utf8_acceptRanges), ("unicode/utf8.first", laid_unicode_utf8_first)], narrowed := true }
def HyphenMoreUptoSaid : Prop := hyphenMoreUptoRow.holds Tryd.pinned (OpenSpec.upto hyphenMoreSpec)

/-- 'colophonlaw21.HyphenEnds', WHERE WHAT IT READS IS OF BULK AT MOST 1048576: true; the input reads as it did. -/
def hyphenEndsUptoRow : OpenClaim := { program := "ytenhfmlkdcfbbaadoor", sum := "b2b8865d2ae7ae430e4248bebb068af5858619902dd947565e579b956338037b", func := "colophon/colophonlaw21.HyphenEnds", spec := "hyphenEnds", inPlace := ["internal/abi.NoEscape"], unfollowed := true, recurses := true, named := ["unicode/utf8.first", "unicode/utf8.acceptRanges"], apart := false, laid := [("unicode/utf8.acceptRanges", laid_unicode_utf8_acceptRanges), ("unicode/utf8.first", laid_unicode_utf8_first)], narrowed := true }
def HyphenEndsUptoSaid : Prop := hyphenEndsUptoRow.holds Tryd.pinned (OpenSpec.upto hyphenEndsSpec)

end Rows
end Go.Proofs.YtenhfmlkdcfbbaaDoor
