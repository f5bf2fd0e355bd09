/-
  DERIVED. GIVEN WITH THE SEED: THE CARDS: each row of YtenhfmlkdcfbbaaDoorRows.lean that lists a variable, with what it lists TIED to the program's text (the seventh form; the later family's looks); each row that meets fmt, with fmt's text TOLD by the authors' own Lean function (tested against real Go, not proved from fmt's source: count such statements apart). THE CARD IS WHAT COUNTS. Prove the row's statement (the work); the ties are given (YtenhfmlkdcfbbaaDoorTie.lean); close each card by the builder's one call (the guide's Derived/Test/ToyasCard.lean, 'card_holds'). Laid BY PROGRAM, IN A SANDBOX (cutbox-door.mjs). By AI agents, Wed Nov 11 2026. No macro, syntax, notation, axiom, sorry.
-/
import Derived.Test.YtenhfmlkdcfbbaaDoorRows
import GoSem.ClaimSeven
namespace Go.Proofs.YtenhfmlkdcfbbaaDoor
namespace Rows

/-- THE TIED CARD OF 'colophonlaw21.HyphenCompiles'. -/
def hyphenCompilesCard : Claim7 := { stood := { row := hyphenCompilesRow, standIns := [], harness := (true, "7dca800c8d629fdb7a258e2db9a91b47eab33e9d0d0cc113bcf9323b24c01655"), looks := false }, kinds := [], alts := [], laidByText := true, laidKinds := [.data, .pinned], laidTests := true, laidLooks := .later }
def HyphenCompilesCardSaid : Prop := Claim7.holds Tryd.pinned (.plain (OpenSpec.ofChange hyphenCompilesSpec)) hyphenCompilesCard

/-- THE TIED CARD OF 'colophonlaw21.HyphenLevels'. -/
def hyphenLevelsCard : Claim7 := { stood := { row := hyphenLevelsRow, standIns := [], harness := (true, "7dca800c8d629fdb7a258e2db9a91b47eab33e9d0d0cc113bcf9323b24c01655"), looks := false }, kinds := [], alts := [], laidByText := true, laidKinds := [.data, .pinned], laidTests := true, laidLooks := .later }
def HyphenLevelsCardSaid : Prop := Claim7.holds Tryd.pinned (.plain (OpenSpec.ofChange hyphenLevelsSpec)) hyphenLevelsCard

/-- THE TIED CARD OF 'colophonlaw21.HyphenPoints'. -/
def hyphenPointsCard : Claim7 := { stood := { row := hyphenPointsRow, standIns := [], harness := (true, "7dca800c8d629fdb7a258e2db9a91b47eab33e9d0d0cc113bcf9323b24c01655"), looks := false }, kinds := [], alts := [], laidByText := true, laidKinds := [.data, .pinned], laidTests := true, laidLooks := .later }
def HyphenPointsCardSaid : Prop := Claim7.holds Tryd.pinned (.plain (OpenSpec.ofChange hyphenPointsSpec)) hyphenPointsCard

/-- THE TIED CARD OF 'colophonlaw21.HyphenCase'. -/
def hyphenCaseCard : Claim7 := { stood := { row := hyphenCaseRow, standIns := [], harness := (true, "7dca800c8d629fdb7a258e2db9a91b47eab33e9d0d0cc113bcf9323b24c01655"), looks := false }, kinds := [], alts := [], laidByText := true, laidKinds := [.data, .pinned], laidTests := true, laidLooks := .later }
def HyphenCaseCardSaid : Prop := Claim7.holds Tryd.pinned (.plain (OpenSpec.ofChange hyphenCaseSpec)) hyphenCaseCard

/-- THE TIED CARD OF 'colophonlaw21.HyphenMore'. -/
def hyphenMoreCard : Claim7 := { stood := { row := hyphenMoreRow, standIns := [], harness := (true, "7dca800c8d629fdb7a258e2db9a91b47eab33e9d0d0cc113bcf9323b24c01655"), looks := false }, kinds := [], alts := [], laidByText := true, laidKinds := [.data, .pinned], laidTests := true, laidLooks := .later }
def HyphenMoreCardSaid : Prop := Claim7.holds Tryd.pinned (.plain (OpenSpec.ofChange hyphenMoreSpec)) hyphenMoreCard

/-- THE TIED CARD OF 'colophonlaw21.HyphenEnds'. -/
def hyphenEndsCard : Claim7 := { stood := { row := hyphenEndsRow, standIns := [], harness := (true, "7dca800c8d629fdb7a258e2db9a91b47eab33e9d0d0cc113bcf9323b24c01655"), looks := false }, kinds := [], alts := [], laidByText := true, laidKinds := [.data, .pinned], laidTests := true, laidLooks := .later }
def HyphenEndsCardSaid : Prop := Claim7.holds Tryd.pinned (.plain (OpenSpec.ofChange hyphenEndsSpec)) hyphenEndsCard

/-- THE SECOND FORM's CARD OF 'colophonlaw21.HyphenCompiles'. -/
def hyphenCompilesUptoCard : Claim7 := { stood := { row := hyphenCompilesUptoRow, standIns := [], harness := (true, "7dca800c8d629fdb7a258e2db9a91b47eab33e9d0d0cc113bcf9323b24c01655"), looks := false }, kinds := [], alts := [], laidByText := true, laidKinds := [.data, .pinned], laidTests := true, laidLooks := .later }
def HyphenCompilesUptoCardSaid : Prop := Claim7.holds Tryd.pinned (.plain (OpenSpec.upto hyphenCompilesSpec)) hyphenCompilesUptoCard

/-- THE SECOND FORM's CARD OF 'colophonlaw21.HyphenLevels'. -/
def hyphenLevelsUptoCard : Claim7 := { stood := { row := hyphenLevelsUptoRow, standIns := [], harness := (true, "7dca800c8d629fdb7a258e2db9a91b47eab33e9d0d0cc113bcf9323b24c01655"), looks := false }, kinds := [], alts := [], laidByText := true, laidKinds := [.data, .pinned], laidTests := true, laidLooks := .later }
def HyphenLevelsUptoCardSaid : Prop := Claim7.holds Tryd.pinned (.plain (OpenSpec.upto hyphenLevelsSpec)) hyphenLevelsUptoCard

/-- THE SECOND FORM's CARD OF 'colophonlaw21.HyphenPoints'. -/
def hyphenPointsUptoCard : Claim7 := { stood := { row := hyphenPointsUptoRow, standIns := [], harness := (true, "7dca800c8d629fdb7a258e2db9a91b47eab33e9d0d0cc113bcf9323b24c01655"), looks := false }, kinds := [], alts := [], laidByText := true, laidKinds := [.data, .pinned], laidTests := true, laidLooks := .later }
def HyphenPointsUptoCardSaid : Prop := Claim7.holds Tryd.pinned (.plain (OpenSpec.upto hyphenPointsSpec)) hyphenPointsUptoCard

/-- THE SECOND FORM's CARD OF 'colophonlaw21.HyphenCase'. -/
def hyphenCaseUptoCard : Claim7 := { stood := { row := hyphenCaseUptoRow, standIns := [], harness := (true, "7dca800c8d629fdb7a258e2db9a91b47eab33e9d0d0cc113bcf9323b24c01655"), looks := false }, kinds := [], alts := [], laidByText := true, laidKinds := [.data, .pinned], laidTests := true, laidLooks := .later }
def HyphenCaseUptoCardSaid : Prop := Claim7.holds Tryd.pinned (.plain (OpenSpec.upto hyphenCaseSpec)) hyphenCaseUptoCard

/-- THE SECOND FORM's CARD OF 'colophonlaw21.HyphenMore'. -/
def hyphenMoreUptoCard : Claim7 := { stood := { row := hyphenMoreUptoRow, standIns := [], harness := (true, "7dca800c8d629fdb7a258e2db9a91b47eab33e9d0d0cc113bcf9323b24c01655"), looks := false }, kinds := [], alts := [], laidByText := true, laidKinds := [.data, .pinned], laidTests := true, laidLooks := .later }
def HyphenMoreUptoCardSaid : Prop := Claim7.holds Tryd.pinned (.plain (OpenSpec.upto hyphenMoreSpec)) hyphenMoreUptoCard

/-- THE SECOND FORM's CARD OF 'colophonlaw21.HyphenEnds'. -/
def hyphenEndsUptoCard : Claim7 := { stood := { row := hyphenEndsUptoRow, standIns := [], harness := (true, "7dca800c8d629fdb7a258e2db9a91b47eab33e9d0d0cc113bcf9323b24c01655"), looks := false }, kinds := [], alts := [], laidByText := true, laidKinds := [.data, .pinned], laidTests := true, laidLooks := .later }
def HyphenEndsUptoCardSaid : Prop := Claim7.holds Tryd.pinned (.plain (OpenSpec.upto hyphenEndsSpec)) hyphenEndsUptoCard
end Rows
end Go.Proofs.YtenhfmlkdcfbbaaDoor
