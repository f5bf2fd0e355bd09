/-
  DERIVED. GIVEN WITH THE SEED: THE CARDS: each row of YtgehocejaipacaaDoorRows.lean that lists a variable, with what it lists TIED to the program's text (the seventh form; the later family's looks); each row that meets fmt, with fmt's text TOLD by the authors' own Lean function (tested against real Go, not proved from fmt's source: count such statements apart). THE CARD IS WHAT COUNTS. Prove the row's statement (the work); the ties are given (YtgehocejaipacaaDoorTie.lean); close each card by the builder's one call (the guide's Derived/Test/ToyasCard.lean, 'card_holds'). Laid BY PROGRAM, IN A SANDBOX (cutbox-door.mjs). By AI agents, Wed Nov 11 2026. No macro, syntax, notation, axiom, sorry.
-/
import Derived.Test.YtgehocejaipacaaDoorRows
import GoSem.ClaimSeven
namespace Go.Proofs.YtgehocejaipacaaDoor
namespace Rows

/-- THE TIED CARD OF 'colophonlaw04.UtfDecodes'. -/
def utfDecodesCard : Claim7 := { stood := { row := utfDecodesRow, standIns := [], harness := (true, "d361c97e5a692b3738bd9600bdb49b2ffa8d87e0dba611d20d4b559c77c9da0f"), looks := false }, kinds := [], alts := [], laidByText := true, laidKinds := [.data, .pinned], laidTests := true, laidLooks := .later }
def UtfDecodesCardSaid : Prop := Claim7.holds Tryd.pinned (.plain (OpenSpec.ofChange utfDecodesSpec)) utfDecodesCard

/-- THE TIED CARD OF 'colophonlaw04.UtfClasses'. -/
def utfClassesCard : Claim7 := { stood := { row := utfClassesRow, standIns := [], harness := (true, "d361c97e5a692b3738bd9600bdb49b2ffa8d87e0dba611d20d4b559c77c9da0f"), looks := false }, kinds := [], alts := [], laidByText := true, laidKinds := [.data, .pinned], laidTests := true, laidLooks := .later }
def UtfClassesCardSaid : Prop := Claim7.holds Tryd.pinned (.plain (OpenSpec.ofChange utfClassesSpec)) utfClassesCard

/-- THE TIED CARD OF 'colophonlaw04.UtfWords'. -/
def utfWordsCard : Claim7 := { stood := { row := utfWordsRow, standIns := [], harness := (true, "d361c97e5a692b3738bd9600bdb49b2ffa8d87e0dba611d20d4b559c77c9da0f"), looks := false }, kinds := [], alts := [], laidByText := true, laidKinds := [.data, .pinned], laidTests := true, laidLooks := .later }
def UtfWordsCardSaid : Prop := Claim7.holds Tryd.pinned (.plain (OpenSpec.ofChange utfWordsSpec)) utfWordsCard

/-- THE TIED CARD OF 'colophonlaw04.UtfStretches'. -/
def utfStretchesCard : Claim7 := { stood := { row := utfStretchesRow, standIns := [], harness := (true, "d361c97e5a692b3738bd9600bdb49b2ffa8d87e0dba611d20d4b559c77c9da0f"), looks := false }, kinds := [], alts := [], laidByText := true, laidKinds := [.data, .pinned], laidTests := true, laidLooks := .later }
def UtfStretchesCardSaid : Prop := Claim7.holds Tryd.pinned (.plain (OpenSpec.ofChange utfStretchesSpec)) utfStretchesCard

/-- THE TIED CARD OF 'colophonlaw04.UtfWides'. -/
def utfWidesCard : Claim7 := { stood := { row := utfWidesRow, standIns := [], harness := (true, "d361c97e5a692b3738bd9600bdb49b2ffa8d87e0dba611d20d4b559c77c9da0f"), looks := false }, kinds := [], alts := [], laidByText := true, laidKinds := [.data, .pinned], laidTests := true, laidLooks := .later }
def UtfWidesCardSaid : Prop := Claim7.holds Tryd.pinned (.plain (OpenSpec.ofChange utfWidesSpec)) utfWidesCard

/-- THE TIED CARD OF 'colophonlaw04.UtfEncodes'. -/
def utfEncodesCard : Claim7 := { stood := { row := utfEncodesRow, standIns := [], harness := (true, "d361c97e5a692b3738bd9600bdb49b2ffa8d87e0dba611d20d4b559c77c9da0f"), looks := false }, kinds := [], alts := [], laidByText := true, laidKinds := [.data, .pinned], laidTests := true, laidLooks := .later }
def UtfEncodesCardSaid : Prop := Claim7.holds Tryd.pinned (.plain (OpenSpec.ofChange utfEncodesSpec)) utfEncodesCard

/-- THE TIED CARD OF 'colophonlaw04.UtfBack'. -/
def utfBackCard : Claim7 := { stood := { row := utfBackRow, standIns := [], harness := (true, "d361c97e5a692b3738bd9600bdb49b2ffa8d87e0dba611d20d4b559c77c9da0f"), looks := false }, kinds := [], alts := [], laidByText := true, laidKinds := [.data, .pinned], laidTests := true, laidLooks := .later }
def UtfBackCardSaid : Prop := Claim7.holds Tryd.pinned (.plain (OpenSpec.ofChange utfBackSpec)) utfBackCard

/-- THE SECOND FORM's CARD OF 'colophonlaw04.UtfDecodes'. -/
def utfDecodesUptoCard : Claim7 := { stood := { row := utfDecodesUptoRow, standIns := [], harness := (true, "d361c97e5a692b3738bd9600bdb49b2ffa8d87e0dba611d20d4b559c77c9da0f"), looks := false }, kinds := [], alts := [], laidByText := true, laidKinds := [.data, .pinned], laidTests := true, laidLooks := .later }
def UtfDecodesUptoCardSaid : Prop := Claim7.holds Tryd.pinned (.plain (OpenSpec.upto utfDecodesSpec)) utfDecodesUptoCard

/-- THE SECOND FORM's CARD OF 'colophonlaw04.UtfClasses'. -/
def utfClassesUptoCard : Claim7 := { stood := { row := utfClassesUptoRow, standIns := [], harness := (true, "d361c97e5a692b3738bd9600bdb49b2ffa8d87e0dba611d20d4b559c77c9da0f"), looks := false }, kinds := [], alts := [], laidByText := true, laidKinds := [.data, .pinned], laidTests := true, laidLooks := .later }
def UtfClassesUptoCardSaid : Prop := Claim7.holds Tryd.pinned (.plain (OpenSpec.upto utfClassesSpec)) utfClassesUptoCard

/-- THE SECOND FORM's CARD OF 'colophonlaw04.UtfWords'. -/
def utfWordsUptoCard : Claim7 := { stood := { row := utfWordsUptoRow, standIns := [], harness := (true, "d361c97e5a692b3738bd9600bdb49b2ffa8d87e0dba611d20d4b559c77c9da0f"), looks := false }, kinds := [], alts := [], laidByText := true, laidKinds := [.data, .pinned], laidTests := true, laidLooks := .later }
def UtfWordsUptoCardSaid : Prop := Claim7.holds Tryd.pinned (.plain (OpenSpec.upto utfWordsSpec)) utfWordsUptoCard

/-- THE SECOND FORM's CARD OF 'colophonlaw04.UtfStretches'. -/
def utfStretchesUptoCard : Claim7 := { stood := { row := utfStretchesUptoRow, standIns := [], harness := (true, "d361c97e5a692b3738bd9600bdb49b2ffa8d87e0dba611d20d4b559c77c9da0f"), looks := false }, kinds := [], alts := [], laidByText := true, laidKinds := [.data, .pinned], laidTests := true, laidLooks := .later }
def UtfStretchesUptoCardSaid : Prop := Claim7.holds Tryd.pinned (.plain (OpenSpec.upto utfStretchesSpec)) utfStretchesUptoCard

/-- THE SECOND FORM's CARD OF 'colophonlaw04.UtfWides'. -/
def utfWidesUptoCard : Claim7 := { stood := { row := utfWidesUptoRow, standIns := [], harness := (true, "d361c97e5a692b3738bd9600bdb49b2ffa8d87e0dba611d20d4b559c77c9da0f"), looks := false }, kinds := [], alts := [], laidByText := true, laidKinds := [.data, .pinned], laidTests := true, laidLooks := .later }
def UtfWidesUptoCardSaid : Prop := Claim7.holds Tryd.pinned (.plain (OpenSpec.upto utfWidesSpec)) utfWidesUptoCard

/-- THE SECOND FORM's CARD OF 'colophonlaw04.UtfEncodes'. -/
def utfEncodesUptoCard : Claim7 := { stood := { row := utfEncodesUptoRow, standIns := [], harness := (true, "d361c97e5a692b3738bd9600bdb49b2ffa8d87e0dba611d20d4b559c77c9da0f"), looks := false }, kinds := [], alts := [], laidByText := true, laidKinds := [.data, .pinned], laidTests := true, laidLooks := .later }
def UtfEncodesUptoCardSaid : Prop := Claim7.holds Tryd.pinned (.plain (OpenSpec.upto utfEncodesSpec)) utfEncodesUptoCard

/-- THE SECOND FORM's CARD OF 'colophonlaw04.UtfBack'. -/
def utfBackUptoCard : Claim7 := { stood := { row := utfBackUptoRow, standIns := [], harness := (true, "d361c97e5a692b3738bd9600bdb49b2ffa8d87e0dba611d20d4b559c77c9da0f"), looks := false }, kinds := [], alts := [], laidByText := true, laidKinds := [.data, .pinned], laidTests := true, laidLooks := .later }
def UtfBackUptoCardSaid : Prop := Claim7.holds Tryd.pinned (.plain (OpenSpec.upto utfBackSpec)) utfBackUptoCard
end Rows
end Go.Proofs.YtgehocejaipacaaDoor
