/-
  DERIVED. GIVEN WITH THE SEED: THE CARDS: each row of YtmcdcpejkldepaaDoorRows.lean that lists a variable, with what it lists TIED to the program's text (the seventh form; the later family's looks); each row that meets fmt, with fmt's text TOLD by the authors' own Lean function (tested against real Go, not proved from fmt's source: count such statements apart). THE CARD IS WHAT COUNTS. Prove the row's statement (the work); the ties are given (YtmcdcpejkldepaaDoorTie.lean); close each card by the builder's one call (the guide's Derived/Test/ToyasCard.lean, 'card_holds'). Laid BY PROGRAM, IN A SANDBOX (cutbox-door.mjs). By AI agents, Wed Nov 11 2026. No macro, syntax, notation, axiom, sorry.
-/
import Derived.Test.YtmcdcpejkldepaaDoorRows
import GoSem.ClaimSeven
namespace Go.Proofs.YtmcdcpejkldepaaDoor
namespace Rows

/-- THE TIED CARD OF 'colophonlaw28.FurnishSays'. -/
def furnishSaysCard : Claim7 := { stood := { row := furnishSaysRow, standIns := [], harness := (true, "d75f09dafc53c8eb0ff3a588d41779deca4ba5f61477ee82450f1a090aa56197"), looks := false }, kinds := [], alts := [], laidByText := true, laidKinds := [.data, .data, .data, .data, .pinned], laidTests := true, laidLooks := .later }
def FurnishSaysCardSaid : Prop := Claim7.holds Tryd.pinned (.plain (OpenSpec.ofChange furnishSaysSpec)) furnishSaysCard

/-- THE TIED CARD OF 'colophonlaw28.FurnishCenters'. -/
def furnishCentersCard : Claim7 := { stood := { row := furnishCentersRow, standIns := [], harness := (true, "d75f09dafc53c8eb0ff3a588d41779deca4ba5f61477ee82450f1a090aa56197"), looks := false }, kinds := [], alts := [], laidByText := true, laidKinds := [.data, .data, .data, .data, .pinned], laidTests := true, laidLooks := .later }
def FurnishCentersCardSaid : Prop := Claim7.holds Tryd.pinned (.plain (OpenSpec.ofChange furnishCentersSpec)) furnishCentersCard

/-- THE TIED CARD OF 'colophonlaw28.FurnishJoins'. -/
def furnishJoinsCard : Claim7 := { stood := { row := furnishJoinsRow, standIns := [], harness := (true, "d75f09dafc53c8eb0ff3a588d41779deca4ba5f61477ee82450f1a090aa56197"), looks := false }, kinds := [], alts := [], laidByText := true, laidKinds := [.data, .data, .data, .data, .pinned], laidTests := true, laidLooks := .later }
def FurnishJoinsCardSaid : Prop := Claim7.holds Tryd.pinned (.plain (OpenSpec.ofChange furnishJoinsSpec)) furnishJoinsCard

/-- THE TIED CARD OF 'colophonlaw28.FurnishPlain'. -/
def furnishPlainCard : Claim7 := { stood := { row := furnishPlainRow, standIns := [], harness := (true, "d75f09dafc53c8eb0ff3a588d41779deca4ba5f61477ee82450f1a090aa56197"), looks := false }, kinds := [], alts := [], laidByText := true, laidKinds := [.data, .data, .data, .data, .pinned], laidTests := true, laidLooks := .later }
def FurnishPlainCardSaid : Prop := Claim7.holds Tryd.pinned (.plain (OpenSpec.ofChange furnishPlainSpec)) furnishPlainCard

/-- THE TIED CARD OF 'colophonlaw28.FurnishTitles'. -/
def furnishTitlesCard : Claim7 := { stood := { row := furnishTitlesRow, standIns := [], harness := (true, "d75f09dafc53c8eb0ff3a588d41779deca4ba5f61477ee82450f1a090aa56197"), looks := false }, kinds := [], alts := [], laidByText := true, laidKinds := [.data, .data, .data, .data, .pinned], laidTests := true, laidLooks := .later }
def FurnishTitlesCardSaid : Prop := Claim7.holds Tryd.pinned (.plain (OpenSpec.ofChange furnishTitlesSpec)) furnishTitlesCard

/-- THE SECOND FORM's CARD OF 'colophonlaw28.FurnishSays'. -/
def furnishSaysUptoCard : Claim7 := { stood := { row := furnishSaysUptoRow, standIns := [], harness := (true, "d75f09dafc53c8eb0ff3a588d41779deca4ba5f61477ee82450f1a090aa56197"), looks := false }, kinds := [], alts := [], laidByText := true, laidKinds := [.data, .data, .data, .data, .pinned], laidTests := true, laidLooks := .later }
def FurnishSaysUptoCardSaid : Prop := Claim7.holds Tryd.pinned (.plain (OpenSpec.upto furnishSaysSpec)) furnishSaysUptoCard

/-- THE SECOND FORM's CARD OF 'colophonlaw28.FurnishCenters'. -/
def furnishCentersUptoCard : Claim7 := { stood := { row := furnishCentersUptoRow, standIns := [], harness := (true, "d75f09dafc53c8eb0ff3a588d41779deca4ba5f61477ee82450f1a090aa56197"), looks := false }, kinds := [], alts := [], laidByText := true, laidKinds := [.data, .data, .data, .data, .pinned], laidTests := true, laidLooks := .later }
def FurnishCentersUptoCardSaid : Prop := Claim7.holds Tryd.pinned (.plain (OpenSpec.upto furnishCentersSpec)) furnishCentersUptoCard

/-- THE SECOND FORM's CARD OF 'colophonlaw28.FurnishJoins'. -/
def furnishJoinsUptoCard : Claim7 := { stood := { row := furnishJoinsUptoRow, standIns := [], harness := (true, "d75f09dafc53c8eb0ff3a588d41779deca4ba5f61477ee82450f1a090aa56197"), looks := false }, kinds := [], alts := [], laidByText := true, laidKinds := [.data, .data, .data, .data, .pinned], laidTests := true, laidLooks := .later }
def FurnishJoinsUptoCardSaid : Prop := Claim7.holds Tryd.pinned (.plain (OpenSpec.upto furnishJoinsSpec)) furnishJoinsUptoCard

/-- THE SECOND FORM's CARD OF 'colophonlaw28.FurnishPlain'. -/
def furnishPlainUptoCard : Claim7 := { stood := { row := furnishPlainUptoRow, standIns := [], harness := (true, "d75f09dafc53c8eb0ff3a588d41779deca4ba5f61477ee82450f1a090aa56197"), looks := false }, kinds := [], alts := [], laidByText := true, laidKinds := [.data, .data, .data, .data, .pinned], laidTests := true, laidLooks := .later }
def FurnishPlainUptoCardSaid : Prop := Claim7.holds Tryd.pinned (.plain (OpenSpec.upto furnishPlainSpec)) furnishPlainUptoCard

/-- THE SECOND FORM's CARD OF 'colophonlaw28.FurnishTitles'. -/
def furnishTitlesUptoCard : Claim7 := { stood := { row := furnishTitlesUptoRow, standIns := [], harness := (true, "d75f09dafc53c8eb0ff3a588d41779deca4ba5f61477ee82450f1a090aa56197"), looks := false }, kinds := [], alts := [], laidByText := true, laidKinds := [.data, .data, .data, .data, .pinned], laidTests := true, laidLooks := .later }
def FurnishTitlesUptoCardSaid : Prop := Claim7.holds Tryd.pinned (.plain (OpenSpec.upto furnishTitlesSpec)) furnishTitlesUptoCard
end Rows
end Go.Proofs.YtmcdcpejkldepaaDoor
