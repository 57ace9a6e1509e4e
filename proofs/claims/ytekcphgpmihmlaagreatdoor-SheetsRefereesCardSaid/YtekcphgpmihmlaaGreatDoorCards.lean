/-
  DERIVED. GIVEN WITH THE SEED: THE CARDS: each row of YtekcphgpmihmlaaGreatDoorRows.lean that lists a variable, with what it lists TIED to the program's text (the seventh form; the later family's looks); each row that meets fmt, with fmt's text TOLD by the authors' own Lean function (tested against real Go, not proved from fmt's source: count such statements apart). THE CARD IS WHAT COUNTS. Prove the row's statement (the work); the ties are given (YtekcphgpmihmlaaGreatDoorTie.lean); close each card by the builder's one call (the guide's Derived/Test/ToyasCard.lean, 'card_holds'). Laid BY PROGRAM, IN A SANDBOX (cutbox-door.mjs). By AI agents, Wed Nov 11 2026. No macro, syntax, notation, axiom, sorry.
-/
import Derived.Test.YtekcphgpmihmlaaGreatDoorRows
import GoSem.ClaimSeven
namespace Go.Proofs.YtekcphgpmihmlaaGreatDoor
namespace Rows

/-- THE TIED CARD OF 'assizelaw09.SheetsLatestSpec'. -/
def sheetsLatestSpecCard : Claim7 := { stood := { row := sheetsLatestSpecRow, standIns := [], harness := (true, "e609bb4107f96290d31f7f56c7787056752fface870e385ee6378224745b85a4"), looks := false }, kinds := [], alts := [], laidByText := true, laidKinds := [.data, .data, .data], laidTests := true, laidLooks := .later }
def SheetsLatestSpecCardSaid : Prop := Claim7.holds Tryz.pinned (.plain (OpenSpec.ofChange sheetsLatestSpecSpec)) sheetsLatestSpecCard

/-- THE TIED CARD OF 'assizelaw09.SheetsScoreSpec'. -/
def sheetsScoreSpecCard : Claim7 := { stood := { row := sheetsScoreSpecRow, standIns := [], harness := (true, "e609bb4107f96290d31f7f56c7787056752fface870e385ee6378224745b85a4"), looks := false }, kinds := [], alts := [], laidByText := true, laidKinds := [.data, .data, .data], laidTests := true, laidLooks := .later }
def SheetsScoreSpecCardSaid : Prop := Claim7.holds Tryz.pinned (.plain (OpenSpec.ofChange sheetsScoreSpecSpec)) sheetsScoreSpecCard

/-- THE TIED CARD OF 'assizelaw09.SheetsGamesSpec'. -/
def sheetsGamesSpecCard : Claim7 := { stood := { row := sheetsGamesSpecRow, standIns := [], harness := (true, "e609bb4107f96290d31f7f56c7787056752fface870e385ee6378224745b85a4"), looks := false }, kinds := [], alts := [], laidByText := true, laidKinds := [.data, .data, .data], laidTests := true, laidLooks := .later }
def SheetsGamesSpecCardSaid : Prop := Claim7.holds Tryz.pinned (.plain (OpenSpec.ofChange sheetsGamesSpecSpec)) sheetsGamesSpecCard

/-- THE TIED CARD OF 'assizelaw09.SheetsOrder'. -/
def sheetsOrderCard : Claim7 := { stood := { row := sheetsOrderRow, standIns := [], harness := (true, "e609bb4107f96290d31f7f56c7787056752fface870e385ee6378224745b85a4"), looks := false }, kinds := [], alts := [], laidByText := true, laidKinds := [.data, .data, .data], laidTests := true, laidLooks := .later }
def SheetsOrderCardSaid : Prop := Claim7.holds Tryz.pinned (.plain (OpenSpec.ofChange sheetsOrderSpec)) sheetsOrderCard

/-- THE TIED CARD OF 'assizelaw09.SheetsCorrected'. -/
def sheetsCorrectedCard : Claim7 := { stood := { row := sheetsCorrectedRow, standIns := [], harness := (true, "e609bb4107f96290d31f7f56c7787056752fface870e385ee6378224745b85a4"), looks := false }, kinds := [], alts := [], laidByText := true, laidKinds := [.data, .data, .data], laidTests := true, laidLooks := .later }
def SheetsCorrectedCardSaid : Prop := Claim7.holds Tryz.pinned (.plain (OpenSpec.ofChange sheetsCorrectedSpec)) sheetsCorrectedCard

/-- THE TIED CARD OF 'assizelaw09.SheetsReferees'. -/
def sheetsRefereesCard : Claim7 := { stood := { row := sheetsRefereesRow, standIns := [], harness := (true, "e609bb4107f96290d31f7f56c7787056752fface870e385ee6378224745b85a4"), looks := false }, kinds := [], alts := [], laidByText := true, laidKinds := [.data, .data, .data], laidTests := true, laidLooks := .later }
def SheetsRefereesCardSaid : Prop := Claim7.holds Tryz.pinned (.plain (OpenSpec.ofChange sheetsRefereesSpec)) sheetsRefereesCard

/-- THE SECOND FORM's CARD OF 'assizelaw09.SheetsLatestSpec'. -/
def sheetsLatestSpecUptoCard : Claim7 := { stood := { row := sheetsLatestSpecUptoRow, standIns := [], harness := (true, "e609bb4107f96290d31f7f56c7787056752fface870e385ee6378224745b85a4"), looks := false }, kinds := [], alts := [], laidByText := true, laidKinds := [.data, .data, .data], laidTests := true, laidLooks := .later }
def SheetsLatestSpecUptoCardSaid : Prop := Claim7.holds Tryz.pinned (.plain (OpenSpec.upto sheetsLatestSpecSpec)) sheetsLatestSpecUptoCard

/-- THE SECOND FORM's CARD OF 'assizelaw09.SheetsScoreSpec'. -/
def sheetsScoreSpecUptoCard : Claim7 := { stood := { row := sheetsScoreSpecUptoRow, standIns := [], harness := (true, "e609bb4107f96290d31f7f56c7787056752fface870e385ee6378224745b85a4"), looks := false }, kinds := [], alts := [], laidByText := true, laidKinds := [.data, .data, .data], laidTests := true, laidLooks := .later }
def SheetsScoreSpecUptoCardSaid : Prop := Claim7.holds Tryz.pinned (.plain (OpenSpec.upto sheetsScoreSpecSpec)) sheetsScoreSpecUptoCard

/-- THE SECOND FORM's CARD OF 'assizelaw09.SheetsGamesSpec'. -/
def sheetsGamesSpecUptoCard : Claim7 := { stood := { row := sheetsGamesSpecUptoRow, standIns := [], harness := (true, "e609bb4107f96290d31f7f56c7787056752fface870e385ee6378224745b85a4"), looks := false }, kinds := [], alts := [], laidByText := true, laidKinds := [.data, .data, .data], laidTests := true, laidLooks := .later }
def SheetsGamesSpecUptoCardSaid : Prop := Claim7.holds Tryz.pinned (.plain (OpenSpec.upto sheetsGamesSpecSpec)) sheetsGamesSpecUptoCard

/-- THE SECOND FORM's CARD OF 'assizelaw09.SheetsOrder'. -/
def sheetsOrderUptoCard : Claim7 := { stood := { row := sheetsOrderUptoRow, standIns := [], harness := (true, "e609bb4107f96290d31f7f56c7787056752fface870e385ee6378224745b85a4"), looks := false }, kinds := [], alts := [], laidByText := true, laidKinds := [.data, .data, .data], laidTests := true, laidLooks := .later }
def SheetsOrderUptoCardSaid : Prop := Claim7.holds Tryz.pinned (.plain (OpenSpec.upto sheetsOrderSpec)) sheetsOrderUptoCard

/-- THE SECOND FORM's CARD OF 'assizelaw09.SheetsCorrected'. -/
def sheetsCorrectedUptoCard : Claim7 := { stood := { row := sheetsCorrectedUptoRow, standIns := [], harness := (true, "e609bb4107f96290d31f7f56c7787056752fface870e385ee6378224745b85a4"), looks := false }, kinds := [], alts := [], laidByText := true, laidKinds := [.data, .data, .data], laidTests := true, laidLooks := .later }
def SheetsCorrectedUptoCardSaid : Prop := Claim7.holds Tryz.pinned (.plain (OpenSpec.upto sheetsCorrectedSpec)) sheetsCorrectedUptoCard

/-- THE SECOND FORM's CARD OF 'assizelaw09.SheetsReferees'. -/
def sheetsRefereesUptoCard : Claim7 := { stood := { row := sheetsRefereesUptoRow, standIns := [], harness := (true, "e609bb4107f96290d31f7f56c7787056752fface870e385ee6378224745b85a4"), looks := false }, kinds := [], alts := [], laidByText := true, laidKinds := [.data, .data, .data], laidTests := true, laidLooks := .later }
def SheetsRefereesUptoCardSaid : Prop := Claim7.holds Tryz.pinned (.plain (OpenSpec.upto sheetsRefereesSpec)) sheetsRefereesUptoCard
end Rows
end Go.Proofs.YtekcphgpmihmlaaGreatDoor
