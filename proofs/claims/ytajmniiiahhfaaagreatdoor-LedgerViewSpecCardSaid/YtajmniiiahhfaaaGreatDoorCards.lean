/-
  DERIVED. GIVEN WITH THE SEED: THE CARDS: each row of YtajmniiiahhfaaaGreatDoorRows.lean that lists a variable, with what it lists TIED to the program's text (the seventh form; the later family's looks); each row that meets fmt, with fmt's text TOLD by the authors' own Lean function (tested against real Go, not proved from fmt's source: count such statements apart). THE CARD IS WHAT COUNTS. Prove the row's statement (the work); the ties are given (YtajmniiiahhfaaaGreatDoorTie.lean); close each card by the builder's one call (the guide's Derived/Test/ToyasCard.lean, 'card_holds'). Laid BY PROGRAM, IN A SANDBOX (cutbox-door.mjs). By AI agents, Wed Nov 11 2026. No macro, syntax, notation, axiom, sorry.
-/
import Derived.Test.YtajmniiiahhfaaaGreatDoorRows
import GoSem.ClaimSeven
namespace Go.Proofs.YtajmniiiahhfaaaGreatDoor
namespace Rows

/-- THE TIED CARD OF 'assizelaw09.SheetsLatestSpec'. -/
def sheetsLatestSpecCard : Claim7 := { stood := { row := sheetsLatestSpecRow, standIns := [], harness := (true, "fc1efa901843cf6fcd672ed45d83510c7dda17e7008727cfc772e08826ef6c20"), looks := false }, kinds := [], alts := [], laidByText := true, laidKinds := [.data, .data, .data], laidTests := true, laidLooks := .later }
def SheetsLatestSpecCardSaid : Prop := Claim7.holds Tryz.pinned (.plain (OpenSpec.ofChange sheetsLatestSpecSpec)) sheetsLatestSpecCard

/-- THE TIED CARD OF 'assizelaw09.SheetsScoreSpec'. -/
def sheetsScoreSpecCard : Claim7 := { stood := { row := sheetsScoreSpecRow, standIns := [], harness := (true, "fc1efa901843cf6fcd672ed45d83510c7dda17e7008727cfc772e08826ef6c20"), looks := false }, kinds := [], alts := [], laidByText := true, laidKinds := [.data, .data, .data], laidTests := true, laidLooks := .later }
def SheetsScoreSpecCardSaid : Prop := Claim7.holds Tryz.pinned (.plain (OpenSpec.ofChange sheetsScoreSpecSpec)) sheetsScoreSpecCard

/-- THE TIED CARD OF 'assizelaw09.SheetsGamesSpec'. -/
def sheetsGamesSpecCard : Claim7 := { stood := { row := sheetsGamesSpecRow, standIns := [], harness := (true, "fc1efa901843cf6fcd672ed45d83510c7dda17e7008727cfc772e08826ef6c20"), looks := false }, kinds := [], alts := [], laidByText := true, laidKinds := [.data, .data, .data], laidTests := true, laidLooks := .later }
def SheetsGamesSpecCardSaid : Prop := Claim7.holds Tryz.pinned (.plain (OpenSpec.ofChange sheetsGamesSpecSpec)) sheetsGamesSpecCard

/-- THE TIED CARD OF 'assizelaw08.LedgerNewSpec'. -/
def ledgerNewSpecCard : Claim7 := { stood := { row := ledgerNewSpecRow, standIns := [], harness := (true, "fc1efa901843cf6fcd672ed45d83510c7dda17e7008727cfc772e08826ef6c20"), looks := false }, kinds := [], alts := [], laidByText := true, laidKinds := [.data, .data, .data], laidTests := true, laidLooks := .later }
def LedgerNewSpecCardSaid : Prop := Claim7.holds Tryz.pinned (.plain (OpenSpec.ofChange ledgerNewSpecSpec)) ledgerNewSpecCard

/-- THE TIED CARD OF 'assizelaw08.LedgerForce'. -/
def ledgerForceCard : Claim7 := { stood := { row := ledgerForceRow, standIns := [], harness := (true, "fc1efa901843cf6fcd672ed45d83510c7dda17e7008727cfc772e08826ef6c20"), looks := false }, kinds := [], alts := [], laidByText := true, laidKinds := [.data, .data, .data], laidTests := true, laidLooks := .later }
def LedgerForceCardSaid : Prop := Claim7.holds Tryz.pinned (.plain (OpenSpec.ofChange ledgerForceSpec)) ledgerForceCard

/-- THE TIED CARD OF 'assizelaw08.LedgerArrival'. -/
def ledgerArrivalCard : Claim7 := { stood := { row := ledgerArrivalRow, standIns := [], harness := (true, "fc1efa901843cf6fcd672ed45d83510c7dda17e7008727cfc772e08826ef6c20"), looks := false }, kinds := [], alts := [], laidByText := true, laidKinds := [.data, .data, .data], laidTests := true, laidLooks := .later }
def LedgerArrivalCardSaid : Prop := Claim7.holds Tryz.pinned (.plain (OpenSpec.ofChange ledgerArrivalSpec)) ledgerArrivalCard

/-- THE TIED CARD OF 'assizelaw08.LedgerViewSpec'. -/
def ledgerViewSpecCard : Claim7 := { stood := { row := ledgerViewSpecRow, standIns := [], harness := (true, "fc1efa901843cf6fcd672ed45d83510c7dda17e7008727cfc772e08826ef6c20"), looks := false }, kinds := [], alts := [], laidByText := true, laidKinds := [.data, .data, .data], laidTests := true, laidLooks := .later }
def LedgerViewSpecCardSaid : Prop := Claim7.holds Tryz.pinned (.plain (OpenSpec.ofChange ledgerViewSpecSpec)) ledgerViewSpecCard

/-- THE TIED CARD OF 'assizelaw08.LedgerLater'. -/
def ledgerLaterCard : Claim7 := { stood := { row := ledgerLaterRow, standIns := [], harness := (true, "fc1efa901843cf6fcd672ed45d83510c7dda17e7008727cfc772e08826ef6c20"), looks := false }, kinds := [], alts := [], laidByText := true, laidKinds := [.data, .data, .data], laidTests := true, laidLooks := .later }
def LedgerLaterCardSaid : Prop := Claim7.holds Tryz.pinned (.plain (OpenSpec.ofChange ledgerLaterSpec)) ledgerLaterCard

/-- THE TIED CARD OF 'assizelaw08.LedgerDays'. -/
def ledgerDaysCard : Claim7 := { stood := { row := ledgerDaysRow, standIns := [], harness := (true, "fc1efa901843cf6fcd672ed45d83510c7dda17e7008727cfc772e08826ef6c20"), looks := false }, kinds := [], alts := [], laidByText := true, laidKinds := [.data, .data, .data], laidTests := true, laidLooks := .later }
def LedgerDaysCardSaid : Prop := Claim7.holds Tryz.pinned (.plain (OpenSpec.ofChange ledgerDaysSpec)) ledgerDaysCard

/-- THE TIED CARD OF 'assizelaw08.LedgerAddSpec'. -/
def ledgerAddSpecCard : Claim7 := { stood := { row := ledgerAddSpecRow, standIns := [], harness := (true, "fc1efa901843cf6fcd672ed45d83510c7dda17e7008727cfc772e08826ef6c20"), looks := false }, kinds := [], alts := [], laidByText := true, laidKinds := [.data, .data, .data], laidTests := true, laidLooks := .later }
def LedgerAddSpecCardSaid : Prop := Claim7.holds Tryz.pinned (.plain (OpenSpec.ofChange ledgerAddSpecSpec)) ledgerAddSpecCard

/-- THE TIED CARD OF 'assizelaw08.LedgerLacks'. -/
def ledgerLacksCard : Claim7 := { stood := { row := ledgerLacksRow, standIns := [], harness := (true, "fc1efa901843cf6fcd672ed45d83510c7dda17e7008727cfc772e08826ef6c20"), looks := false }, kinds := [], alts := [], laidByText := true, laidKinds := [.data, .data, .data], laidTests := true, laidLooks := .later }
def LedgerLacksCardSaid : Prop := Claim7.holds Tryz.pinned (.plain (OpenSpec.ofChange ledgerLacksSpec)) ledgerLacksCard

/-- THE SECOND FORM's CARD OF 'assizelaw09.SheetsLatestSpec'. -/
def sheetsLatestSpecUptoCard : Claim7 := { stood := { row := sheetsLatestSpecUptoRow, standIns := [], harness := (true, "fc1efa901843cf6fcd672ed45d83510c7dda17e7008727cfc772e08826ef6c20"), looks := false }, kinds := [], alts := [], laidByText := true, laidKinds := [.data, .data, .data], laidTests := true, laidLooks := .later }
def SheetsLatestSpecUptoCardSaid : Prop := Claim7.holds Tryz.pinned (.plain (OpenSpec.upto sheetsLatestSpecSpec)) sheetsLatestSpecUptoCard

/-- THE SECOND FORM's CARD OF 'assizelaw09.SheetsScoreSpec'. -/
def sheetsScoreSpecUptoCard : Claim7 := { stood := { row := sheetsScoreSpecUptoRow, standIns := [], harness := (true, "fc1efa901843cf6fcd672ed45d83510c7dda17e7008727cfc772e08826ef6c20"), looks := false }, kinds := [], alts := [], laidByText := true, laidKinds := [.data, .data, .data], laidTests := true, laidLooks := .later }
def SheetsScoreSpecUptoCardSaid : Prop := Claim7.holds Tryz.pinned (.plain (OpenSpec.upto sheetsScoreSpecSpec)) sheetsScoreSpecUptoCard

/-- THE SECOND FORM's CARD OF 'assizelaw09.SheetsGamesSpec'. -/
def sheetsGamesSpecUptoCard : Claim7 := { stood := { row := sheetsGamesSpecUptoRow, standIns := [], harness := (true, "fc1efa901843cf6fcd672ed45d83510c7dda17e7008727cfc772e08826ef6c20"), looks := false }, kinds := [], alts := [], laidByText := true, laidKinds := [.data, .data, .data], laidTests := true, laidLooks := .later }
def SheetsGamesSpecUptoCardSaid : Prop := Claim7.holds Tryz.pinned (.plain (OpenSpec.upto sheetsGamesSpecSpec)) sheetsGamesSpecUptoCard

/-- THE SECOND FORM's CARD OF 'assizelaw08.LedgerNewSpec'. -/
def ledgerNewSpecUptoCard : Claim7 := { stood := { row := ledgerNewSpecUptoRow, standIns := [], harness := (true, "fc1efa901843cf6fcd672ed45d83510c7dda17e7008727cfc772e08826ef6c20"), looks := false }, kinds := [], alts := [], laidByText := true, laidKinds := [.data, .data, .data], laidTests := true, laidLooks := .later }
def LedgerNewSpecUptoCardSaid : Prop := Claim7.holds Tryz.pinned (.plain (OpenSpec.upto ledgerNewSpecSpec)) ledgerNewSpecUptoCard

/-- THE SECOND FORM's CARD OF 'assizelaw08.LedgerForce'. -/
def ledgerForceUptoCard : Claim7 := { stood := { row := ledgerForceUptoRow, standIns := [], harness := (true, "fc1efa901843cf6fcd672ed45d83510c7dda17e7008727cfc772e08826ef6c20"), looks := false }, kinds := [], alts := [], laidByText := true, laidKinds := [.data, .data, .data], laidTests := true, laidLooks := .later }
def LedgerForceUptoCardSaid : Prop := Claim7.holds Tryz.pinned (.plain (OpenSpec.upto ledgerForceSpec)) ledgerForceUptoCard

/-- THE SECOND FORM's CARD OF 'assizelaw08.LedgerArrival'. -/
def ledgerArrivalUptoCard : Claim7 := { stood := { row := ledgerArrivalUptoRow, standIns := [], harness := (true, "fc1efa901843cf6fcd672ed45d83510c7dda17e7008727cfc772e08826ef6c20"), looks := false }, kinds := [], alts := [], laidByText := true, laidKinds := [.data, .data, .data], laidTests := true, laidLooks := .later }
def LedgerArrivalUptoCardSaid : Prop := Claim7.holds Tryz.pinned (.plain (OpenSpec.upto ledgerArrivalSpec)) ledgerArrivalUptoCard

/-- THE SECOND FORM's CARD OF 'assizelaw08.LedgerViewSpec'. -/
def ledgerViewSpecUptoCard : Claim7 := { stood := { row := ledgerViewSpecUptoRow, standIns := [], harness := (true, "fc1efa901843cf6fcd672ed45d83510c7dda17e7008727cfc772e08826ef6c20"), looks := false }, kinds := [], alts := [], laidByText := true, laidKinds := [.data, .data, .data], laidTests := true, laidLooks := .later }
def LedgerViewSpecUptoCardSaid : Prop := Claim7.holds Tryz.pinned (.plain (OpenSpec.upto ledgerViewSpecSpec)) ledgerViewSpecUptoCard

/-- THE SECOND FORM's CARD OF 'assizelaw08.LedgerLater'. -/
def ledgerLaterUptoCard : Claim7 := { stood := { row := ledgerLaterUptoRow, standIns := [], harness := (true, "fc1efa901843cf6fcd672ed45d83510c7dda17e7008727cfc772e08826ef6c20"), looks := false }, kinds := [], alts := [], laidByText := true, laidKinds := [.data, .data, .data], laidTests := true, laidLooks := .later }
def LedgerLaterUptoCardSaid : Prop := Claim7.holds Tryz.pinned (.plain (OpenSpec.upto ledgerLaterSpec)) ledgerLaterUptoCard

/-- THE SECOND FORM's CARD OF 'assizelaw08.LedgerDays'. -/
def ledgerDaysUptoCard : Claim7 := { stood := { row := ledgerDaysUptoRow, standIns := [], harness := (true, "fc1efa901843cf6fcd672ed45d83510c7dda17e7008727cfc772e08826ef6c20"), looks := false }, kinds := [], alts := [], laidByText := true, laidKinds := [.data, .data, .data], laidTests := true, laidLooks := .later }
def LedgerDaysUptoCardSaid : Prop := Claim7.holds Tryz.pinned (.plain (OpenSpec.upto ledgerDaysSpec)) ledgerDaysUptoCard

/-- THE SECOND FORM's CARD OF 'assizelaw08.LedgerAddSpec'. -/
def ledgerAddSpecUptoCard : Claim7 := { stood := { row := ledgerAddSpecUptoRow, standIns := [], harness := (true, "fc1efa901843cf6fcd672ed45d83510c7dda17e7008727cfc772e08826ef6c20"), looks := false }, kinds := [], alts := [], laidByText := true, laidKinds := [.data, .data, .data], laidTests := true, laidLooks := .later }
def LedgerAddSpecUptoCardSaid : Prop := Claim7.holds Tryz.pinned (.plain (OpenSpec.upto ledgerAddSpecSpec)) ledgerAddSpecUptoCard

/-- THE SECOND FORM's CARD OF 'assizelaw08.LedgerLacks'. -/
def ledgerLacksUptoCard : Claim7 := { stood := { row := ledgerLacksUptoRow, standIns := [], harness := (true, "fc1efa901843cf6fcd672ed45d83510c7dda17e7008727cfc772e08826ef6c20"), looks := false }, kinds := [], alts := [], laidByText := true, laidKinds := [.data, .data, .data], laidTests := true, laidLooks := .later }
def LedgerLacksUptoCardSaid : Prop := Claim7.holds Tryz.pinned (.plain (OpenSpec.upto ledgerLacksSpec)) ledgerLacksUptoCard
end Rows
end Go.Proofs.YtajmniiiahhfaaaGreatDoor
