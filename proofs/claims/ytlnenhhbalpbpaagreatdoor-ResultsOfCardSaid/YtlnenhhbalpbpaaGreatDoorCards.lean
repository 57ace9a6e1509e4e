/-
  DERIVED. GIVEN WITH THE SEED: THE CARDS: each row of YtlnenhhbalpbpaaGreatDoorRows.lean that lists a variable, with what it lists TIED to the program's text (the seventh form; the later family's looks); each row that meets fmt, with fmt's text TOLD by the authors' own Lean function (tested against real Go, not proved from fmt's source: count such statements apart). THE CARD IS WHAT COUNTS. Prove the row's statement (the work); the ties are given (YtlnenhhbalpbpaaGreatDoorTie.lean); close each card by the builder's one call (the guide's Derived/Test/ToyasCard.lean, 'card_holds'). Laid BY PROGRAM, IN A SANDBOX (cutbox-door.mjs). By AI agents, Wed Nov 11 2026. No macro, syntax, notation, axiom, sorry.
-/
import Derived.Test.YtlnenhhbalpbpaaGreatDoorRows
import GoSem.ClaimSeven
namespace Go.Proofs.YtlnenhhbalpbpaaGreatDoor
namespace Rows

/-- THE TIED CARD OF 'assizelaw12.ResultsOf'. -/
def resultsOfCard : Claim7 := { stood := { row := resultsOfRow, standIns := [], harness := (true, "fe661a1bf89e2fa3a50c1063099b728efbbbdcc8e7dcdfaa81b77cad2e12eda1"), looks := false }, kinds := [], alts := [], laidByText := true, laidKinds := [.data, .data, .data], laidTests := true, laidLooks := .later }
def ResultsOfCardSaid : Prop := Claim7.holds Tryz.pinned (.plain (OpenSpec.ofChange resultsOfSpec)) resultsOfCard

/-- THE TIED CARD OF 'assizelaw12.ResultsChecks'. -/
def resultsChecksCard : Claim7 := { stood := { row := resultsChecksRow, standIns := [], harness := (true, "fe661a1bf89e2fa3a50c1063099b728efbbbdcc8e7dcdfaa81b77cad2e12eda1"), looks := false }, kinds := [], alts := [], laidByText := true, laidKinds := [.data, .data, .data], laidTests := true, laidLooks := .later }
def ResultsChecksCardSaid : Prop := Claim7.holds Tryz.pinned (.plain (OpenSpec.ofChange resultsChecksSpec)) resultsChecksCard

/-- THE TIED CARD OF 'assizelaw12.ResultsRuling'. -/
def resultsRulingCard : Claim7 := { stood := { row := resultsRulingRow, standIns := [], harness := (true, "fe661a1bf89e2fa3a50c1063099b728efbbbdcc8e7dcdfaa81b77cad2e12eda1"), looks := false }, kinds := [], alts := [], laidByText := true, laidKinds := [.data, .data, .data], laidTests := true, laidLooks := .later }
def ResultsRulingCardSaid : Prop := Claim7.holds Tryz.pinned (.plain (OpenSpec.ofChange resultsRulingSpec)) resultsRulingCard

/-- THE TIED CARD OF 'assizelaw12.ResultsSheets'. -/
def resultsSheetsCard : Claim7 := { stood := { row := resultsSheetsRow, standIns := [], harness := (true, "fe661a1bf89e2fa3a50c1063099b728efbbbdcc8e7dcdfaa81b77cad2e12eda1"), looks := false }, kinds := [], alts := [], laidByText := true, laidKinds := [.data, .data, .data], laidTests := true, laidLooks := .later }
def ResultsSheetsCardSaid : Prop := Claim7.holds Tryz.pinned (.plain (OpenSpec.ofChange resultsSheetsSpec)) resultsSheetsCard

/-- THE TIED CARD OF 'assizelaw12.ResultsPartition'. -/
def resultsPartitionCard : Claim7 := { stood := { row := resultsPartitionRow, standIns := [], harness := (true, "fe661a1bf89e2fa3a50c1063099b728efbbbdcc8e7dcdfaa81b77cad2e12eda1"), looks := false }, kinds := [], alts := [], laidByText := true, laidKinds := [.data, .data, .data], laidTests := true, laidLooks := .later }
def ResultsPartitionCardSaid : Prop := Claim7.holds Tryz.pinned (.plain (OpenSpec.ofChange resultsPartitionSpec)) resultsPartitionCard

/-- THE SECOND FORM's CARD OF 'assizelaw12.ResultsOf'. -/
def resultsOfUptoCard : Claim7 := { stood := { row := resultsOfUptoRow, standIns := [], harness := (true, "fe661a1bf89e2fa3a50c1063099b728efbbbdcc8e7dcdfaa81b77cad2e12eda1"), looks := false }, kinds := [], alts := [], laidByText := true, laidKinds := [.data, .data, .data], laidTests := true, laidLooks := .later }
def ResultsOfUptoCardSaid : Prop := Claim7.holds Tryz.pinned (.plain (OpenSpec.upto resultsOfSpec)) resultsOfUptoCard

/-- THE SECOND FORM's CARD OF 'assizelaw12.ResultsChecks'. -/
def resultsChecksUptoCard : Claim7 := { stood := { row := resultsChecksUptoRow, standIns := [], harness := (true, "fe661a1bf89e2fa3a50c1063099b728efbbbdcc8e7dcdfaa81b77cad2e12eda1"), looks := false }, kinds := [], alts := [], laidByText := true, laidKinds := [.data, .data, .data], laidTests := true, laidLooks := .later }
def ResultsChecksUptoCardSaid : Prop := Claim7.holds Tryz.pinned (.plain (OpenSpec.upto resultsChecksSpec)) resultsChecksUptoCard

/-- THE SECOND FORM's CARD OF 'assizelaw12.ResultsRuling'. -/
def resultsRulingUptoCard : Claim7 := { stood := { row := resultsRulingUptoRow, standIns := [], harness := (true, "fe661a1bf89e2fa3a50c1063099b728efbbbdcc8e7dcdfaa81b77cad2e12eda1"), looks := false }, kinds := [], alts := [], laidByText := true, laidKinds := [.data, .data, .data], laidTests := true, laidLooks := .later }
def ResultsRulingUptoCardSaid : Prop := Claim7.holds Tryz.pinned (.plain (OpenSpec.upto resultsRulingSpec)) resultsRulingUptoCard

/-- THE SECOND FORM's CARD OF 'assizelaw12.ResultsSheets'. -/
def resultsSheetsUptoCard : Claim7 := { stood := { row := resultsSheetsUptoRow, standIns := [], harness := (true, "fe661a1bf89e2fa3a50c1063099b728efbbbdcc8e7dcdfaa81b77cad2e12eda1"), looks := false }, kinds := [], alts := [], laidByText := true, laidKinds := [.data, .data, .data], laidTests := true, laidLooks := .later }
def ResultsSheetsUptoCardSaid : Prop := Claim7.holds Tryz.pinned (.plain (OpenSpec.upto resultsSheetsSpec)) resultsSheetsUptoCard

/-- THE SECOND FORM's CARD OF 'assizelaw12.ResultsPartition'. -/
def resultsPartitionUptoCard : Claim7 := { stood := { row := resultsPartitionUptoRow, standIns := [], harness := (true, "fe661a1bf89e2fa3a50c1063099b728efbbbdcc8e7dcdfaa81b77cad2e12eda1"), looks := false }, kinds := [], alts := [], laidByText := true, laidKinds := [.data, .data, .data], laidTests := true, laidLooks := .later }
def ResultsPartitionUptoCardSaid : Prop := Claim7.holds Tryz.pinned (.plain (OpenSpec.upto resultsPartitionSpec)) resultsPartitionUptoCard
end Rows
end Go.Proofs.YtlnenhhbalpbpaaGreatDoor
