/-
  DERIVED. GIVEN WITH THE SEED: THE CARDS: each row of YtekcphgpmihmlabGreatDoorRows.lean that lists a variable, with what it lists TIED to the program's text (the seventh form; the later family's looks); each row that meets fmt, with fmt's text TOLD by the authors' own Lean function (tested against real Go, not proved from fmt's source: count such statements apart). THE CARD IS WHAT COUNTS. Prove the row's statement (the work); the ties are given (YtekcphgpmihmlabGreatDoorTie.lean); close each card by the builder's one call (the guide's Derived/Test/ToyasCard.lean, 'card_holds'). Laid BY PROGRAM, IN A SANDBOX (cutbox-door.mjs). By AI agents, Wed Nov 11 2026. No macro, syntax, notation, axiom, sorry.
-/
import Derived.Test.YtekcphgpmihmlabGreatDoorRows
import GoSem.ClaimSeven
namespace Go.Proofs.YtekcphgpmihmlabGreatDoor
namespace Rows

/-- THE TIED CARD OF 'assizelaw09.SheetsDisputes'. -/
def sheetsDisputesCard : Claim7 := { stood := { row := sheetsDisputesRow, standIns := [], harness := (true, "439b58272590d1d0c6cacaf7117d403f40cf4b3afffb7f8e38f7d8811951a6c9"), looks := false }, kinds := [], alts := [], laidByText := true, laidKinds := [.data, .data, .data], laidTests := true, laidLooks := .later }
def SheetsDisputesCardSaid : Prop := Claim7.holds Tryz.pinned (.plain (OpenSpec.ofChange sheetsDisputesSpec)) sheetsDisputesCard

/-- THE TIED CARD OF 'assizelaw36.RegistryEligible'. -/
def registryEligibleCard : Claim7 := { stood := { row := registryEligibleRow, standIns := [], harness := (true, "439b58272590d1d0c6cacaf7117d403f40cf4b3afffb7f8e38f7d8811951a6c9"), looks := false }, kinds := [], alts := [], laidByText := true, laidKinds := [.data, .data, .data], laidTests := true, laidLooks := .later }
def RegistryEligibleCardSaid : Prop := Claim7.holds Tryz.pinned (.plain (OpenSpec.ofChange registryEligibleSpec)) registryEligibleCard

/-- THE SECOND FORM's CARD OF 'assizelaw09.SheetsDisputes'. -/
def sheetsDisputesUptoCard : Claim7 := { stood := { row := sheetsDisputesUptoRow, standIns := [], harness := (true, "439b58272590d1d0c6cacaf7117d403f40cf4b3afffb7f8e38f7d8811951a6c9"), looks := false }, kinds := [], alts := [], laidByText := true, laidKinds := [.data, .data, .data], laidTests := true, laidLooks := .later }
def SheetsDisputesUptoCardSaid : Prop := Claim7.holds Tryz.pinned (.plain (OpenSpec.upto sheetsDisputesSpec)) sheetsDisputesUptoCard

/-- THE SECOND FORM's CARD OF 'assizelaw36.RegistryEligible'. -/
def registryEligibleUptoCard : Claim7 := { stood := { row := registryEligibleUptoRow, standIns := [], harness := (true, "439b58272590d1d0c6cacaf7117d403f40cf4b3afffb7f8e38f7d8811951a6c9"), looks := false }, kinds := [], alts := [], laidByText := true, laidKinds := [.data, .data, .data], laidTests := true, laidLooks := .later }
def RegistryEligibleUptoCardSaid : Prop := Claim7.holds Tryz.pinned (.plain (OpenSpec.upto registryEligibleSpec)) registryEligibleUptoCard
end Rows
end Go.Proofs.YtekcphgpmihmlabGreatDoor
