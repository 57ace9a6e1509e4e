/-
  DERIVED. GIVEN WITH THE SEED: THE CARDS: each row of YtcnddgmcfjaihaaGreatDoorRows.lean that lists a variable, with what it lists TIED to the program's text (the seventh form; the later family's looks); each row that meets fmt, with fmt's text TOLD by the authors' own Lean function (tested against real Go, not proved from fmt's source: count such statements apart). THE CARD IS WHAT COUNTS. Prove the row's statement (the work); the ties are given (YtcnddgmcfjaihaaGreatDoorTie.lean); close each card by the builder's one call (the guide's Derived/Test/ToyasCard.lean, 'card_holds'). Laid BY PROGRAM, IN A SANDBOX (cutbox-door.mjs). By AI agents, Wed Nov 11 2026. No macro, syntax, notation, axiom, sorry.
-/
import Derived.Test.YtcnddgmcfjaihaaGreatDoorRows
import GoSem.ClaimSeven
namespace Go.Proofs.YtcnddgmcfjaihaaGreatDoor
namespace Rows

/-- THE TIED CARD OF 'assizelaw10.RulingsVoidSpec'. -/
def rulingsVoidSpecCard : Claim7 := { stood := { row := rulingsVoidSpecRow, standIns := [], harness := (true, "d04cc9d93f95a8e2698f1537bb9a507d7540b7a4a0368186adcdc80a5d236a4b"), looks := false }, kinds := [], alts := [], laidByText := true, laidKinds := [.data, .data, .data], laidTests := true, laidLooks := .later }
def RulingsVoidSpecCardSaid : Prop := Claim7.holds Tryz.pinned (.plain (OpenSpec.ofChange rulingsVoidSpecSpec)) rulingsVoidSpecCard

/-- THE TIED CARD OF 'assizelaw10.RulingsSet'. -/
def rulingsSetCard : Claim7 := { stood := { row := rulingsSetRow, standIns := [], harness := (true, "d04cc9d93f95a8e2698f1537bb9a507d7540b7a4a0368186adcdc80a5d236a4b"), looks := false }, kinds := [], alts := [], laidByText := true, laidKinds := [.data, .data, .data], laidTests := true, laidLooks := .later }
def RulingsSetCardSaid : Prop := Claim7.holds Tryz.pinned (.plain (OpenSpec.ofChange rulingsSetSpec)) rulingsSetCard

/-- THE TIED CARD OF 'assizelaw10.RulingsForceSpec'. -/
def rulingsForceSpecCard : Claim7 := { stood := { row := rulingsForceSpecRow, standIns := [], harness := (true, "d04cc9d93f95a8e2698f1537bb9a507d7540b7a4a0368186adcdc80a5d236a4b"), looks := false }, kinds := [], alts := [], laidByText := true, laidKinds := [.data, .data, .data], laidTests := true, laidLooks := .later }
def RulingsForceSpecCardSaid : Prop := Claim7.holds Tryz.pinned (.plain (OpenSpec.ofChange rulingsForceSpecSpec)) rulingsForceSpecCard

/-- THE TIED CARD OF 'assizelaw10.RulingsAboutSpec'. -/
def rulingsAboutSpecCard : Claim7 := { stood := { row := rulingsAboutSpecRow, standIns := [], harness := (true, "d04cc9d93f95a8e2698f1537bb9a507d7540b7a4a0368186adcdc80a5d236a4b"), looks := false }, kinds := [], alts := [], laidByText := true, laidKinds := [.data, .data, .data], laidTests := true, laidLooks := .later }
def RulingsAboutSpecCardSaid : Prop := Claim7.holds Tryz.pinned (.plain (OpenSpec.ofChange rulingsAboutSpecSpec)) rulingsAboutSpecCard

/-- THE TIED CARD OF 'assizelaw10.RulingsPrevail'. -/
def rulingsPrevailCard : Claim7 := { stood := { row := rulingsPrevailRow, standIns := [], harness := (true, "d04cc9d93f95a8e2698f1537bb9a507d7540b7a4a0368186adcdc80a5d236a4b"), looks := false }, kinds := [], alts := [], laidByText := true, laidKinds := [.data, .data, .data], laidTests := true, laidLooks := .later }
def RulingsPrevailCardSaid : Prop := Claim7.holds Tryz.pinned (.plain (OpenSpec.ofChange rulingsPrevailSpec)) rulingsPrevailCard

/-- THE TIED CARD OF 'assizelaw10.RulingsApart'. -/
def rulingsApartCard : Claim7 := { stood := { row := rulingsApartRow, standIns := [], harness := (true, "d04cc9d93f95a8e2698f1537bb9a507d7540b7a4a0368186adcdc80a5d236a4b"), looks := false }, kinds := [], alts := [], laidByText := true, laidKinds := [.data, .data, .data], laidTests := true, laidLooks := .later }
def RulingsApartCardSaid : Prop := Claim7.holds Tryz.pinned (.plain (OpenSpec.ofChange rulingsApartSpec)) rulingsApartCard

/-- THE TIED CARD OF 'assizelaw10.RulingsAdd'. -/
def rulingsAddCard : Claim7 := { stood := { row := rulingsAddRow, standIns := [], harness := (true, "d04cc9d93f95a8e2698f1537bb9a507d7540b7a4a0368186adcdc80a5d236a4b"), looks := false }, kinds := [], alts := [], laidByText := true, laidKinds := [.data, .data, .data], laidTests := true, laidLooks := .later }
def RulingsAddCardSaid : Prop := Claim7.holds Tryz.pinned (.plain (OpenSpec.ofChange rulingsAddSpec)) rulingsAddCard

/-- THE SECOND FORM's CARD OF 'assizelaw10.RulingsVoidSpec'. -/
def rulingsVoidSpecUptoCard : Claim7 := { stood := { row := rulingsVoidSpecUptoRow, standIns := [], harness := (true, "d04cc9d93f95a8e2698f1537bb9a507d7540b7a4a0368186adcdc80a5d236a4b"), looks := false }, kinds := [], alts := [], laidByText := true, laidKinds := [.data, .data, .data], laidTests := true, laidLooks := .later }
def RulingsVoidSpecUptoCardSaid : Prop := Claim7.holds Tryz.pinned (.plain (OpenSpec.upto rulingsVoidSpecSpec)) rulingsVoidSpecUptoCard

/-- THE SECOND FORM's CARD OF 'assizelaw10.RulingsSet'. -/
def rulingsSetUptoCard : Claim7 := { stood := { row := rulingsSetUptoRow, standIns := [], harness := (true, "d04cc9d93f95a8e2698f1537bb9a507d7540b7a4a0368186adcdc80a5d236a4b"), looks := false }, kinds := [], alts := [], laidByText := true, laidKinds := [.data, .data, .data], laidTests := true, laidLooks := .later }
def RulingsSetUptoCardSaid : Prop := Claim7.holds Tryz.pinned (.plain (OpenSpec.upto rulingsSetSpec)) rulingsSetUptoCard

/-- THE SECOND FORM's CARD OF 'assizelaw10.RulingsForceSpec'. -/
def rulingsForceSpecUptoCard : Claim7 := { stood := { row := rulingsForceSpecUptoRow, standIns := [], harness := (true, "d04cc9d93f95a8e2698f1537bb9a507d7540b7a4a0368186adcdc80a5d236a4b"), looks := false }, kinds := [], alts := [], laidByText := true, laidKinds := [.data, .data, .data], laidTests := true, laidLooks := .later }
def RulingsForceSpecUptoCardSaid : Prop := Claim7.holds Tryz.pinned (.plain (OpenSpec.upto rulingsForceSpecSpec)) rulingsForceSpecUptoCard

/-- THE SECOND FORM's CARD OF 'assizelaw10.RulingsAboutSpec'. -/
def rulingsAboutSpecUptoCard : Claim7 := { stood := { row := rulingsAboutSpecUptoRow, standIns := [], harness := (true, "d04cc9d93f95a8e2698f1537bb9a507d7540b7a4a0368186adcdc80a5d236a4b"), looks := false }, kinds := [], alts := [], laidByText := true, laidKinds := [.data, .data, .data], laidTests := true, laidLooks := .later }
def RulingsAboutSpecUptoCardSaid : Prop := Claim7.holds Tryz.pinned (.plain (OpenSpec.upto rulingsAboutSpecSpec)) rulingsAboutSpecUptoCard

/-- THE SECOND FORM's CARD OF 'assizelaw10.RulingsPrevail'. -/
def rulingsPrevailUptoCard : Claim7 := { stood := { row := rulingsPrevailUptoRow, standIns := [], harness := (true, "d04cc9d93f95a8e2698f1537bb9a507d7540b7a4a0368186adcdc80a5d236a4b"), looks := false }, kinds := [], alts := [], laidByText := true, laidKinds := [.data, .data, .data], laidTests := true, laidLooks := .later }
def RulingsPrevailUptoCardSaid : Prop := Claim7.holds Tryz.pinned (.plain (OpenSpec.upto rulingsPrevailSpec)) rulingsPrevailUptoCard

/-- THE SECOND FORM's CARD OF 'assizelaw10.RulingsApart'. -/
def rulingsApartUptoCard : Claim7 := { stood := { row := rulingsApartUptoRow, standIns := [], harness := (true, "d04cc9d93f95a8e2698f1537bb9a507d7540b7a4a0368186adcdc80a5d236a4b"), looks := false }, kinds := [], alts := [], laidByText := true, laidKinds := [.data, .data, .data], laidTests := true, laidLooks := .later }
def RulingsApartUptoCardSaid : Prop := Claim7.holds Tryz.pinned (.plain (OpenSpec.upto rulingsApartSpec)) rulingsApartUptoCard

/-- THE SECOND FORM's CARD OF 'assizelaw10.RulingsAdd'. -/
def rulingsAddUptoCard : Claim7 := { stood := { row := rulingsAddUptoRow, standIns := [], harness := (true, "d04cc9d93f95a8e2698f1537bb9a507d7540b7a4a0368186adcdc80a5d236a4b"), looks := false }, kinds := [], alts := [], laidByText := true, laidKinds := [.data, .data, .data], laidTests := true, laidLooks := .later }
def RulingsAddUptoCardSaid : Prop := Claim7.holds Tryz.pinned (.plain (OpenSpec.upto rulingsAddSpec)) rulingsAddUptoCard
end Rows
end Go.Proofs.YtcnddgmcfjaihaaGreatDoor
