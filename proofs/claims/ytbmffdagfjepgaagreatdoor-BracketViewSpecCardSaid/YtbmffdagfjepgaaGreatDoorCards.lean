/-
  DERIVED. GIVEN WITH THE SEED: THE CARDS: each row of YtbmffdagfjepgaaGreatDoorRows.lean that lists a variable, with what it lists TIED to the program's text (the seventh form; the later family's looks); each row that meets fmt, with fmt's text TOLD by the authors' own Lean function (tested against real Go, not proved from fmt's source: count such statements apart). THE CARD IS WHAT COUNTS. Prove the row's statement (the work); the ties are given (YtbmffdagfjepgaaGreatDoorTie.lean); close each card by the builder's one call (the guide's Derived/Test/ToyasCard.lean, 'card_holds'). Laid BY PROGRAM, IN A SANDBOX (cutbox-door.mjs). By AI agents, Wed Nov 11 2026. No macro, syntax, notation, axiom, sorry.
-/
import Derived.Test.YtbmffdagfjepgaaGreatDoorRows
import GoSem.ClaimSeven
namespace Go.Proofs.YtbmffdagfjepgaaGreatDoor
namespace Rows

/-- THE TIED CARD OF 'assizelaw21.BracketViewSpec'. -/
def bracketViewSpecCard : Claim7 := { stood := { row := bracketViewSpecRow, standIns := [], harness := (true, "6dedfd9f306ec40ba1fbc94851f439b3a188ef4434218aa0f8dd5cef7f363479"), looks := false }, kinds := [], alts := [], laidByText := true, laidKinds := [.data, .data, .data], laidTests := true, laidLooks := .later }
def BracketViewSpecCardSaid : Prop := Claim7.holds Tryz.pinned (.plain (OpenSpec.ofChange bracketViewSpecSpec)) bracketViewSpecCard

/-- THE SECOND FORM's CARD OF 'assizelaw21.BracketViewSpec'. -/
def bracketViewSpecUptoCard : Claim7 := { stood := { row := bracketViewSpecUptoRow, standIns := [], harness := (true, "6dedfd9f306ec40ba1fbc94851f439b3a188ef4434218aa0f8dd5cef7f363479"), looks := false }, kinds := [], alts := [], laidByText := true, laidKinds := [.data, .data, .data], laidTests := true, laidLooks := .later }
def BracketViewSpecUptoCardSaid : Prop := Claim7.holds Tryz.pinned (.plain (OpenSpec.upto bracketViewSpecSpec)) bracketViewSpecUptoCard
end Rows
end Go.Proofs.YtbmffdagfjepgaaGreatDoor
