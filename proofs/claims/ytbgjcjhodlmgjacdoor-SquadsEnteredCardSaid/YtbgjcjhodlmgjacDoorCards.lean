/-
  DERIVED. GIVEN WITH THE SEED: THE CARDS: each row of YtbgjcjhodlmgjacDoorRows.lean that lists a variable, with what it lists TIED to the program's text (the seventh form; the later family's looks); each row that meets fmt, with fmt's text TOLD by the authors' own Lean function (tested against real Go, not proved from fmt's source: count such statements apart). THE CARD IS WHAT COUNTS. Prove the row's statement (the work); the ties are given (YtbgjcjhodlmgjacDoorTie.lean); close each card by the builder's one call (the guide's Derived/Test/ToyasCard.lean, 'card_holds'). Laid BY PROGRAM, IN A SANDBOX (cutbox-door.mjs). By AI agents, Wed Nov 11 2026. No macro, syntax, notation, axiom, sorry.
-/
import Derived.Test.YtbgjcjhodlmgjacDoorRows
import GoSem.ClaimSeven
namespace Go.Proofs.YtbgjcjhodlmgjacDoor
namespace Rows

/-- THE TIED CARD OF 'assizelaw37.SquadsEntered'. -/
def squadsEnteredCard : Claim7 := { stood := { row := squadsEnteredRow, standIns := [], harness := (true, "120b1e7062915a0a6bf56e1da2accafe83bfdd86693851fc694c1247811a6b1d"), looks := false }, kinds := [], alts := [], laidByText := true, laidKinds := [.data], laidTests := true, laidLooks := .later }
def SquadsEnteredCardSaid : Prop := Claim7.holds Tryd.pinned (.plain (OpenSpec.ofChange squadsEnteredSpec)) squadsEnteredCard

/-- THE SECOND FORM's CARD OF 'assizelaw37.SquadsEntered'. -/
def squadsEnteredUptoCard : Claim7 := { stood := { row := squadsEnteredUptoRow, standIns := [], harness := (true, "120b1e7062915a0a6bf56e1da2accafe83bfdd86693851fc694c1247811a6b1d"), looks := false }, kinds := [], alts := [], laidByText := true, laidKinds := [.data], laidTests := true, laidLooks := .later }
def SquadsEnteredUptoCardSaid : Prop := Claim7.holds Tryd.pinned (.plain (OpenSpec.upto squadsEnteredSpec)) squadsEnteredUptoCard
end Rows
end Go.Proofs.YtbgjcjhodlmgjacDoor
