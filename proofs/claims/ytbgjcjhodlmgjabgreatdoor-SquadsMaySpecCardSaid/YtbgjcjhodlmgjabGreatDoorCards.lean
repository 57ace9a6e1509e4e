/-
  DERIVED. GIVEN WITH THE SEED: THE CARDS: each row of YtbgjcjhodlmgjabGreatDoorRows.lean that lists a variable, with what it lists TIED to the program's text (the seventh form; the later family's looks); each row that meets fmt, with fmt's text TOLD by the authors' own Lean function (tested against real Go, not proved from fmt's source: count such statements apart). THE CARD IS WHAT COUNTS. Prove the row's statement (the work); the ties are given (YtbgjcjhodlmgjabGreatDoorTie.lean); close each card by the builder's one call (the guide's Derived/Test/ToyasCard.lean, 'card_holds'). Laid BY PROGRAM, IN A SANDBOX (cutbox-door.mjs). By AI agents, Wed Nov 11 2026. No macro, syntax, notation, axiom, sorry.
-/
import Derived.Test.YtbgjcjhodlmgjabGreatDoorRows
import GoSem.ClaimSeven
namespace Go.Proofs.YtbgjcjhodlmgjabGreatDoor
namespace Rows

/-- THE TIED CARD OF 'assizelaw37.SquadsMaySpec'. -/
def squadsMaySpecCard : Claim7 := { stood := { row := squadsMaySpecRow, standIns := [], harness := (true, "8b6cdaf3536027b65f981a136d575dba1ee93a94e9da5d9654f25fc1f14ca238"), looks := false }, kinds := [], alts := [], laidByText := true, laidKinds := [.data], laidTests := true, laidLooks := .later }
def SquadsMaySpecCardSaid : Prop := Claim7.holds Tryz.pinned (.plain (OpenSpec.ofChange squadsMaySpecSpec)) squadsMaySpecCard

/-- THE SECOND FORM's CARD OF 'assizelaw37.SquadsMaySpec'. -/
def squadsMaySpecUptoCard : Claim7 := { stood := { row := squadsMaySpecUptoRow, standIns := [], harness := (true, "8b6cdaf3536027b65f981a136d575dba1ee93a94e9da5d9654f25fc1f14ca238"), looks := false }, kinds := [], alts := [], laidByText := true, laidKinds := [.data], laidTests := true, laidLooks := .later }
def SquadsMaySpecUptoCardSaid : Prop := Claim7.holds Tryz.pinned (.plain (OpenSpec.upto squadsMaySpecSpec)) squadsMaySpecUptoCard
end Rows
end Go.Proofs.YtbgjcjhodlmgjabGreatDoor
