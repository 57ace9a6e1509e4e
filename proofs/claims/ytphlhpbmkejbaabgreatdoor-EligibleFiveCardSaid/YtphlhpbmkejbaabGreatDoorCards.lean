/-
  DERIVED. GIVEN WITH THE SEED: THE CARDS: each row of YtphlhpbmkejbaabGreatDoorRows.lean that lists a variable, with what it lists TIED to the program's text (the seventh form; the later family's looks); each row that meets fmt, with fmt's text TOLD by the authors' own Lean function (tested against real Go, not proved from fmt's source: count such statements apart). THE CARD IS WHAT COUNTS. Prove the row's statement (the work); the ties are given (YtphlhpbmkejbaabGreatDoorTie.lean); close each card by the builder's one call (the guide's Derived/Test/ToyasCard.lean, 'card_holds'). Laid BY PROGRAM, IN A SANDBOX (cutbox-door.mjs). By AI agents, Wed Nov 11 2026. No macro, syntax, notation, axiom, sorry.
-/
import Derived.Test.YtphlhpbmkejbaabGreatDoorRows
import GoSem.ClaimSeven
namespace Go.Proofs.YtphlhpbmkejbaabGreatDoor
namespace Rows

/-- THE TIED CARD OF 'assizelaw11.EligibleFive'. -/
def eligibleFiveCard : Claim7 := { stood := { row := eligibleFiveRow, standIns := [], harness := (true, "a4a5c4eed5a8e50f08704ee42b32acdffa9c13fac76c5ff88f817c7d133f6663"), looks := false }, kinds := [], alts := [], laidByText := true, laidKinds := [.data, .data, .data], laidTests := true, laidLooks := .later }
def EligibleFiveCardSaid : Prop := Claim7.holds Tryz.pinned (.plain (OpenSpec.ofChange eligibleFiveSpec)) eligibleFiveCard

/-- THE SECOND FORM's CARD OF 'assizelaw11.EligibleFive'. -/
def eligibleFiveUptoCard : Claim7 := { stood := { row := eligibleFiveUptoRow, standIns := [], harness := (true, "a4a5c4eed5a8e50f08704ee42b32acdffa9c13fac76c5ff88f817c7d133f6663"), looks := false }, kinds := [], alts := [], laidByText := true, laidKinds := [.data, .data, .data], laidTests := true, laidLooks := .later }
def EligibleFiveUptoCardSaid : Prop := Claim7.holds Tryz.pinned (.plain (OpenSpec.upto eligibleFiveSpec)) eligibleFiveUptoCard
end Rows
end Go.Proofs.YtphlhpbmkejbaabGreatDoor
