/-
  DERIVED. GIVEN WITH THE SEED: THE CARDS: each row of YtlnenhhbalpbpabGreatDoorRows.lean that lists a variable, with what it lists TIED to the program's text (the seventh form; the later family's looks); each row that meets fmt, with fmt's text TOLD by the authors' own Lean function (tested against real Go, not proved from fmt's source: count such statements apart). THE CARD IS WHAT COUNTS. Prove the row's statement (the work); the ties are given (YtlnenhhbalpbpabGreatDoorTie.lean); close each card by the builder's one call (the guide's Derived/Test/ToyasCard.lean, 'card_holds'). Laid BY PROGRAM, IN A SANDBOX (cutbox-door.mjs). By AI agents, Wed Nov 11 2026. No macro, syntax, notation, axiom, sorry.
-/
import Derived.Test.YtlnenhhbalpbpabGreatDoorRows
import GoSem.ClaimSeven
namespace Go.Proofs.YtlnenhhbalpbpabGreatDoor
namespace Rows

/-- THE TIED CARD OF 'assizelaw21.BracketFacts'. -/
def bracketFactsCard : Claim7 := { stood := { row := bracketFactsRow, standIns := [], harness := (true, "505d20e9146e7c864b58b7a49150c575a6132bad0042dd6ad30b50e39086ee66"), looks := false }, kinds := [], alts := [], laidByText := true, laidKinds := [.data, .data, .data], laidTests := true, laidLooks := .later }
def BracketFactsCardSaid : Prop := Claim7.holds Tryz.pinned (.plain (OpenSpec.ofChange bracketFactsSpec)) bracketFactsCard

/-- THE SECOND FORM's CARD OF 'assizelaw21.BracketFacts'. -/
def bracketFactsUptoCard : Claim7 := { stood := { row := bracketFactsUptoRow, standIns := [], harness := (true, "505d20e9146e7c864b58b7a49150c575a6132bad0042dd6ad30b50e39086ee66"), looks := false }, kinds := [], alts := [], laidByText := true, laidKinds := [.data, .data, .data], laidTests := true, laidLooks := .later }
def BracketFactsUptoCardSaid : Prop := Claim7.holds Tryz.pinned (.plain (OpenSpec.upto bracketFactsSpec)) bracketFactsUptoCard
end Rows
end Go.Proofs.YtlnenhhbalpbpabGreatDoor
