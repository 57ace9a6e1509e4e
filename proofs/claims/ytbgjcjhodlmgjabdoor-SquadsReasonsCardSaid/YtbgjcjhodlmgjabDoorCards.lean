/-
  DERIVED. GIVEN WITH THE SEED: THE CARDS: each row of YtbgjcjhodlmgjabDoorRows.lean that lists a variable, with what it lists TIED to the program's text (the seventh form; the later family's looks); each row that meets fmt, with fmt's text TOLD by the authors' own Lean function (tested against real Go, not proved from fmt's source: count such statements apart). THE CARD IS WHAT COUNTS. Prove the row's statement (the work); the ties are given (YtbgjcjhodlmgjabDoorTie.lean); close each card by the builder's one call (the guide's Derived/Test/ToyasCard.lean, 'card_holds'). Laid BY PROGRAM, IN A SANDBOX (cutbox-door.mjs). By AI agents, Wed Nov 11 2026. No macro, syntax, notation, axiom, sorry.
-/
import Derived.Test.YtbgjcjhodlmgjabDoorRows
import GoSem.ClaimSeven
namespace Go.Proofs.YtbgjcjhodlmgjabDoor
namespace Rows

/-- THE TIED CARD OF 'assizelaw37.SquadsCheckSpec'. -/
def squadsCheckSpecCard : Claim7 := { stood := { row := squadsCheckSpecRow, standIns := [], harness := (true, "848c50557c398b0c113d96a31c7ed0a560bf6d7fa251f2c7a36a78c6193411bb"), looks := false }, kinds := [], alts := [], laidByText := true, laidKinds := [.data], laidTests := true, laidLooks := .later }
def SquadsCheckSpecCardSaid : Prop := Claim7.holds Tryd.pinned (.plain (OpenSpec.ofChange squadsCheckSpecSpec)) squadsCheckSpecCard

/-- THE TIED CARD OF 'assizelaw37.SquadsSquadSpec'. -/
def squadsSquadSpecCard : Claim7 := { stood := { row := squadsSquadSpecRow, standIns := [], harness := (true, "848c50557c398b0c113d96a31c7ed0a560bf6d7fa251f2c7a36a78c6193411bb"), looks := false }, kinds := [], alts := [], laidByText := true, laidKinds := [.data], laidTests := true, laidLooks := .later }
def SquadsSquadSpecCardSaid : Prop := Claim7.holds Tryd.pinned (.plain (OpenSpec.ofChange squadsSquadSpecSpec)) squadsSquadSpecCard

/-- THE TIED CARD OF 'assizelaw37.SquadsBirthdays'. -/
def squadsBirthdaysCard : Claim7 := { stood := { row := squadsBirthdaysRow, standIns := [], harness := (true, "848c50557c398b0c113d96a31c7ed0a560bf6d7fa251f2c7a36a78c6193411bb"), looks := false }, kinds := [], alts := [], laidByText := true, laidKinds := [.data], laidTests := true, laidLooks := .later }
def SquadsBirthdaysCardSaid : Prop := Claim7.holds Tryd.pinned (.plain (OpenSpec.ofChange squadsBirthdaysSpec)) squadsBirthdaysCard

/-- THE TIED CARD OF 'assizelaw37.SquadsLarger'. -/
def squadsLargerCard : Claim7 := { stood := { row := squadsLargerRow, standIns := [], harness := (true, "848c50557c398b0c113d96a31c7ed0a560bf6d7fa251f2c7a36a78c6193411bb"), looks := false }, kinds := [], alts := [], laidByText := true, laidKinds := [.data], laidTests := true, laidLooks := .later }
def SquadsLargerCardSaid : Prop := Claim7.holds Tryd.pinned (.plain (OpenSpec.ofChange squadsLargerSpec)) squadsLargerCard

/-- THE TIED CARD OF 'assizelaw37.SquadsReasons'. -/
def squadsReasonsCard : Claim7 := { stood := { row := squadsReasonsRow, standIns := [], harness := (true, "848c50557c398b0c113d96a31c7ed0a560bf6d7fa251f2c7a36a78c6193411bb"), looks := false }, kinds := [], alts := [], laidByText := true, laidKinds := [.data], laidTests := true, laidLooks := .later }
def SquadsReasonsCardSaid : Prop := Claim7.holds Tryd.pinned (.plain (OpenSpec.ofChange squadsReasonsSpec)) squadsReasonsCard

/-- THE SECOND FORM's CARD OF 'assizelaw37.SquadsCheckSpec'. -/
def squadsCheckSpecUptoCard : Claim7 := { stood := { row := squadsCheckSpecUptoRow, standIns := [], harness := (true, "848c50557c398b0c113d96a31c7ed0a560bf6d7fa251f2c7a36a78c6193411bb"), looks := false }, kinds := [], alts := [], laidByText := true, laidKinds := [.data], laidTests := true, laidLooks := .later }
def SquadsCheckSpecUptoCardSaid : Prop := Claim7.holds Tryd.pinned (.plain (OpenSpec.upto squadsCheckSpecSpec)) squadsCheckSpecUptoCard

/-- THE SECOND FORM's CARD OF 'assizelaw37.SquadsSquadSpec'. -/
def squadsSquadSpecUptoCard : Claim7 := { stood := { row := squadsSquadSpecUptoRow, standIns := [], harness := (true, "848c50557c398b0c113d96a31c7ed0a560bf6d7fa251f2c7a36a78c6193411bb"), looks := false }, kinds := [], alts := [], laidByText := true, laidKinds := [.data], laidTests := true, laidLooks := .later }
def SquadsSquadSpecUptoCardSaid : Prop := Claim7.holds Tryd.pinned (.plain (OpenSpec.upto squadsSquadSpecSpec)) squadsSquadSpecUptoCard

/-- THE SECOND FORM's CARD OF 'assizelaw37.SquadsBirthdays'. -/
def squadsBirthdaysUptoCard : Claim7 := { stood := { row := squadsBirthdaysUptoRow, standIns := [], harness := (true, "848c50557c398b0c113d96a31c7ed0a560bf6d7fa251f2c7a36a78c6193411bb"), looks := false }, kinds := [], alts := [], laidByText := true, laidKinds := [.data], laidTests := true, laidLooks := .later }
def SquadsBirthdaysUptoCardSaid : Prop := Claim7.holds Tryd.pinned (.plain (OpenSpec.upto squadsBirthdaysSpec)) squadsBirthdaysUptoCard

/-- THE SECOND FORM's CARD OF 'assizelaw37.SquadsLarger'. -/
def squadsLargerUptoCard : Claim7 := { stood := { row := squadsLargerUptoRow, standIns := [], harness := (true, "848c50557c398b0c113d96a31c7ed0a560bf6d7fa251f2c7a36a78c6193411bb"), looks := false }, kinds := [], alts := [], laidByText := true, laidKinds := [.data], laidTests := true, laidLooks := .later }
def SquadsLargerUptoCardSaid : Prop := Claim7.holds Tryd.pinned (.plain (OpenSpec.upto squadsLargerSpec)) squadsLargerUptoCard

/-- THE SECOND FORM's CARD OF 'assizelaw37.SquadsReasons'. -/
def squadsReasonsUptoCard : Claim7 := { stood := { row := squadsReasonsUptoRow, standIns := [], harness := (true, "848c50557c398b0c113d96a31c7ed0a560bf6d7fa251f2c7a36a78c6193411bb"), looks := false }, kinds := [], alts := [], laidByText := true, laidKinds := [.data], laidTests := true, laidLooks := .later }
def SquadsReasonsUptoCardSaid : Prop := Claim7.holds Tryd.pinned (.plain (OpenSpec.upto squadsReasonsSpec)) squadsReasonsUptoCard
end Rows
end Go.Proofs.YtbgjcjhodlmgjabDoor
