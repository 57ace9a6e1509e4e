/-
  DERIVED. GIVEN WITH THE SEED: THE CARDS: each row of YtphlhpbmkejbaaaGreatDoorRows.lean that lists a variable, with what it lists TIED to the program's text (the seventh form; the later family's looks); each row that meets fmt, with fmt's text TOLD by the authors' own Lean function (tested against real Go, not proved from fmt's source: count such statements apart). THE CARD IS WHAT COUNTS. Prove the row's statement (the work); the ties are given (YtphlhpbmkejbaaaGreatDoorTie.lean); close each card by the builder's one call (the guide's Derived/Test/ToyasCard.lean, 'card_holds'). Laid BY PROGRAM, IN A SANDBOX (cutbox-door.mjs). By AI agents, Wed Nov 11 2026. No macro, syntax, notation, axiom, sorry.
-/
import Derived.Test.YtphlhpbmkejbaaaGreatDoorRows
import GoSem.ClaimSeven
namespace Go.Proofs.YtphlhpbmkejbaaaGreatDoor
namespace Rows

/-- THE TIED CARD OF 'assizelaw21.BracketDuelSpec'. -/
def bracketDuelSpecCard : Claim7 := { stood := { row := bracketDuelSpecRow, standIns := [], harness := (true, "b290ed0c9584ab26545b6850a61cbed3b27993745f52d1c249a96dcd4d5912b8"), looks := false }, kinds := [], alts := [], laidByText := true, laidKinds := [.data, .data, .data], laidTests := true, laidLooks := .later }
def BracketDuelSpecCardSaid : Prop := Claim7.holds Tryz.pinned (.plain (OpenSpec.ofChange bracketDuelSpecSpec)) bracketDuelSpecCard

/-- THE TIED CARD OF 'assizelaw21.BracketEnterSpec'. -/
def bracketEnterSpecCard : Claim7 := { stood := { row := bracketEnterSpecRow, standIns := [], harness := (true, "b290ed0c9584ab26545b6850a61cbed3b27993745f52d1c249a96dcd4d5912b8"), looks := false }, kinds := [], alts := [], laidByText := true, laidKinds := [.data, .data, .data], laidTests := true, laidLooks := .later }
def BracketEnterSpecCardSaid : Prop := Claim7.holds Tryz.pinned (.plain (OpenSpec.ofChange bracketEnterSpecSpec)) bracketEnterSpecCard

/-- THE TIED CARD OF 'assizelaw21.BracketPlays'. -/
def bracketPlaysCard : Claim7 := { stood := { row := bracketPlaysRow, standIns := [], harness := (true, "b290ed0c9584ab26545b6850a61cbed3b27993745f52d1c249a96dcd4d5912b8"), looks := false }, kinds := [], alts := [], laidByText := true, laidKinds := [.data, .data, .data], laidTests := true, laidLooks := .later }
def BracketPlaysCardSaid : Prop := Claim7.holds Tryz.pinned (.plain (OpenSpec.ofChange bracketPlaysSpec)) bracketPlaysCard

/-- THE TIED CARD OF 'assizelaw21.BracketEnters'. -/
def bracketEntersCard : Claim7 := { stood := { row := bracketEntersRow, standIns := [], harness := (true, "b290ed0c9584ab26545b6850a61cbed3b27993745f52d1c249a96dcd4d5912b8"), looks := false }, kinds := [], alts := [], laidByText := true, laidKinds := [.data, .data, .data], laidTests := true, laidLooks := .later }
def BracketEntersCardSaid : Prop := Claim7.holds Tryz.pinned (.plain (OpenSpec.ofChange bracketEntersSpec)) bracketEntersCard

/-- THE TIED CARD OF 'assizelaw21.BracketWinner'. -/
def bracketWinnerCard : Claim7 := { stood := { row := bracketWinnerRow, standIns := [], harness := (true, "b290ed0c9584ab26545b6850a61cbed3b27993745f52d1c249a96dcd4d5912b8"), looks := false }, kinds := [], alts := [], laidByText := true, laidKinds := [.data, .data, .data], laidTests := true, laidLooks := .later }
def BracketWinnerCardSaid : Prop := Claim7.holds Tryz.pinned (.plain (OpenSpec.ofChange bracketWinnerSpec)) bracketWinnerCard

/-- THE SECOND FORM's CARD OF 'assizelaw21.BracketDuelSpec'. -/
def bracketDuelSpecUptoCard : Claim7 := { stood := { row := bracketDuelSpecUptoRow, standIns := [], harness := (true, "b290ed0c9584ab26545b6850a61cbed3b27993745f52d1c249a96dcd4d5912b8"), looks := false }, kinds := [], alts := [], laidByText := true, laidKinds := [.data, .data, .data], laidTests := true, laidLooks := .later }
def BracketDuelSpecUptoCardSaid : Prop := Claim7.holds Tryz.pinned (.plain (OpenSpec.upto bracketDuelSpecSpec)) bracketDuelSpecUptoCard

/-- THE SECOND FORM's CARD OF 'assizelaw21.BracketEnterSpec'. -/
def bracketEnterSpecUptoCard : Claim7 := { stood := { row := bracketEnterSpecUptoRow, standIns := [], harness := (true, "b290ed0c9584ab26545b6850a61cbed3b27993745f52d1c249a96dcd4d5912b8"), looks := false }, kinds := [], alts := [], laidByText := true, laidKinds := [.data, .data, .data], laidTests := true, laidLooks := .later }
def BracketEnterSpecUptoCardSaid : Prop := Claim7.holds Tryz.pinned (.plain (OpenSpec.upto bracketEnterSpecSpec)) bracketEnterSpecUptoCard

/-- THE SECOND FORM's CARD OF 'assizelaw21.BracketPlays'. -/
def bracketPlaysUptoCard : Claim7 := { stood := { row := bracketPlaysUptoRow, standIns := [], harness := (true, "b290ed0c9584ab26545b6850a61cbed3b27993745f52d1c249a96dcd4d5912b8"), looks := false }, kinds := [], alts := [], laidByText := true, laidKinds := [.data, .data, .data], laidTests := true, laidLooks := .later }
def BracketPlaysUptoCardSaid : Prop := Claim7.holds Tryz.pinned (.plain (OpenSpec.upto bracketPlaysSpec)) bracketPlaysUptoCard

/-- THE SECOND FORM's CARD OF 'assizelaw21.BracketEnters'. -/
def bracketEntersUptoCard : Claim7 := { stood := { row := bracketEntersUptoRow, standIns := [], harness := (true, "b290ed0c9584ab26545b6850a61cbed3b27993745f52d1c249a96dcd4d5912b8"), looks := false }, kinds := [], alts := [], laidByText := true, laidKinds := [.data, .data, .data], laidTests := true, laidLooks := .later }
def BracketEntersUptoCardSaid : Prop := Claim7.holds Tryz.pinned (.plain (OpenSpec.upto bracketEntersSpec)) bracketEntersUptoCard

/-- THE SECOND FORM's CARD OF 'assizelaw21.BracketWinner'. -/
def bracketWinnerUptoCard : Claim7 := { stood := { row := bracketWinnerUptoRow, standIns := [], harness := (true, "b290ed0c9584ab26545b6850a61cbed3b27993745f52d1c249a96dcd4d5912b8"), looks := false }, kinds := [], alts := [], laidByText := true, laidKinds := [.data, .data, .data], laidTests := true, laidLooks := .later }
def BracketWinnerUptoCardSaid : Prop := Claim7.holds Tryz.pinned (.plain (OpenSpec.upto bracketWinnerSpec)) bracketWinnerUptoCard
end Rows
end Go.Proofs.YtphlhpbmkejbaaaGreatDoor
