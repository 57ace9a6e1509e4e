/-
  DERIVED. GIVEN WITH THE SEED: THE CARDS: each row of YtgbamiehiokacaaGreatDoorRows.lean that lists a variable, with what it lists TIED to the program's text (the seventh form; the later family's looks); each row that meets fmt, with fmt's text TOLD by the authors' own Lean function (tested against real Go, not proved from fmt's source: count such statements apart). THE CARD IS WHAT COUNTS. Prove the row's statement (the work); the ties are given (YtgbamiehiokacaaGreatDoorTie.lean); close each card by the builder's one call (the guide's Derived/Test/ToyasCard.lean, 'card_holds'). Laid BY PROGRAM, IN A SANDBOX (cutbox-door.mjs). By AI agents, Wed Nov 11 2026. No macro, syntax, notation, axiom, sorry.
-/
import Derived.Test.YtgbamiehiokacaaGreatDoorRows
import GoSem.ClaimSeven
namespace Go.Proofs.YtgbamiehiokacaaGreatDoor
namespace Rows

/-- THE TIED CARD OF 'assizelaw10.RulingsVoidSpec'. -/
def rulingsVoidSpecCard : Claim7 := { stood := { row := rulingsVoidSpecRow, standIns := [], harness := (true, "9641b2fab96dd4ebd2b0ebb1f1568e0df593a45ab9775e7fac6456c03be8483f"), looks := false }, kinds := [], alts := [], laidByText := true, laidKinds := [.data, .data, .data], laidTests := true, laidLooks := .later }
def RulingsVoidSpecCardSaid : Prop := Claim7.holds Tryz.pinned (.plain (OpenSpec.ofChange rulingsVoidSpecSpec)) rulingsVoidSpecCard

/-- THE TIED CARD OF 'assizelaw10.RulingsSet'. -/
def rulingsSetCard : Claim7 := { stood := { row := rulingsSetRow, standIns := [], harness := (true, "9641b2fab96dd4ebd2b0ebb1f1568e0df593a45ab9775e7fac6456c03be8483f"), looks := false }, kinds := [], alts := [], laidByText := true, laidKinds := [.data, .data, .data], laidTests := true, laidLooks := .later }
def RulingsSetCardSaid : Prop := Claim7.holds Tryz.pinned (.plain (OpenSpec.ofChange rulingsSetSpec)) rulingsSetCard

/-- THE TIED CARD OF 'assizelaw10.RulingsAboutSpec'. -/
def rulingsAboutSpecCard : Claim7 := { stood := { row := rulingsAboutSpecRow, standIns := [], harness := (true, "9641b2fab96dd4ebd2b0ebb1f1568e0df593a45ab9775e7fac6456c03be8483f"), looks := false }, kinds := [], alts := [], laidByText := true, laidKinds := [.data, .data, .data], laidTests := true, laidLooks := .later }
def RulingsAboutSpecCardSaid : Prop := Claim7.holds Tryz.pinned (.plain (OpenSpec.ofChange rulingsAboutSpecSpec)) rulingsAboutSpecCard

/-- THE TIED CARD OF 'assizelaw10.RulingsPrevail'. -/
def rulingsPrevailCard : Claim7 := { stood := { row := rulingsPrevailRow, standIns := [], harness := (true, "9641b2fab96dd4ebd2b0ebb1f1568e0df593a45ab9775e7fac6456c03be8483f"), looks := false }, kinds := [], alts := [], laidByText := true, laidKinds := [.data, .data, .data], laidTests := true, laidLooks := .later }
def RulingsPrevailCardSaid : Prop := Claim7.holds Tryz.pinned (.plain (OpenSpec.ofChange rulingsPrevailSpec)) rulingsPrevailCard

/-- THE TIED CARD OF 'assizelaw11.EligibleRegisteredSpec'. -/
def eligibleRegisteredSpecCard : Claim7 := { stood := { row := eligibleRegisteredSpecRow, standIns := [], harness := (true, "9641b2fab96dd4ebd2b0ebb1f1568e0df593a45ab9775e7fac6456c03be8483f"), looks := false }, kinds := [], alts := [], laidByText := true, laidKinds := [.data, .data, .data], laidTests := true, laidLooks := .later }
def EligibleRegisteredSpecCardSaid : Prop := Claim7.holds Tryz.pinned (.plain (OpenSpec.ofChange eligibleRegisteredSpecSpec)) eligibleRegisteredSpecCard

/-- THE TIED CARD OF 'assizelaw11.EligibleSuspensionsSpec'. -/
def eligibleSuspensionsSpecCard : Claim7 := { stood := { row := eligibleSuspensionsSpecRow, standIns := [], harness := (true, "9641b2fab96dd4ebd2b0ebb1f1568e0df593a45ab9775e7fac6456c03be8483f"), looks := false }, kinds := [], alts := [], laidByText := true, laidKinds := [.data, .data, .data], laidTests := true, laidLooks := .later }
def EligibleSuspensionsSpecCardSaid : Prop := Claim7.holds Tryz.pinned (.plain (OpenSpec.ofChange eligibleSuspensionsSpecSpec)) eligibleSuspensionsSpecCard

/-- THE TIED CARD OF 'assizelaw11.EligibleOffendersSpec'. -/
def eligibleOffendersSpecCard : Claim7 := { stood := { row := eligibleOffendersSpecRow, standIns := [], harness := (true, "9641b2fab96dd4ebd2b0ebb1f1568e0df593a45ab9775e7fac6456c03be8483f"), looks := false }, kinds := [], alts := [], laidByText := true, laidKinds := [.data, .data, .data], laidTests := true, laidLooks := .later }
def EligibleOffendersSpecCardSaid : Prop := Claim7.holds Tryz.pinned (.plain (OpenSpec.ofChange eligibleOffendersSpecSpec)) eligibleOffendersSpecCard

/-- THE TIED CARD OF 'assizelaw11.EligibleOrder'. -/
def eligibleOrderCard : Claim7 := { stood := { row := eligibleOrderRow, standIns := [], harness := (true, "9641b2fab96dd4ebd2b0ebb1f1568e0df593a45ab9775e7fac6456c03be8483f"), looks := false }, kinds := [], alts := [], laidByText := true, laidKinds := [.data, .data, .data], laidTests := true, laidLooks := .later }
def EligibleOrderCardSaid : Prop := Claim7.holds Tryz.pinned (.plain (OpenSpec.ofChange eligibleOrderSpec)) eligibleOrderCard

/-- THE TIED CARD OF 'assizelaw11.EligibleMoves'. -/
def eligibleMovesCard : Claim7 := { stood := { row := eligibleMovesRow, standIns := [], harness := (true, "9641b2fab96dd4ebd2b0ebb1f1568e0df593a45ab9775e7fac6456c03be8483f"), looks := false }, kinds := [], alts := [], laidByText := true, laidKinds := [.data, .data, .data], laidTests := true, laidLooks := .later }
def EligibleMovesCardSaid : Prop := Claim7.holds Tryz.pinned (.plain (OpenSpec.ofChange eligibleMovesSpec)) eligibleMovesCard

/-- THE TIED CARD OF 'assizelaw11.EligibleReasons'. -/
def eligibleReasonsCard : Claim7 := { stood := { row := eligibleReasonsRow, standIns := [], harness := (true, "9641b2fab96dd4ebd2b0ebb1f1568e0df593a45ab9775e7fac6456c03be8483f"), looks := false }, kinds := [], alts := [], laidByText := true, laidKinds := [.data, .data, .data], laidTests := true, laidLooks := .later }
def EligibleReasonsCardSaid : Prop := Claim7.holds Tryz.pinned (.plain (OpenSpec.ofChange eligibleReasonsSpec)) eligibleReasonsCard

/-- THE TIED CARD OF 'assizelaw11.EligibleUnfit'. -/
def eligibleUnfitCard : Claim7 := { stood := { row := eligibleUnfitRow, standIns := [], harness := (true, "9641b2fab96dd4ebd2b0ebb1f1568e0df593a45ab9775e7fac6456c03be8483f"), looks := false }, kinds := [], alts := [], laidByText := true, laidKinds := [.data, .data, .data], laidTests := true, laidLooks := .later }
def EligibleUnfitCardSaid : Prop := Claim7.holds Tryz.pinned (.plain (OpenSpec.ofChange eligibleUnfitSpec)) eligibleUnfitCard

/-- THE TIED CARD OF 'assizelaw11.EligibleFive'. -/
def eligibleFiveCard : Claim7 := { stood := { row := eligibleFiveRow, standIns := [], harness := (true, "9641b2fab96dd4ebd2b0ebb1f1568e0df593a45ab9775e7fac6456c03be8483f"), looks := false }, kinds := [], alts := [], laidByText := true, laidKinds := [.data, .data, .data], laidTests := true, laidLooks := .later }
def EligibleFiveCardSaid : Prop := Claim7.holds Tryz.pinned (.plain (OpenSpec.ofChange eligibleFiveSpec)) eligibleFiveCard

/-- THE SECOND FORM's CARD OF 'assizelaw10.RulingsVoidSpec'. -/
def rulingsVoidSpecUptoCard : Claim7 := { stood := { row := rulingsVoidSpecUptoRow, standIns := [], harness := (true, "9641b2fab96dd4ebd2b0ebb1f1568e0df593a45ab9775e7fac6456c03be8483f"), looks := false }, kinds := [], alts := [], laidByText := true, laidKinds := [.data, .data, .data], laidTests := true, laidLooks := .later }
def RulingsVoidSpecUptoCardSaid : Prop := Claim7.holds Tryz.pinned (.plain (OpenSpec.upto rulingsVoidSpecSpec)) rulingsVoidSpecUptoCard

/-- THE SECOND FORM's CARD OF 'assizelaw10.RulingsSet'. -/
def rulingsSetUptoCard : Claim7 := { stood := { row := rulingsSetUptoRow, standIns := [], harness := (true, "9641b2fab96dd4ebd2b0ebb1f1568e0df593a45ab9775e7fac6456c03be8483f"), looks := false }, kinds := [], alts := [], laidByText := true, laidKinds := [.data, .data, .data], laidTests := true, laidLooks := .later }
def RulingsSetUptoCardSaid : Prop := Claim7.holds Tryz.pinned (.plain (OpenSpec.upto rulingsSetSpec)) rulingsSetUptoCard

/-- THE SECOND FORM's CARD OF 'assizelaw10.RulingsAboutSpec'. -/
def rulingsAboutSpecUptoCard : Claim7 := { stood := { row := rulingsAboutSpecUptoRow, standIns := [], harness := (true, "9641b2fab96dd4ebd2b0ebb1f1568e0df593a45ab9775e7fac6456c03be8483f"), looks := false }, kinds := [], alts := [], laidByText := true, laidKinds := [.data, .data, .data], laidTests := true, laidLooks := .later }
def RulingsAboutSpecUptoCardSaid : Prop := Claim7.holds Tryz.pinned (.plain (OpenSpec.upto rulingsAboutSpecSpec)) rulingsAboutSpecUptoCard

/-- THE SECOND FORM's CARD OF 'assizelaw10.RulingsPrevail'. -/
def rulingsPrevailUptoCard : Claim7 := { stood := { row := rulingsPrevailUptoRow, standIns := [], harness := (true, "9641b2fab96dd4ebd2b0ebb1f1568e0df593a45ab9775e7fac6456c03be8483f"), looks := false }, kinds := [], alts := [], laidByText := true, laidKinds := [.data, .data, .data], laidTests := true, laidLooks := .later }
def RulingsPrevailUptoCardSaid : Prop := Claim7.holds Tryz.pinned (.plain (OpenSpec.upto rulingsPrevailSpec)) rulingsPrevailUptoCard

/-- THE SECOND FORM's CARD OF 'assizelaw11.EligibleRegisteredSpec'. -/
def eligibleRegisteredSpecUptoCard : Claim7 := { stood := { row := eligibleRegisteredSpecUptoRow, standIns := [], harness := (true, "9641b2fab96dd4ebd2b0ebb1f1568e0df593a45ab9775e7fac6456c03be8483f"), looks := false }, kinds := [], alts := [], laidByText := true, laidKinds := [.data, .data, .data], laidTests := true, laidLooks := .later }
def EligibleRegisteredSpecUptoCardSaid : Prop := Claim7.holds Tryz.pinned (.plain (OpenSpec.upto eligibleRegisteredSpecSpec)) eligibleRegisteredSpecUptoCard

/-- THE SECOND FORM's CARD OF 'assizelaw11.EligibleSuspensionsSpec'. -/
def eligibleSuspensionsSpecUptoCard : Claim7 := { stood := { row := eligibleSuspensionsSpecUptoRow, standIns := [], harness := (true, "9641b2fab96dd4ebd2b0ebb1f1568e0df593a45ab9775e7fac6456c03be8483f"), looks := false }, kinds := [], alts := [], laidByText := true, laidKinds := [.data, .data, .data], laidTests := true, laidLooks := .later }
def EligibleSuspensionsSpecUptoCardSaid : Prop := Claim7.holds Tryz.pinned (.plain (OpenSpec.upto eligibleSuspensionsSpecSpec)) eligibleSuspensionsSpecUptoCard

/-- THE SECOND FORM's CARD OF 'assizelaw11.EligibleOffendersSpec'. -/
def eligibleOffendersSpecUptoCard : Claim7 := { stood := { row := eligibleOffendersSpecUptoRow, standIns := [], harness := (true, "9641b2fab96dd4ebd2b0ebb1f1568e0df593a45ab9775e7fac6456c03be8483f"), looks := false }, kinds := [], alts := [], laidByText := true, laidKinds := [.data, .data, .data], laidTests := true, laidLooks := .later }
def EligibleOffendersSpecUptoCardSaid : Prop := Claim7.holds Tryz.pinned (.plain (OpenSpec.upto eligibleOffendersSpecSpec)) eligibleOffendersSpecUptoCard

/-- THE SECOND FORM's CARD OF 'assizelaw11.EligibleOrder'. -/
def eligibleOrderUptoCard : Claim7 := { stood := { row := eligibleOrderUptoRow, standIns := [], harness := (true, "9641b2fab96dd4ebd2b0ebb1f1568e0df593a45ab9775e7fac6456c03be8483f"), looks := false }, kinds := [], alts := [], laidByText := true, laidKinds := [.data, .data, .data], laidTests := true, laidLooks := .later }
def EligibleOrderUptoCardSaid : Prop := Claim7.holds Tryz.pinned (.plain (OpenSpec.upto eligibleOrderSpec)) eligibleOrderUptoCard

/-- THE SECOND FORM's CARD OF 'assizelaw11.EligibleMoves'. -/
def eligibleMovesUptoCard : Claim7 := { stood := { row := eligibleMovesUptoRow, standIns := [], harness := (true, "9641b2fab96dd4ebd2b0ebb1f1568e0df593a45ab9775e7fac6456c03be8483f"), looks := false }, kinds := [], alts := [], laidByText := true, laidKinds := [.data, .data, .data], laidTests := true, laidLooks := .later }
def EligibleMovesUptoCardSaid : Prop := Claim7.holds Tryz.pinned (.plain (OpenSpec.upto eligibleMovesSpec)) eligibleMovesUptoCard

/-- THE SECOND FORM's CARD OF 'assizelaw11.EligibleReasons'. -/
def eligibleReasonsUptoCard : Claim7 := { stood := { row := eligibleReasonsUptoRow, standIns := [], harness := (true, "9641b2fab96dd4ebd2b0ebb1f1568e0df593a45ab9775e7fac6456c03be8483f"), looks := false }, kinds := [], alts := [], laidByText := true, laidKinds := [.data, .data, .data], laidTests := true, laidLooks := .later }
def EligibleReasonsUptoCardSaid : Prop := Claim7.holds Tryz.pinned (.plain (OpenSpec.upto eligibleReasonsSpec)) eligibleReasonsUptoCard

/-- THE SECOND FORM's CARD OF 'assizelaw11.EligibleUnfit'. -/
def eligibleUnfitUptoCard : Claim7 := { stood := { row := eligibleUnfitUptoRow, standIns := [], harness := (true, "9641b2fab96dd4ebd2b0ebb1f1568e0df593a45ab9775e7fac6456c03be8483f"), looks := false }, kinds := [], alts := [], laidByText := true, laidKinds := [.data, .data, .data], laidTests := true, laidLooks := .later }
def EligibleUnfitUptoCardSaid : Prop := Claim7.holds Tryz.pinned (.plain (OpenSpec.upto eligibleUnfitSpec)) eligibleUnfitUptoCard

/-- THE SECOND FORM's CARD OF 'assizelaw11.EligibleFive'. -/
def eligibleFiveUptoCard : Claim7 := { stood := { row := eligibleFiveUptoRow, standIns := [], harness := (true, "9641b2fab96dd4ebd2b0ebb1f1568e0df593a45ab9775e7fac6456c03be8483f"), looks := false }, kinds := [], alts := [], laidByText := true, laidKinds := [.data, .data, .data], laidTests := true, laidLooks := .later }
def EligibleFiveUptoCardSaid : Prop := Claim7.holds Tryz.pinned (.plain (OpenSpec.upto eligibleFiveSpec)) eligibleFiveUptoCard
end Rows
end Go.Proofs.YtgbamiehiokacaaGreatDoor
