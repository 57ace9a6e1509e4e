/-
  NARROWER THAN 'FOR EVERY INPUT', by the rows' own cells (each row's printed sentence says how): SheetsLatestSpec: laid · SheetsScoreSpec: laid · SheetsGamesSpec: laid · LedgerNewSpec: laid · LedgerForce: laid · LedgerArrival: laid · LedgerViewSpec: laid · LedgerLater: laid · LedgerDays: laid · LedgerAddSpec: laid · LedgerLacks: laid.
  DERIVED. THE GIVEN ROWS OF THIS SEAT. 11 by the template 'for every input the law returns true; each argument reads behind the call as it read before'; 0 by the template 'total and deterministic' (their statements: YtajmniiiahhfaaaGreatDoorTotals.lean).
  GIVEN WITH THE SEED: the statements are not yours to turn. If you find one false, say at which input.
  Laid BY PROGRAM, IN A SANDBOX (cutbox-rows.mjs): the forced cells as the released guide's own fill.sh prints them over the translation b6de9162f9e08b73… (all of the seat's roots in one cut). By AI agents, Wed Nov 11 2026. No macro, syntax, notation, axiom, sorry.
-/
import Derived.Test.YtajmniiiahhfaaaGreatDoorChecked
import GoSem.Claim
import GoSem.ClaimJoined
import GoSem.ClaimMapViews
import Derived.JoinedTies
import Derived.KernelRfl
namespace Go.Proofs.YtajmniiiahhfaaaGreatDoor
/- THE CELL 'sum', in the pinned program and in every row, IS THE sha256 OF THE DUMP (.gsa) THAT YtajmniiiahhfaaaGreatDoorProg.lean LOADS. Nothing in Lean hashes anything: it is a label: what it is worth is what the hold of that sum in a sandbox is worth. -/
noncomputable def Tryz.pinned : Pinned := { name := "ytajmniiiahhfaaagreatdoor", sum := "b6de9162f9e08b73dd379d89a11e4b518c01ca580ea693f9f6f1066b547abc27", checked := Tryz.checked }
namespace Rows
def none {H : Type} : Left H := { results := [], args := [] }

/- WHAT THE LISTED PACKAGE-LEVEL VARIABLES READ AS WHEN THE CALL BEGINS. Each datum BY PROGRAM (the guide's laid-datum.mjs) off the statement by which the dump's own 'gosem.cut.vars' lays the variable. In a bare row this is a premise. The card (YtajmniiiahhfaaaGreatDoorCards.lean) ties it to the program's text. -/
def laid_math_bits_deBruijn32tab {H : Type} : DataW H := .agg [.lit (.int .u8 0), .lit (.int .u8 1), .lit (.int .u8 28), .lit (.int .u8 2), .lit (.int .u8 29), .lit (.int .u8 14), .lit (.int .u8 24), .lit (.int .u8 3), .lit (.int .u8 30), .lit (.int .u8 22), .lit (.int .u8 20), .lit (.int .u8 15), .lit (.int .u8 25), .lit (.int .u8 17), .lit (.int .u8 4), .lit (.int .u8 8), .lit (.int .u8 31), .lit (.int .u8 27), .lit (.int .u8 13), .lit (.int .u8 23), .lit (.int .u8 21), .lit (.int .u8 19), .lit (.int .u8 16), .lit (.int .u8 7), .lit (.int .u8 26), .lit (.int .u8 12), .lit (.int .u8 18), .lit (.int .u8 6), .lit (.int .u8 11), .lit (.int .u8 5), .lit (.int .u8 10), .lit (.int .u8 9)]
def laid_math_bits_deBruijn64tab {H : Type} : DataW H := .agg [.lit (.int .u8 0), .lit (.int .u8 1), .lit (.int .u8 56), .lit (.int .u8 2), .lit (.int .u8 57), .lit (.int .u8 49), .lit (.int .u8 28), .lit (.int .u8 3), .lit (.int .u8 61), .lit (.int .u8 58), .lit (.int .u8 42), .lit (.int .u8 50), .lit (.int .u8 38), .lit (.int .u8 29), .lit (.int .u8 17), .lit (.int .u8 4), .lit (.int .u8 62), .lit (.int .u8 47), .lit (.int .u8 59), .lit (.int .u8 36), .lit (.int .u8 45), .lit (.int .u8 43), .lit (.int .u8 51), .lit (.int .u8 22), .lit (.int .u8 53), .lit (.int .u8 39), .lit (.int .u8 33), .lit (.int .u8 30), .lit (.int .u8 24), .lit (.int .u8 18), .lit (.int .u8 12), .lit (.int .u8 5), .lit (.int .u8 63), .lit (.int .u8 55), .lit (.int .u8 48), .lit (.int .u8 27), .lit (.int .u8 60), .lit (.int .u8 41), .lit (.int .u8 37), .lit (.int .u8 16), .lit (.int .u8 46), .lit (.int .u8 35), .lit (.int .u8 44), .lit (.int .u8 21), .lit (.int .u8 52), .lit (.int .u8 32), .lit (.int .u8 23), .lit (.int .u8 11), .lit (.int .u8 54), .lit (.int .u8 26), .lit (.int .u8 40), .lit (.int .u8 15), .lit (.int .u8 34), .lit (.int .u8 20), .lit (.int .u8 31), .lit (.int .u8 10), .lit (.int .u8 25), .lit (.int .u8 14), .lit (.int .u8 19), .lit (.int .u8 9), .lit (.int .u8 13), .lit (.int .u8 8), .lit (.int .u8 7), .lit (.int .u8 6)]
def laid_internal_strconv_uint64pow10 {H : Type} : DataW H := .agg [.lit (.int .u64 1), .lit (.int .u64 10), .lit (.int .u64 100), .lit (.int .u64 1000), .lit (.int .u64 10000), .lit (.int .u64 100000), .lit (.int .u64 1000000), .lit (.int .u64 10000000), .lit (.int .u64 100000000), .lit (.int .u64 1000000000), .lit (.int .u64 10000000000), .lit (.int .u64 100000000000), .lit (.int .u64 1000000000000), .lit (.int .u64 10000000000000), .lit (.int .u64 100000000000000), .lit (.int .u64 1000000000000000), .lit (.int .u64 10000000000000000), .lit (.int .u64 100000000000000000), .lit (.int .u64 1000000000000000000), .lit (.int .u64 10000000000000000000)]

/-- 'assizelaw09.SheetsLatestSpec': WHATEVER THE INPUT: true; the input reads as it did. -/
def sheetsLatestSpecSpec : ChangeSpec := { name := "sheetsLatestSpec", fn := fun _ => fun
  | [d1, d2, d3, d4, d5] => { results := [.lit (.bool true)], args := [d1, d2, d3, d4, d5] }
  | _ => none }
def sheetsLatestSpecRow : OpenClaim := { program := "ytajmniiiahhfaaagreatdoor", sum := "b6de9162f9e08b73dd379d89a11e4b518c01ca580ea693f9f6f1066b547abc27", func := "assize/assizelaw09.SheetsLatestSpec", spec := "sheetsLatestSpec", inPlace := ["internal/bytealg.Compare"], unfollowed := true, recurses := true, named := ["internal/strconv.uint64pow10", "math/bits.deBruijn32tab", "math/bits.deBruijn64tab"], plainKeys := false, apart := false, laid := [("math/bits.deBruijn32tab", laid_math_bits_deBruijn32tab), ("math/bits.deBruijn64tab", laid_math_bits_deBruijn64tab), ("internal/strconv.uint64pow10", laid_internal_strconv_uint64pow10)] }
def SheetsLatestSpecSaid : Prop := sheetsLatestSpecRow.holds Tryz.pinned (OpenSpec.ofChange sheetsLatestSpecSpec)

/-- ITS FALSE NEIGHBOUR: 'it returns false'. Refute it at one input. -/
def sheetsLatestSpecWrong : ChangeSpec := { name := "sheetsLatestSpec", fn := fun _ => fun
  | [d1, d2, d3, d4, d5] => { results := [.lit (.bool false)], args := [d1, d2, d3, d4, d5] }
  | _ => none }
def SheetsLatestSpecWrongFalsely : Prop := sheetsLatestSpecRow.holds Tryz.pinned (OpenSpec.ofChange sheetsLatestSpecWrong)

/-- 'assizelaw09.SheetsScoreSpec': WHATEVER THE INPUT: true; the input reads as it did. -/
def sheetsScoreSpecSpec : ChangeSpec := { name := "sheetsScoreSpec", fn := fun _ => fun
  | [d1, d2] => { results := [.lit (.bool true)], args := [d1, d2] }
  | _ => none }
def sheetsScoreSpecRow : OpenClaim := { program := "ytajmniiiahhfaaagreatdoor", sum := "b6de9162f9e08b73dd379d89a11e4b518c01ca580ea693f9f6f1066b547abc27", func := "assize/assizelaw09.SheetsScoreSpec", spec := "sheetsScoreSpec", inPlace := ["internal/bytealg.Compare"], unfollowed := true, recurses := true, named := ["internal/strconv.uint64pow10", "math/bits.deBruijn32tab", "math/bits.deBruijn64tab"], plainKeys := false, apart := false, laid := [("math/bits.deBruijn32tab", laid_math_bits_deBruijn32tab), ("math/bits.deBruijn64tab", laid_math_bits_deBruijn64tab), ("internal/strconv.uint64pow10", laid_internal_strconv_uint64pow10)] }
def SheetsScoreSpecSaid : Prop := sheetsScoreSpecRow.holds Tryz.pinned (OpenSpec.ofChange sheetsScoreSpecSpec)

/-- ITS FALSE NEIGHBOUR: 'it returns false'. Refute it at one input. -/
def sheetsScoreSpecWrong : ChangeSpec := { name := "sheetsScoreSpec", fn := fun _ => fun
  | [d1, d2] => { results := [.lit (.bool false)], args := [d1, d2] }
  | _ => none }
def SheetsScoreSpecWrongFalsely : Prop := sheetsScoreSpecRow.holds Tryz.pinned (OpenSpec.ofChange sheetsScoreSpecWrong)

/-- 'assizelaw09.SheetsGamesSpec': WHATEVER THE INPUT: true; the input reads as it did. -/
def sheetsGamesSpecSpec : ChangeSpec := { name := "sheetsGamesSpec", fn := fun _ => fun
  | [d1, d2, d3] => { results := [.lit (.bool true)], args := [d1, d2, d3] }
  | _ => none }
def sheetsGamesSpecRow : OpenClaim := { program := "ytajmniiiahhfaaagreatdoor", sum := "b6de9162f9e08b73dd379d89a11e4b518c01ca580ea693f9f6f1066b547abc27", func := "assize/assizelaw09.SheetsGamesSpec", spec := "sheetsGamesSpec", inPlace := ["internal/bytealg.Compare"], unfollowed := true, recurses := true, named := ["internal/strconv.uint64pow10", "math/bits.deBruijn32tab", "math/bits.deBruijn64tab"], plainKeys := false, apart := false, laid := [("math/bits.deBruijn32tab", laid_math_bits_deBruijn32tab), ("math/bits.deBruijn64tab", laid_math_bits_deBruijn64tab), ("internal/strconv.uint64pow10", laid_internal_strconv_uint64pow10)] }
def SheetsGamesSpecSaid : Prop := sheetsGamesSpecRow.holds Tryz.pinned (OpenSpec.ofChange sheetsGamesSpecSpec)

/-- ITS FALSE NEIGHBOUR: 'it returns false'. Refute it at one input. -/
def sheetsGamesSpecWrong : ChangeSpec := { name := "sheetsGamesSpec", fn := fun _ => fun
  | [d1, d2, d3] => { results := [.lit (.bool false)], args := [d1, d2, d3] }
  | _ => none }
def SheetsGamesSpecWrongFalsely : Prop := sheetsGamesSpecRow.holds Tryz.pinned (OpenSpec.ofChange sheetsGamesSpecWrong)

/-- 'assizelaw08.LedgerNewSpec': WHATEVER THE INPUT: true; the input reads as it did. -/
def ledgerNewSpecSpec : ChangeSpec := { name := "ledgerNewSpec", fn := fun _ => fun
  | [d] => { results := [.lit (.bool true)], args := [d] }
  | _ => none }
def ledgerNewSpecRow : OpenClaim := { program := "ytajmniiiahhfaaagreatdoor", sum := "b6de9162f9e08b73dd379d89a11e4b518c01ca580ea693f9f6f1066b547abc27", func := "assize/assizelaw08.LedgerNewSpec", spec := "ledgerNewSpec", inPlace := ["internal/bytealg.Compare"], unfollowed := true, recurses := true, named := ["internal/strconv.uint64pow10", "math/bits.deBruijn32tab", "math/bits.deBruijn64tab"], plainKeys := false, apart := false, laid := [("math/bits.deBruijn32tab", laid_math_bits_deBruijn32tab), ("math/bits.deBruijn64tab", laid_math_bits_deBruijn64tab), ("internal/strconv.uint64pow10", laid_internal_strconv_uint64pow10)] }
def LedgerNewSpecSaid : Prop := ledgerNewSpecRow.holds Tryz.pinned (OpenSpec.ofChange ledgerNewSpecSpec)

/-- ITS FALSE NEIGHBOUR: 'it returns false'. Refute it at one input. -/
def ledgerNewSpecWrong : ChangeSpec := { name := "ledgerNewSpec", fn := fun _ => fun
  | [d] => { results := [.lit (.bool false)], args := [d] }
  | _ => none }
def LedgerNewSpecWrongFalsely : Prop := ledgerNewSpecRow.holds Tryz.pinned (OpenSpec.ofChange ledgerNewSpecWrong)

/-- 'assizelaw08.LedgerForce': WHATEVER THE INPUT: true; the input reads as it did. -/
def ledgerForceSpec : ChangeSpec := { name := "ledgerForce", fn := fun _ => fun
  | [d1, d2, d3] => { results := [.lit (.bool true)], args := [d1, d2, d3] }
  | _ => none }
def ledgerForceRow : OpenClaim := { program := "ytajmniiiahhfaaagreatdoor", sum := "b6de9162f9e08b73dd379d89a11e4b518c01ca580ea693f9f6f1066b547abc27", func := "assize/assizelaw08.LedgerForce", spec := "ledgerForce", inPlace := ["internal/bytealg.Compare"], unfollowed := true, recurses := true, named := ["internal/strconv.uint64pow10", "math/bits.deBruijn32tab", "math/bits.deBruijn64tab"], plainKeys := false, apart := false, laid := [("math/bits.deBruijn32tab", laid_math_bits_deBruijn32tab), ("math/bits.deBruijn64tab", laid_math_bits_deBruijn64tab), ("internal/strconv.uint64pow10", laid_internal_strconv_uint64pow10)] }
def LedgerForceSaid : Prop := ledgerForceRow.holds Tryz.pinned (OpenSpec.ofChange ledgerForceSpec)

/-- ITS FALSE NEIGHBOUR: 'it returns false'. Refute it at one input. -/
def ledgerForceWrong : ChangeSpec := { name := "ledgerForce", fn := fun _ => fun
  | [d1, d2, d3] => { results := [.lit (.bool false)], args := [d1, d2, d3] }
  | _ => none }
def LedgerForceWrongFalsely : Prop := ledgerForceRow.holds Tryz.pinned (OpenSpec.ofChange ledgerForceWrong)

/-- 'assizelaw08.LedgerArrival': WHATEVER THE INPUT: true; the input reads as it did. -/
def ledgerArrivalSpec : ChangeSpec := { name := "ledgerArrival", fn := fun _ => fun
  | [d1, d2, d3] => { results := [.lit (.bool true)], args := [d1, d2, d3] }
  | _ => none }
def ledgerArrivalRow : OpenClaim := { program := "ytajmniiiahhfaaagreatdoor", sum := "b6de9162f9e08b73dd379d89a11e4b518c01ca580ea693f9f6f1066b547abc27", func := "assize/assizelaw08.LedgerArrival", spec := "ledgerArrival", inPlace := ["internal/bytealg.Compare"], unfollowed := true, recurses := true, named := ["internal/strconv.uint64pow10", "math/bits.deBruijn32tab", "math/bits.deBruijn64tab"], plainKeys := false, apart := false, laid := [("math/bits.deBruijn32tab", laid_math_bits_deBruijn32tab), ("math/bits.deBruijn64tab", laid_math_bits_deBruijn64tab), ("internal/strconv.uint64pow10", laid_internal_strconv_uint64pow10)] }
def LedgerArrivalSaid : Prop := ledgerArrivalRow.holds Tryz.pinned (OpenSpec.ofChange ledgerArrivalSpec)

/-- ITS FALSE NEIGHBOUR: 'it returns false'. Refute it at one input. -/
def ledgerArrivalWrong : ChangeSpec := { name := "ledgerArrival", fn := fun _ => fun
  | [d1, d2, d3] => { results := [.lit (.bool false)], args := [d1, d2, d3] }
  | _ => none }
def LedgerArrivalWrongFalsely : Prop := ledgerArrivalRow.holds Tryz.pinned (OpenSpec.ofChange ledgerArrivalWrong)

/-- 'assizelaw08.LedgerViewSpec': WHATEVER THE INPUT: true; the input reads as it did. -/
def ledgerViewSpecSpec : ChangeSpec := { name := "ledgerViewSpec", fn := fun _ => fun
  | [d1, d2, d3] => { results := [.lit (.bool true)], args := [d1, d2, d3] }
  | _ => none }
def ledgerViewSpecRow : OpenClaim := { program := "ytajmniiiahhfaaagreatdoor", sum := "b6de9162f9e08b73dd379d89a11e4b518c01ca580ea693f9f6f1066b547abc27", func := "assize/assizelaw08.LedgerViewSpec", spec := "ledgerViewSpec", inPlace := ["internal/bytealg.Compare"], unfollowed := true, recurses := true, named := ["internal/strconv.uint64pow10", "math/bits.deBruijn32tab", "math/bits.deBruijn64tab"], plainKeys := false, apart := false, laid := [("math/bits.deBruijn32tab", laid_math_bits_deBruijn32tab), ("math/bits.deBruijn64tab", laid_math_bits_deBruijn64tab), ("internal/strconv.uint64pow10", laid_internal_strconv_uint64pow10)] }
def LedgerViewSpecSaid : Prop := ledgerViewSpecRow.holds Tryz.pinned (OpenSpec.ofChange ledgerViewSpecSpec)

/-- ITS FALSE NEIGHBOUR: 'it returns false'. Refute it at one input. -/
def ledgerViewSpecWrong : ChangeSpec := { name := "ledgerViewSpec", fn := fun _ => fun
  | [d1, d2, d3] => { results := [.lit (.bool false)], args := [d1, d2, d3] }
  | _ => none }
def LedgerViewSpecWrongFalsely : Prop := ledgerViewSpecRow.holds Tryz.pinned (OpenSpec.ofChange ledgerViewSpecWrong)

/-- 'assizelaw08.LedgerLater': WHATEVER THE INPUT: true; the input reads as it did. -/
def ledgerLaterSpec : ChangeSpec := { name := "ledgerLater", fn := fun _ => fun
  | [d1, d2, d3, d4] => { results := [.lit (.bool true)], args := [d1, d2, d3, d4] }
  | _ => none }
def ledgerLaterRow : OpenClaim := { program := "ytajmniiiahhfaaagreatdoor", sum := "b6de9162f9e08b73dd379d89a11e4b518c01ca580ea693f9f6f1066b547abc27", func := "assize/assizelaw08.LedgerLater", spec := "ledgerLater", inPlace := ["internal/bytealg.Compare"], unfollowed := true, recurses := true, named := ["internal/strconv.uint64pow10", "math/bits.deBruijn32tab", "math/bits.deBruijn64tab"], plainKeys := false, apart := false, laid := [("math/bits.deBruijn32tab", laid_math_bits_deBruijn32tab), ("math/bits.deBruijn64tab", laid_math_bits_deBruijn64tab), ("internal/strconv.uint64pow10", laid_internal_strconv_uint64pow10)] }
def LedgerLaterSaid : Prop := ledgerLaterRow.holds Tryz.pinned (OpenSpec.ofChange ledgerLaterSpec)

/-- ITS FALSE NEIGHBOUR: 'it returns false'. Refute it at one input. -/
def ledgerLaterWrong : ChangeSpec := { name := "ledgerLater", fn := fun _ => fun
  | [d1, d2, d3, d4] => { results := [.lit (.bool false)], args := [d1, d2, d3, d4] }
  | _ => none }
def LedgerLaterWrongFalsely : Prop := ledgerLaterRow.holds Tryz.pinned (OpenSpec.ofChange ledgerLaterWrong)

/-- 'assizelaw08.LedgerDays': WHATEVER THE INPUT: true; the input reads as it did. -/
def ledgerDaysSpec : ChangeSpec := { name := "ledgerDays", fn := fun _ => fun
  | [d1, d2, d3, d4] => { results := [.lit (.bool true)], args := [d1, d2, d3, d4] }
  | _ => none }
def ledgerDaysRow : OpenClaim := { program := "ytajmniiiahhfaaagreatdoor", sum := "b6de9162f9e08b73dd379d89a11e4b518c01ca580ea693f9f6f1066b547abc27", func := "assize/assizelaw08.LedgerDays", spec := "ledgerDays", inPlace := ["internal/bytealg.Compare"], unfollowed := true, recurses := true, named := ["internal/strconv.uint64pow10", "math/bits.deBruijn32tab", "math/bits.deBruijn64tab"], plainKeys := false, apart := false, laid := [("math/bits.deBruijn32tab", laid_math_bits_deBruijn32tab), ("math/bits.deBruijn64tab", laid_math_bits_deBruijn64tab), ("internal/strconv.uint64pow10", laid_internal_strconv_uint64pow10)] }
def LedgerDaysSaid : Prop := ledgerDaysRow.holds Tryz.pinned (OpenSpec.ofChange ledgerDaysSpec)

/-- ITS FALSE NEIGHBOUR: 'it returns false'. Refute it at one input. -/
def ledgerDaysWrong : ChangeSpec := { name := "ledgerDays", fn := fun _ => fun
  | [d1, d2, d3, d4] => { results := [.lit (.bool false)], args := [d1, d2, d3, d4] }
  | _ => none }
def LedgerDaysWrongFalsely : Prop := ledgerDaysRow.holds Tryz.pinned (OpenSpec.ofChange ledgerDaysWrong)

/-- 'assizelaw08.LedgerAddSpec': WHATEVER THE INPUT: true; the input reads as it did. -/
def ledgerAddSpecSpec : ChangeSpec := { name := "ledgerAddSpec", fn := fun _ => fun
  | [d1, d2, d3] => { results := [.lit (.bool true)], args := [d1, d2, d3] }
  | _ => none }
def ledgerAddSpecRow : OpenClaim := { program := "ytajmniiiahhfaaagreatdoor", sum := "b6de9162f9e08b73dd379d89a11e4b518c01ca580ea693f9f6f1066b547abc27", func := "assize/assizelaw08.LedgerAddSpec", spec := "ledgerAddSpec", inPlace := ["internal/bytealg.Compare"], unfollowed := true, recurses := true, named := ["internal/strconv.uint64pow10", "math/bits.deBruijn32tab", "math/bits.deBruijn64tab"], plainKeys := false, apart := false, laid := [("math/bits.deBruijn32tab", laid_math_bits_deBruijn32tab), ("math/bits.deBruijn64tab", laid_math_bits_deBruijn64tab), ("internal/strconv.uint64pow10", laid_internal_strconv_uint64pow10)] }
def LedgerAddSpecSaid : Prop := ledgerAddSpecRow.holds Tryz.pinned (OpenSpec.ofChange ledgerAddSpecSpec)

/-- ITS FALSE NEIGHBOUR: 'it returns false'. Refute it at one input. -/
def ledgerAddSpecWrong : ChangeSpec := { name := "ledgerAddSpec", fn := fun _ => fun
  | [d1, d2, d3] => { results := [.lit (.bool false)], args := [d1, d2, d3] }
  | _ => none }
def LedgerAddSpecWrongFalsely : Prop := ledgerAddSpecRow.holds Tryz.pinned (OpenSpec.ofChange ledgerAddSpecWrong)

/-- 'assizelaw08.LedgerLacks': WHATEVER THE INPUT: true; the input reads as it did. -/
def ledgerLacksSpec : ChangeSpec := { name := "ledgerLacks", fn := fun _ => fun
  | [d1, d2] => { results := [.lit (.bool true)], args := [d1, d2] }
  | _ => none }
def ledgerLacksRow : OpenClaim := { program := "ytajmniiiahhfaaagreatdoor", sum := "b6de9162f9e08b73dd379d89a11e4b518c01ca580ea693f9f6f1066b547abc27", func := "assize/assizelaw08.LedgerLacks", spec := "ledgerLacks", inPlace := ["internal/bytealg.Compare"], unfollowed := true, recurses := true, named := ["internal/strconv.uint64pow10", "math/bits.deBruijn32tab", "math/bits.deBruijn64tab"], plainKeys := false, apart := false, laid := [("math/bits.deBruijn32tab", laid_math_bits_deBruijn32tab), ("math/bits.deBruijn64tab", laid_math_bits_deBruijn64tab), ("internal/strconv.uint64pow10", laid_internal_strconv_uint64pow10)] }
def LedgerLacksSaid : Prop := ledgerLacksRow.holds Tryz.pinned (OpenSpec.ofChange ledgerLacksSpec)

/-- ITS FALSE NEIGHBOUR: 'it returns false'. Refute it at one input. -/
def ledgerLacksWrong : ChangeSpec := { name := "ledgerLacks", fn := fun _ => fun
  | [d1, d2] => { results := [.lit (.bool false)], args := [d1, d2] }
  | _ => none }
def LedgerLacksWrongFalsely : Prop := ledgerLacksRow.holds Tryz.pinned (OpenSpec.ofChange ledgerLacksWrong)

/- THE SECOND FORM. 'bulk': how many values and letters a reading holds, each counted each time it is reached (what is shared counts as often as it is met; a slice's spare places count too). A statement '..UptoSaid' is the law's where the arguments, and the package variables that the reading takes, are together of bulk at most 1048576: NARROWER than '..Said'. Prove '..Said' where nothing that the law and all that it calls make is longer than what came in: it says more and counts as full. Else prove '..UptoSaid'. A law counts once. -/
mutual
def uptoBulk {H : Type} : DataW H → Nat
  | .lit (.string bytes) => bytes.length + 1
  | .lit _ => 1
  | .nil => 1
  | .ptr d => uptoBulk d + 1
  | .slice elems spare => uptoBulkAll elems + uptoBulkAll spare + 1
  | .agg parts => uptoBulkAll parts + 1
  | .iface _ d => uptoBulk d + 1
  | .map entries => uptoBulkEntries entries + 1
  | .held _ => 1
def uptoBulkAll {H : Type} : List (DataW H) → Nat
  | [] => 0
  | d :: r => uptoBulk d + uptoBulkAll r
def uptoBulkEntries {H : Type} : List (Lit × DataW H) → Nat
  | [] => 0
  | x :: r => uptoBulkEntry x + uptoBulkEntries r
def uptoBulkEntry {H : Type} : Lit × DataW H → Nat
  | (.string bytes, d) => bytes.length + uptoBulk d + 1
  | (_, d) => uptoBulk d + 1
 end
def uptoSmall : (H : Type) → List (DataW H) → Bool := fun _ ds => decide (uptoBulkAll ds ≤ 1048576)
def OpenSpec.upto (s : _root_.Go.ChangeSpec) : _root_.Go.OpenSpec := { _root_.Go.OpenSpec.ofChange s with cond := some uptoSmall }

/-- 'assizelaw09.SheetsLatestSpec', WHERE WHAT IT READS IS OF BULK AT MOST 1048576: true; the input reads as it did. -/
def sheetsLatestSpecUptoRow : OpenClaim := { program := "ytajmniiiahhfaaagreatdoor", sum := "b6de9162f9e08b73dd379d89a11e4b518c01ca580ea693f9f6f1066b547abc27", func := "assize/assizelaw09.SheetsLatestSpec", spec := "sheetsLatestSpec", inPlace := ["internal/bytealg.Compare"], unfollowed := true, recurses := true, named := ["internal/strconv.uint64pow10", "math/bits.deBruijn32tab", "math/bits.deBruijn64tab"], plainKeys := false, apart := false, laid := [("math/bits.deBruijn32tab", laid_math_bits_deBruijn32tab), ("math/bits.deBruijn64tab", laid_math_bits_deBruijn64tab), ("internal/strconv.uint64pow10", laid_internal_strconv_uint64pow10)], narrowed := true }
def SheetsLatestSpecUptoSaid : Prop := sheetsLatestSpecUptoRow.holds Tryz.pinned (OpenSpec.upto sheetsLatestSpecSpec)

/-- 'assizelaw09.SheetsScoreSpec', WHERE WHAT IT READS IS OF BULK AT MOST 1048576: true; the input reads as it did. -/
def sheetsScoreSpecUptoRow : OpenClaim := { program := "ytajmniiiahhfaaagreatdoor", sum := "b6de9162f9e08b73dd379d89a11e4b518c01ca580ea693f9f6f1066b547abc27", func := "assize/assizelaw09.SheetsScoreSpec", spec := "sheetsScoreSpec", inPlace := ["internal/bytealg.Compare"], unfollowed := true, recurses := true, named := ["internal/strconv.uint64pow10", "math/bits.deBruijn32tab", "math/bits.deBruijn64tab"], plainKeys := false, apart := false, laid := [("math/bits.deBruijn32tab", laid_math_bits_deBruijn32tab), ("math/bits.deBruijn64tab", laid_math_bits_deBruijn64tab), ("internal/strconv.uint64pow10", laid_internal_strconv_uint64pow10)], narrowed := true }
def SheetsScoreSpecUptoSaid : Prop := sheetsScoreSpecUptoRow.holds Tryz.pinned (OpenSpec.upto sheetsScoreSpecSpec)

/-- 'assizelaw09.SheetsGamesSpec', WHERE WHAT IT READS IS OF BULK AT MOST 1048576: true; the input reads as it did. -/
def sheetsGamesSpecUptoRow : OpenClaim := { program := "ytajmniiiahhfaaagreatdoor", sum := "b6de9162f9e08b73dd379d89a11e4b518c01ca580ea693f9f6f1066b547abc27", func := "assize/assizelaw09.SheetsGamesSpec", spec := "sheetsGamesSpec", inPlace := ["internal/bytealg.Compare"], unfollowed := true, recurses := true, named := ["internal/strconv.uint64pow10", "math/bits.deBruijn32tab", "math/bits.deBruijn64tab"], plainKeys := false, apart := false, laid := [("math/bits.deBruijn32tab", laid_math_bits_deBruijn32tab), ("math/bits.deBruijn64tab", laid_math_bits_deBruijn64tab), ("internal/strconv.uint64pow10", laid_internal_strconv_uint64pow10)], narrowed := true }
def SheetsGamesSpecUptoSaid : Prop := sheetsGamesSpecUptoRow.holds Tryz.pinned (OpenSpec.upto sheetsGamesSpecSpec)

/-- 'assizelaw08.LedgerNewSpec', WHERE WHAT IT READS IS OF BULK AT MOST 1048576: true; the input reads as it did. -/
def ledgerNewSpecUptoRow : OpenClaim := { program := "ytajmniiiahhfaaagreatdoor", sum := "b6de9162f9e08b73dd379d89a11e4b518c01ca580ea693f9f6f1066b547abc27", func := "assize/assizelaw08.LedgerNewSpec", spec := "ledgerNewSpec", inPlace := ["internal/bytealg.Compare"], unfollowed := true, recurses := true, named := ["internal/strconv.uint64pow10", "math/bits.deBruijn32tab", "math/bits.deBruijn64tab"], plainKeys := false, apart := false, laid := [("math/bits.deBruijn32tab", laid_math_bits_deBruijn32tab), ("math/bits.deBruijn64tab", laid_math_bits_deBruijn64tab), ("internal/strconv.uint64pow10", laid_internal_strconv_uint64pow10)], narrowed := true }
def LedgerNewSpecUptoSaid : Prop := ledgerNewSpecUptoRow.holds Tryz.pinned (OpenSpec.upto ledgerNewSpecSpec)

/-- 'assizelaw08.LedgerForce', WHERE WHAT IT READS IS OF BULK AT MOST 1048576: true; the input reads as it did. -/
def ledgerForceUptoRow : OpenClaim := { program := "ytajmniiiahhfaaagreatdoor", sum := "b6de9162f9e08b73dd379d89a11e4b518c01ca580ea693f9f6f1066b547abc27", func := "assize/assizelaw08.LedgerForce", spec := "ledgerForce", inPlace := ["internal/bytealg.Compare"], unfollowed := true, recurses := true, named := ["internal/strconv.uint64pow10", "math/bits.deBruijn32tab", "math/bits.deBruijn64tab"], plainKeys := false, apart := false, laid := [("math/bits.deBruijn32tab", laid_math_bits_deBruijn32tab), ("math/bits.deBruijn64tab", laid_math_bits_deBruijn64tab), ("internal/strconv.uint64pow10", laid_internal_strconv_uint64pow10)], narrowed := true }
def LedgerForceUptoSaid : Prop := ledgerForceUptoRow.holds Tryz.pinned (OpenSpec.upto ledgerForceSpec)

/-- 'assizelaw08.LedgerArrival', WHERE WHAT IT READS IS OF BULK AT MOST 1048576: true; the input reads as it did. -/
def ledgerArrivalUptoRow : OpenClaim := { program := "ytajmniiiahhfaaagreatdoor", sum := "b6de9162f9e08b73dd379d89a11e4b518c01ca580ea693f9f6f1066b547abc27", func := "assize/assizelaw08.LedgerArrival", spec := "ledgerArrival", inPlace := ["internal/bytealg.Compare"], unfollowed := true, recurses := true, named := ["internal/strconv.uint64pow10", "math/bits.deBruijn32tab", "math/bits.deBruijn64tab"], plainKeys := false, apart := false, laid := [("math/bits.deBruijn32tab", laid_math_bits_deBruijn32tab), ("math/bits.deBruijn64tab", laid_math_bits_deBruijn64tab), ("internal/strconv.uint64pow10", laid_internal_strconv_uint64pow10)], narrowed := true }
def LedgerArrivalUptoSaid : Prop := ledgerArrivalUptoRow.holds Tryz.pinned (OpenSpec.upto ledgerArrivalSpec)

/-- 'assizelaw08.LedgerViewSpec', WHERE WHAT IT READS IS OF BULK AT MOST 1048576: true; the input reads as it did. -/
def ledgerViewSpecUptoRow : OpenClaim := { program := "ytajmniiiahhfaaagreatdoor", sum := "b6de9162f9e08b73dd379d89a11e4b518c01ca580ea693f9f6f1066b547abc27", func := "assize/assizelaw08.LedgerViewSpec", spec := "ledgerViewSpec", inPlace := ["internal/bytealg.Compare"], unfollowed := true, recurses := true, named := ["internal/strconv.uint64pow10", "math/bits.deBruijn32tab", "math/bits.deBruijn64tab"], plainKeys := false, apart := false, laid := [("math/bits.deBruijn32tab", laid_math_bits_deBruijn32tab), ("math/bits.deBruijn64tab", laid_math_bits_deBruijn64tab), ("internal/strconv.uint64pow10", laid_internal_strconv_uint64pow10)], narrowed := true }
def LedgerViewSpecUptoSaid : Prop := ledgerViewSpecUptoRow.holds Tryz.pinned (OpenSpec.upto ledgerViewSpecSpec)

/-- 'assizelaw08.LedgerLater', WHERE WHAT IT READS IS OF BULK AT MOST 1048576: true; the input reads as it did. -/
def ledgerLaterUptoRow : OpenClaim := { program := "ytajmniiiahhfaaagreatdoor", sum := "b6de9162f9e08b73dd379d89a11e4b518c01ca580ea693f9f6f1066b547abc27", func := "assize/assizelaw08.LedgerLater", spec := "ledgerLater", inPlace := ["internal/bytealg.Compare"], unfollowed := true, recurses := true, named := ["internal/strconv.uint64pow10", "math/bits.deBruijn32tab", "math/bits.deBruijn64tab"], plainKeys := false, apart := false, laid := [("math/bits.deBruijn32tab", laid_math_bits_deBruijn32tab), ("math/bits.deBruijn64tab", laid_math_bits_deBruijn64tab), ("internal/strconv.uint64pow10", laid_internal_strconv_uint64pow10)], narrowed := true }
def LedgerLaterUptoSaid : Prop := ledgerLaterUptoRow.holds Tryz.pinned (OpenSpec.upto ledgerLaterSpec)

/-- 'assizelaw08.LedgerDays', WHERE WHAT IT READS IS OF BULK AT MOST 1048576: true; the input reads as it did. -/
def ledgerDaysUptoRow : OpenClaim := { program := "ytajmniiiahhfaaagreatdoor", sum := "b6de9162f9e08b73dd379d89a11e4b518c01ca580ea693f9f6f1066b547abc27", func := "assize/assizelaw08.LedgerDays", spec := "ledgerDays", inPlace := ["internal/bytealg.Compare"], unfollowed := true, recurses := true, named := ["internal/strconv.uint64pow10", "math/bits.deBruijn32tab", "math/bits.deBruijn64tab"], plainKeys := false, apart := false, laid := [("math/bits.deBruijn32tab", laid_math_bits_deBruijn32tab), ("math/bits.deBruijn64tab", laid_math_bits_deBruijn64tab), ("internal/strconv.uint64pow10", laid_internal_strconv_uint64pow10)], narrowed := true }
def LedgerDaysUptoSaid : Prop := ledgerDaysUptoRow.holds Tryz.pinned (OpenSpec.upto ledgerDaysSpec)

/-- 'assizelaw08.LedgerAddSpec', WHERE WHAT IT READS IS OF BULK AT MOST 1048576: true; the input reads as it did. -/
def ledgerAddSpecUptoRow : OpenClaim := { program := "ytajmniiiahhfaaagreatdoor", sum := "b6de9162f9e08b73dd379d89a11e4b518c01ca580ea693f9f6f1066b547abc27", func := "assize/assizelaw08.LedgerAddSpec", spec := "ledgerAddSpec", inPlace := ["internal/bytealg.Compare"], unfollowed := true, recurses := true, named := ["internal/strconv.uint64pow10", "math/bits.deBruijn32tab", "math/bits.deBruijn64tab"], plainKeys := false, apart := false, laid := [("math/bits.deBruijn32tab", laid_math_bits_deBruijn32tab), ("math/bits.deBruijn64tab", laid_math_bits_deBruijn64tab), ("internal/strconv.uint64pow10", laid_internal_strconv_uint64pow10)], narrowed := true }
def LedgerAddSpecUptoSaid : Prop := ledgerAddSpecUptoRow.holds Tryz.pinned (OpenSpec.upto ledgerAddSpecSpec)

/-- 'assizelaw08.LedgerLacks', WHERE WHAT IT READS IS OF BULK AT MOST 1048576: true; the input reads as it did. -/
def ledgerLacksUptoRow : OpenClaim := { program := "ytajmniiiahhfaaagreatdoor", sum := "b6de9162f9e08b73dd379d89a11e4b518c01ca580ea693f9f6f1066b547abc27", func := "assize/assizelaw08.LedgerLacks", spec := "ledgerLacks", inPlace := ["internal/bytealg.Compare"], unfollowed := true, recurses := true, named := ["internal/strconv.uint64pow10", "math/bits.deBruijn32tab", "math/bits.deBruijn64tab"], plainKeys := false, apart := false, laid := [("math/bits.deBruijn32tab", laid_math_bits_deBruijn32tab), ("math/bits.deBruijn64tab", laid_math_bits_deBruijn64tab), ("internal/strconv.uint64pow10", laid_internal_strconv_uint64pow10)], narrowed := true }
def LedgerLacksUptoSaid : Prop := ledgerLacksUptoRow.holds Tryz.pinned (OpenSpec.upto ledgerLacksSpec)

end Rows
end Go.Proofs.YtajmniiiahhfaaaGreatDoor
