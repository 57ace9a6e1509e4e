/-
  NARROWER THAN 'FOR EVERY INPUT', by the rows' own cells (each row's printed sentence says how): SquadsCheckSpec: laid · SquadsSquadSpec: laid · SquadsBirthdays: laid · SquadsLarger: laid · SquadsReasons: laid.
  DERIVED. THE GIVEN ROWS OF THIS SEAT. 5 by the template 'for every input the law returns true; each argument reads behind the call as it read before'; 0 by the template 'total and deterministic' (their statements: YtbgjcjhodlmgjabDoorTotals.lean).
  GIVEN WITH THE SEED: the statements are not yours to turn. If you find one false, say at which input.
  Laid BY PROGRAM, IN A SANDBOX (cutbox-rows.mjs): the forced cells as the released guide's own fill.sh prints them over the translation eb3b9154ff6c7b33… (all of the seat's roots in one cut). By AI agents, Wed Nov 11 2026. No macro, syntax, notation, axiom, sorry.
-/
import Derived.Test.YtbgjcjhodlmgjabDoorChecked
import GoSem.Claim
import GoSem.ClaimJoined
import GoSem.ClaimMapViews
import Derived.JoinedTies
import Derived.KernelRfl
namespace Go.Proofs.YtbgjcjhodlmgjabDoor
/- THE CELL 'sum', in the pinned program and in every row, IS THE sha256 OF THE DUMP (.gsa) THAT YtbgjcjhodlmgjabDoorProg.lean LOADS. Nothing in Lean hashes anything: it is a label: what it is worth is what the hold of that sum in a sandbox is worth. -/
noncomputable def Tryd.pinned : Pinned := { name := "ytbgjcjhodlmgjabdoor", sum := "eb3b9154ff6c7b3396655d751a8c7346fc91cdaba48923ee4b40a8ef6c717128", checked := Tryd.checked }
namespace Rows
def none {H : Type} : Left H := { results := [], args := [] }

/- WHAT THE LISTED PACKAGE-LEVEL VARIABLES READ AS WHEN THE CALL BEGINS. Each datum BY PROGRAM (the guide's laid-datum.mjs) off the statement by which the dump's own 'gosem.cut.vars' lays the variable. In a bare row this is a premise. The card (YtbgjcjhodlmgjabDoorCards.lean) ties it to the program's text. -/
def laid_assize_calendar_lengths {H : Type} : DataW H := .agg [.lit (.int .i64 31), .lit (.int .i64 28), .lit (.int .i64 31), .lit (.int .i64 30), .lit (.int .i64 31), .lit (.int .i64 30), .lit (.int .i64 31), .lit (.int .i64 31), .lit (.int .i64 30), .lit (.int .i64 31), .lit (.int .i64 30), .lit (.int .i64 31)]

/-- 'assizelaw37.SquadsCheckSpec': WHATEVER THE INPUT: true; the input reads as it did. -/
def squadsCheckSpecSpec : ChangeSpec := { name := "squadsCheckSpec", fn := fun _ => fun
  | [d1, d2, d3] => { results := [.lit (.bool true)], args := [d1, d2, d3] }
  | _ => none }
def squadsCheckSpecRow : OpenClaim := { program := "ytbgjcjhodlmgjabdoor", sum := "eb3b9154ff6c7b3396655d751a8c7346fc91cdaba48923ee4b40a8ef6c717128", func := "assize/assizelaw37.SquadsCheckSpec", spec := "squadsCheckSpec", unfollowed := true, recurses := true, named := ["assize/calendar.lengths"], apart := false, laid := [("assize/calendar.lengths", laid_assize_calendar_lengths)] }
def SquadsCheckSpecSaid : Prop := squadsCheckSpecRow.holds Tryd.pinned (OpenSpec.ofChange squadsCheckSpecSpec)

/-- ITS FALSE NEIGHBOUR: 'it returns false'. Refute it at one input. -/
def squadsCheckSpecWrong : ChangeSpec := { name := "squadsCheckSpec", fn := fun _ => fun
  | [d1, d2, d3] => { results := [.lit (.bool false)], args := [d1, d2, d3] }
  | _ => none }
def SquadsCheckSpecWrongFalsely : Prop := squadsCheckSpecRow.holds Tryd.pinned (OpenSpec.ofChange squadsCheckSpecWrong)

/-- 'assizelaw37.SquadsSquadSpec': WHATEVER THE INPUT: true; the input reads as it did. -/
def squadsSquadSpecSpec : ChangeSpec := { name := "squadsSquadSpec", fn := fun _ => fun
  | [d1, d2, d3, d4, d5, d6] => { results := [.lit (.bool true)], args := [d1, d2, d3, d4, d5, d6] }
  | _ => none }
def squadsSquadSpecRow : OpenClaim := { program := "ytbgjcjhodlmgjabdoor", sum := "eb3b9154ff6c7b3396655d751a8c7346fc91cdaba48923ee4b40a8ef6c717128", func := "assize/assizelaw37.SquadsSquadSpec", spec := "squadsSquadSpec", unfollowed := true, recurses := true, named := ["assize/calendar.lengths"], apart := false, laid := [("assize/calendar.lengths", laid_assize_calendar_lengths)] }
def SquadsSquadSpecSaid : Prop := squadsSquadSpecRow.holds Tryd.pinned (OpenSpec.ofChange squadsSquadSpecSpec)

/-- ITS FALSE NEIGHBOUR: 'it returns false'. Refute it at one input. -/
def squadsSquadSpecWrong : ChangeSpec := { name := "squadsSquadSpec", fn := fun _ => fun
  | [d1, d2, d3, d4, d5, d6] => { results := [.lit (.bool false)], args := [d1, d2, d3, d4, d5, d6] }
  | _ => none }
def SquadsSquadSpecWrongFalsely : Prop := squadsSquadSpecRow.holds Tryd.pinned (OpenSpec.ofChange squadsSquadSpecWrong)

/-- 'assizelaw37.SquadsBirthdays': WHATEVER THE INPUT: true; the input reads as it did. -/
def squadsBirthdaysSpec : ChangeSpec := { name := "squadsBirthdays", fn := fun _ => fun
  | [d1, d2] => { results := [.lit (.bool true)], args := [d1, d2] }
  | _ => none }
def squadsBirthdaysRow : OpenClaim := { program := "ytbgjcjhodlmgjabdoor", sum := "eb3b9154ff6c7b3396655d751a8c7346fc91cdaba48923ee4b40a8ef6c717128", func := "assize/assizelaw37.SquadsBirthdays", spec := "squadsBirthdays", unfollowed := true, recurses := true, named := ["assize/calendar.lengths"], apart := false, laid := [("assize/calendar.lengths", laid_assize_calendar_lengths)] }
def SquadsBirthdaysSaid : Prop := squadsBirthdaysRow.holds Tryd.pinned (OpenSpec.ofChange squadsBirthdaysSpec)

/-- ITS FALSE NEIGHBOUR: 'it returns false'. Refute it at one input. -/
def squadsBirthdaysWrong : ChangeSpec := { name := "squadsBirthdays", fn := fun _ => fun
  | [d1, d2] => { results := [.lit (.bool false)], args := [d1, d2] }
  | _ => none }
def SquadsBirthdaysWrongFalsely : Prop := squadsBirthdaysRow.holds Tryd.pinned (OpenSpec.ofChange squadsBirthdaysWrong)

/-- 'assizelaw37.SquadsLarger': WHATEVER THE INPUT: true; the input reads as it did. -/
def squadsLargerSpec : ChangeSpec := { name := "squadsLarger", fn := fun _ => fun
  | [d1, d2, d3, d4, d5, d6] => { results := [.lit (.bool true)], args := [d1, d2, d3, d4, d5, d6] }
  | _ => none }
def squadsLargerRow : OpenClaim := { program := "ytbgjcjhodlmgjabdoor", sum := "eb3b9154ff6c7b3396655d751a8c7346fc91cdaba48923ee4b40a8ef6c717128", func := "assize/assizelaw37.SquadsLarger", spec := "squadsLarger", unfollowed := true, recurses := true, named := ["assize/calendar.lengths"], apart := false, laid := [("assize/calendar.lengths", laid_assize_calendar_lengths)] }
def SquadsLargerSaid : Prop := squadsLargerRow.holds Tryd.pinned (OpenSpec.ofChange squadsLargerSpec)

/-- ITS FALSE NEIGHBOUR: 'it returns false'. Refute it at one input. -/
def squadsLargerWrong : ChangeSpec := { name := "squadsLarger", fn := fun _ => fun
  | [d1, d2, d3, d4, d5, d6] => { results := [.lit (.bool false)], args := [d1, d2, d3, d4, d5, d6] }
  | _ => none }
def SquadsLargerWrongFalsely : Prop := squadsLargerRow.holds Tryd.pinned (OpenSpec.ofChange squadsLargerWrong)

/-- 'assizelaw37.SquadsReasons': WHATEVER THE INPUT: true; the input reads as it did. -/
def squadsReasonsSpec : ChangeSpec := { name := "squadsReasons", fn := fun _ => fun
  | [d1, d2, d3, d4, d5, d6, d7, d8] => { results := [.lit (.bool true)], args := [d1, d2, d3, d4, d5, d6, d7, d8] }
  | _ => none }
def squadsReasonsRow : OpenClaim := { program := "ytbgjcjhodlmgjabdoor", sum := "eb3b9154ff6c7b3396655d751a8c7346fc91cdaba48923ee4b40a8ef6c717128", func := "assize/assizelaw37.SquadsReasons", spec := "squadsReasons", unfollowed := true, recurses := true, named := ["assize/calendar.lengths"], apart := false, laid := [("assize/calendar.lengths", laid_assize_calendar_lengths)] }
def SquadsReasonsSaid : Prop := squadsReasonsRow.holds Tryd.pinned (OpenSpec.ofChange squadsReasonsSpec)

/-- ITS FALSE NEIGHBOUR: 'it returns false'. Refute it at one input. -/
def squadsReasonsWrong : ChangeSpec := { name := "squadsReasons", fn := fun _ => fun
  | [d1, d2, d3, d4, d5, d6, d7, d8] => { results := [.lit (.bool false)], args := [d1, d2, d3, d4, d5, d6, d7, d8] }
  | _ => none }
def SquadsReasonsWrongFalsely : Prop := squadsReasonsRow.holds Tryd.pinned (OpenSpec.ofChange squadsReasonsWrong)

/- THE SECOND FORM. 'bulk': how many values and letters a reading holds, each counted each time it is reached (what is shared counts as often as it is met; a slice's spare places count too). A statement '..UptoSaid' is the law's where the arguments, and the package variables that the reading takes, are together of bulk at most 1048576: NARROWER than '..Said'. Prove '..Said' where nothing that the law and all that it calls make is longer than what came in: it says more and counts as full. Else prove '..UptoSaid'. A law counts once. -/
mutual
def uptoBulk {H : Type} : DataW H → Nat
  | .lit (.string bytes) => bytes.length + 1
  | .lit _ => 1
  | .nil => 1
  | .ptr d => uptoBulk d + 1
  | .slice elems spare => uptoBulkAll elems + uptoBulkAll spare + 1
  | .agg parts => uptoBulkAll parts + 1
  | .iface _ d => uptoBulk d + 1
  | .map entries => uptoBulkEntries entries + 1
  | .held _ => 1
def uptoBulkAll {H : Type} : List (DataW H) → Nat
  | [] => 0
  | d :: r => uptoBulk d + uptoBulkAll r
def uptoBulkEntries {H : Type} : List (Lit × DataW H) → Nat
  | [] => 0
  | x :: r => uptoBulkEntry x + uptoBulkEntries r
def uptoBulkEntry {H : Type} : Lit × DataW H → Nat
  | (.string bytes, d) => bytes.length + uptoBulk d + 1
  | (_, d) => uptoBulk d + 1
 end
def uptoSmall : (H : Type) → List (DataW H) → Bool := fun _ ds => decide (uptoBulkAll ds ≤ 1048576)
def OpenSpec.upto (s : _root_.Go.ChangeSpec) : _root_.Go.OpenSpec := { _root_.Go.OpenSpec.ofChange s with cond := some uptoSmall }

/-- 'assizelaw37.SquadsCheckSpec', WHERE WHAT IT READS IS OF BULK AT MOST 1048576: true; the input reads as it did. -/
def squadsCheckSpecUptoRow : OpenClaim := { program := "ytbgjcjhodlmgjabdoor", sum := "eb3b9154ff6c7b3396655d751a8c7346fc91cdaba48923ee4b40a8ef6c717128", func := "assize/assizelaw37.SquadsCheckSpec", spec := "squadsCheckSpec", unfollowed := true, recurses := true, named := ["assize/calendar.lengths"], apart := false, laid := [("assize/calendar.lengths", laid_assize_calendar_lengths)], narrowed := true }
def SquadsCheckSpecUptoSaid : Prop := squadsCheckSpecUptoRow.holds Tryd.pinned (OpenSpec.upto squadsCheckSpecSpec)

/-- 'assizelaw37.SquadsSquadSpec', WHERE WHAT IT READS IS OF BULK AT MOST 1048576: true; the input reads as it did. -/
def squadsSquadSpecUptoRow : OpenClaim := { program := "ytbgjcjhodlmgjabdoor", sum := "eb3b9154ff6c7b3396655d751a8c7346fc91cdaba48923ee4b40a8ef6c717128", func := "assize/assizelaw37.SquadsSquadSpec", spec := "squadsSquadSpec", unfollowed := true, recurses := true, named := ["assize/calendar.lengths"], apart := false, laid := [("assize/calendar.lengths", laid_assize_calendar_lengths)], narrowed := true }
def SquadsSquadSpecUptoSaid : Prop := squadsSquadSpecUptoRow.holds Tryd.pinned (OpenSpec.upto squadsSquadSpecSpec)

/-- 'assizelaw37.SquadsBirthdays', WHERE WHAT IT READS IS OF BULK AT MOST 1048576: true; the input reads as it did. -/
def squadsBirthdaysUptoRow : OpenClaim := { program := "ytbgjcjhodlmgjabdoor", sum := "eb3b9154ff6c7b3396655d751a8c7346fc91cdaba48923ee4b40a8ef6c717128", func := "assize/assizelaw37.SquadsBirthdays", spec := "squadsBirthdays", unfollowed := true, recurses := true, named := ["assize/calendar.lengths"], apart := false, laid := [("assize/calendar.lengths", laid_assize_calendar_lengths)], narrowed := true }
def SquadsBirthdaysUptoSaid : Prop := squadsBirthdaysUptoRow.holds Tryd.pinned (OpenSpec.upto squadsBirthdaysSpec)

/-- 'assizelaw37.SquadsLarger', WHERE WHAT IT READS IS OF BULK AT MOST 1048576: true; the input reads as it did. -/
def squadsLargerUptoRow : OpenClaim := { program := "ytbgjcjhodlmgjabdoor", sum := "eb3b9154ff6c7b3396655d751a8c7346fc91cdaba48923ee4b40a8ef6c717128", func := "assize/assizelaw37.SquadsLarger", spec := "squadsLarger", unfollowed := true, recurses := true, named := ["assize/calendar.lengths"], apart := false, laid := [("assize/calendar.lengths", laid_assize_calendar_lengths)], narrowed := true }
def SquadsLargerUptoSaid : Prop := squadsLargerUptoRow.holds Tryd.pinned (OpenSpec.upto squadsLargerSpec)

/-- 'assizelaw37.SquadsReasons', WHERE WHAT IT READS IS OF BULK AT MOST 1048576: true; the input reads as it did. -/
def squadsReasonsUptoRow : OpenClaim := { program := "ytbgjcjhodlmgjabdoor", sum := "eb3b9154ff6c7b3396655d751a8c7346fc91cdaba48923ee4b40a8ef6c717128", func := "assize/assizelaw37.SquadsReasons", spec := "squadsReasons", unfollowed := true, recurses := true, named := ["assize/calendar.lengths"], apart := false, laid := [("assize/calendar.lengths", laid_assize_calendar_lengths)], narrowed := true }
def SquadsReasonsUptoSaid : Prop := squadsReasonsUptoRow.holds Tryd.pinned (OpenSpec.upto squadsReasonsSpec)

end Rows
end Go.Proofs.YtbgjcjhodlmgjabDoor
