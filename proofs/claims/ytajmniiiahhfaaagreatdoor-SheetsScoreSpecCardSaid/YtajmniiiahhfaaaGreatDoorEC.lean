import Derived.Test.YtajmniiiahhfaaaGreatDoorEB
import Derived.Test.YtajmniiiahhfaaaGreatDoorHD
import Derived.Test.YtajmniiiahhfaaaGreatDoorDB
import Derived.Test.YtajmniiiahhfaaaGreatDoorGC
/-
  ledger: the facts that were known on a day; Collect; Known, walked.
-/
set_option linter.unusedVariables false
set_option linter.unusedSimpArgs false
set_option maxRecDepth 100000
set_option maxHeartbeats 8000000
namespace Go.Hw
open Go
attribute [local irreducible] GO GOl GDp Val Fn Res CellsAt ValE Blk OwnS MapA OwnPf Has Yl
open Go.Proofs (Tryz.prog)
end Go.Hw
/-
  ledger: Collect; Known, walked.
-/
set_option linter.unusedVariables false
set_option linter.unusedSimpArgs false
set_option maxRecDepth 100000
set_option maxHeartbeats 8000000
namespace Go.Hw
open Go
attribute [local irreducible] GO GOl GDp Val Fn Res CellsAt ValE Blk OwnS MapA OwnPf Has Yl
open Go.Proofs (Tryz.prog)
open Classical in
/-- What Known answers. -/
noncomputable def knownE (l : List Fct) (k : Int) : List Fct × Int := if ledE l ≠ 0 then ([], ledE l) else if ¬ (0 ≤ k ∧ k ≤ 1048576) then ([], 1) else (knownL l k, 0)
end Go.Hw
/-
  ledger: Missing, walked.
-/
set_option linter.unusedVariables false
set_option linter.unusedSimpArgs false
set_option maxRecDepth 100000
set_option maxHeartbeats 8000000
namespace Go.Hw
open Go
attribute [local irreducible] GO GOl GDp Val Fn Res CellsAt ValE Blk OwnS MapA OwnPf Has Yl idF
open Go.Proofs (Tryz.prog)
open Classical in
/-- What Missing answers. -/
noncomputable def missE (a b : List Fct) : List (List UInt8) × Int := if ledE a ≠ 0 then ([], ledE a) else if ledE b ≠ 0 then ([], ledE b) else ((missL a b).map idF, 0)
end Go.Hw
