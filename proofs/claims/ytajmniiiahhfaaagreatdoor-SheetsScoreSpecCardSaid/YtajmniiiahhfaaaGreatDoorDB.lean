import Derived.Test.YtajmniiiahhfaaaGreatDoorDA
import Derived.Test.YtajmniiiahhfaaaGreatDoorHD
import Derived.Test.YtajmniiiahhfaaaGreatDoorGC
import Derived.Test.YtajmniiiahhfaaaGreatDoorHwXd
/-
  The digest: Sum, Tagged; facts.ID, walked.
-/
set_option linter.unusedVariables false
set_option linter.unusedSimpArgs false
set_option maxRecDepth 100000
set_option maxHeartbeats 40000000
namespace Go.Hw
open Go
attribute [local irreducible] GO GOl GDp Val Fn Res CellsAt ValE Blk OwnS MapA OwnPf Has rotl permS absS outT blkS endS
open Go.Proofs (Tryz.prog)
end Go.Hw
/-
  The digest: Tagged; facts.ID, walked.
-/
set_option linter.unusedVariables false
set_option linter.unusedSimpArgs false
set_option maxRecDepth 100000
set_option maxHeartbeats 8000000
namespace Go.Hw
open Go
attribute [local irreducible] GO GOl GDp Val Fn Res CellsAt ValE Blk OwnS MapA OwnPf Has sumF
open Go.Proofs (Tryz.prog)
/-- The identifier of a fact. -/
def idF (f : Fct) : List UInt8 := digF [102, 97, 99, 116] (encF f)
end Go.Hw
