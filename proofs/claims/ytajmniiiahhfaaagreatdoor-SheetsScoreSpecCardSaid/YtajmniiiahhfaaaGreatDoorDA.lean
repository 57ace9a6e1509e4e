import Derived.Test.YtajmniiiahhfaaaGreatDoorGA
import Derived.Test.YtajmniiiahhfaaaGreatDoorHD
import Derived.Test.YtajmniiiahhfaaaGreatDoorHB
import Derived.Lib.AppendZeros
/-
  The digest: rotation, the tables, walked.
-/
set_option linter.unusedVariables false
set_option linter.unusedSimpArgs false
set_option maxRecDepth 100000
set_option maxHeartbeats 4000000
namespace Go.Hw
open Go
attribute [local irreducible] GO GOl GDp Val Fn Res CellsAt ValE Blk OwnS MapA OwnPf Has
open Go.Proofs (Tryz.prog)
end Go.Hw
/-
  The digest: the permutation, walked.
-/
set_option linter.unusedVariables false
set_option linter.unusedSimpArgs false
set_option maxRecDepth 100000
set_option maxHeartbeats 40000000
namespace Go.Hw
open Go
attribute [local irreducible] GO GOl GDp Val Fn Res CellsAt ValE Blk OwnS MapA OwnPf Has rotl roundS
open Go.Proofs (Tryz.prog)
end Go.Hw
/-
  The digest: Grow and Concat of rows of bytes, walked.
-/
set_option linter.unusedVariables false
set_option linter.unusedSimpArgs false
set_option maxRecDepth 100000
set_option maxHeartbeats 4000000
namespace Go.Hw
open Go
open Go.Proofs (Tryz.prog)
attribute [local irreducible] GO GOl GDp Val Fn Res CellsAt ValE Blk OwnS MapA OwnPf Has rotl
end Go.Hw
