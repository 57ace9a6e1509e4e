import Derived.Test.YtlnenhhbalpbpaaGreatDoorGB
set_option linter.unusedVariables false
set_option linter.unusedSimpArgs false
set_option maxRecDepth 100000
set_option maxHeartbeats 4000000
namespace Go.Hw
open Go
attribute [local irreducible] GO GOl GDp Val Fn Res CellsAt ValE Blk OwnS MapA OwnPf Has
open Go.Proofs (Tryz.prog)
end Go.Hw
