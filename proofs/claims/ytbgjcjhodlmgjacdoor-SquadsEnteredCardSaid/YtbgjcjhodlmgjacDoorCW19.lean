import Derived.Test.YtbgjcjhodlmgjacDoorWB
set_option linter.unusedVariables false
set_option linter.unusedSimpArgs false
set_option maxRecDepth 100000
set_option maxHeartbeats 1600000
namespace Go.Hw
open Go
attribute [local irreducible] GO GOl GDp Val Fn Res CellsAt ValE Blk OwnS MapA RngA
open Go.Proofs (Tryd.prog)

end Go.Hw
