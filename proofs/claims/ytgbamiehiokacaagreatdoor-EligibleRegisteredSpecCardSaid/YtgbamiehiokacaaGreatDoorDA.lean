import Derived.Test.YtgbamiehiokacaaGreatDoorGA
import Derived.Test.YtgbamiehiokacaaGreatDoorHD
import Derived.Test.YtgbamiehiokacaaGreatDoorHB
import Derived.Lib.AppendZeros
set_option linter.all false
set_option maxRecDepth 100000
set_option maxHeartbeats 4000000
namespace Go.Hw
open Go
attribute [local irreducible] GO GOl GDp Val Fn Res CellsAt ValE Blk OwnS MapA OwnPf Has
open Go.Proofs (Tryz.prog)
end Go.Hw
set_option maxHeartbeats 40000000
namespace Go.Hw
open Go
attribute [local irreducible] GO GOl GDp Val Fn Res CellsAt ValE Blk OwnS MapA OwnPf Has rotl roundS
open Go.Proofs (Tryz.prog)
end Go.Hw
set_option maxHeartbeats 4000000
namespace Go.Hw
open Go
open Go.Proofs (Tryz.prog)
attribute [local irreducible] GO GOl GDp Val Fn Res CellsAt ValE Blk OwnS MapA OwnPf Has rotl
end Go.Hw
