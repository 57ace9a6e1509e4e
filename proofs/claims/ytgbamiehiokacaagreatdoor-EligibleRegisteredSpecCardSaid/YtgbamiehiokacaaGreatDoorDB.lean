import Derived.Test.YtgbamiehiokacaaGreatDoorDA
import Derived.Test.YtgbamiehiokacaaGreatDoorHD
import Derived.Test.YtgbamiehiokacaaGreatDoorGC
import Derived.Test.YtgbamiehiokacaaGreatDoorHwXd
set_option linter.all false
set_option maxRecDepth 100000
set_option maxHeartbeats 40000000
namespace Go.Hw
open Go
attribute [local irreducible] GO GOl GDp Val Fn Res CellsAt ValE Blk OwnS MapA OwnPf Has rotl permS absS outT blkS endS
open Go.Proofs (Tryz.prog)
end Go.Hw
set_option maxHeartbeats 8000000
namespace Go.Hw
open Go
attribute [local irreducible] GO GOl GDp Val Fn Res CellsAt ValE Blk OwnS MapA OwnPf Has sumF
open Go.Proofs (Tryz.prog)
def idF (f:Fct):List UInt8:=digF [102,97,99,116] (encF f)
end Go.Hw
