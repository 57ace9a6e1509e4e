import Derived.Test.YtlnenhhbalpbpabGreatDoorGB
import Derived.Test.YtlnenhhbalpbpabGreatDoorLR2s
set_option linter.all false
set_option maxRecDepth 100000
set_option maxHeartbeats 4000000
namespace Go.Hw
open Go
attribute [local irreducible] GO GOl GDp Val Fn Res At Fx Blk By Dk Cl Has
open Go.Proofs (Tryz.prog)
end Go.Hw
namespace Go.Hw
open Go
attribute [local irreducible] GO GOl GDp Val Fn Res At Fx Blk By Dk Cl Has
open Go.Proofs (Tryz.prog)
end Go.Hw
