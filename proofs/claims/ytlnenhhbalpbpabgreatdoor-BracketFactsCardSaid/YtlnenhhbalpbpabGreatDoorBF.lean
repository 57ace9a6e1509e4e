import Derived.Test.YtlnenhhbalpbpabGreatDoorBE
import Derived.Test.YtlnenhhbalpbpabGreatDoorBC
set_option linter.all false
set_option maxRecDepth 100000
set_option maxHeartbeats 8000000
namespace Go.Hw
open Go
attribute [local irreducible] GO GOl GDp Val Fn Res At Fx Blk By Dk Cl Has Yl
open Go.Proofs (Tryz.prog)
end Go.Hw
namespace Go.Hw
open Go
attribute [local irreducible] GO GOl GDp Val Fn Res At Fx Blk By Dk Cl Has Yl
open Go.Proofs (Tryz.prog)
end Go.Hw
namespace Go.Hw
open Go
attribute [local irreducible] GO GOl GDp Val Fn Res At Fx Blk By Dk Cl Has Yl
open Go.Proofs (Tryz.prog)
end Go.Hw
