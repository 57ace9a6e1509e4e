import Derived.Test.YtlnenhhbalpbpaaGreatDoorVC
import Derived.Test.YtlnenhhbalpbpaaGreatDoorHD
set_option linter.all false
set_option maxRecDepth 100000
set_option maxHeartbeats 8000000
namespace Go.Hw
open Go
attribute [local irreducible] GO GOl GDp Val Fn Res Ab Du Blk Bd Cd Bf Has Yl Ik Bn
open Go.Proofs.Tryz (prog)
end Go.Hw
