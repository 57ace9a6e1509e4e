import Derived.Test.YtlnenhhbalpbpaaGreatDoorGA
import Derived.Test.YtlnenhhbalpbpaaGreatDoorHD
import Derived.Test.YtlnenhhbalpbpaaGreatDoorHB
import Derived.Lib.AppendZeros
import Derived.Test.YtlnenhhbalpbpaaGreatDoorGC
import Derived.Test.YtlnenhhbalpbpaaGreatDoorHwXd
set_option linter.all false
set_option maxRecDepth 100000
set_option maxHeartbeats 4000000
namespace Go.Hw
open Go
attribute [local irreducible] GO GOl GDp Val Fn Res Ab Du Blk Bd Cd Bf Has
open Go.Proofs.Tryz (prog)
end Go.Hw
set_option maxHeartbeats 40000000
namespace Go.Hw
open Go
attribute [local irreducible] GO GOl GDp Val Fn Res Ab Du Blk Bd Cd Bf Has rotl Iia
open Go.Proofs.Tryz (prog)
end Go.Hw
set_option maxHeartbeats 4000000
namespace Go.Hw
open Go
open Go.Proofs.Tryz (prog)
attribute [local irreducible] GO GOl GDp Val Fn Res Ab Du Blk Bd Cd Bf Has rotl
end Go.Hw
set_option maxHeartbeats 40000000
namespace Go.Hw
open Go
attribute [local irreducible] GO GOl GDp Val Fn Res Ab Du Blk Bd Cd Bf Has rotl permS absS outT blkS endS
open Go.Proofs.Tryz (prog)
end Go.Hw
set_option maxHeartbeats 8000000
namespace Go.Hw
open Go
attribute [local irreducible] GO GOl GDp Val Fn Res Ab Du Blk Bd Cd Bf Has sumF
open Go.Proofs.Tryz (prog)
def idF (f:Fct):List UInt8:=digF [102,97,99,116] (Mc f)
end Go.Hw
