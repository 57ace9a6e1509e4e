import Derived.Test.YtlnenhhbalpbpabGreatDoorVC
import Derived.Test.YtlnenhhbalpbpabGreatDoorRA
set_option linter.all false
set_option maxRecDepth 100000
set_option maxHeartbeats 8000000
namespace Go.Hw
open Go
attribute [local irreducible] GO GOl GDp Val Fn Res At Fx Blk By Dk Cl Has Yl Mn Ew
open Go.Proofs (Tryz.prog)
theorem B5a (l:List (Fsh×Fct))(p:Fsh×Fct):fcs (l++[p])=fcs l++[p.2]:=by unfold fcs;rw [List.map_append];rfl
end Go.Hw
