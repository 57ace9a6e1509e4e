import Derived.Test.YtlnenhhbalpbpaaGreatDoorVC
import Derived.Test.YtlnenhhbalpbpaaGreatDoorRA
import Derived.Test.YtlnenhhbalpbpaaGreatDoorRB
set_option linter.unusedVariables false
set_option linter.unusedSimpArgs false
set_option maxRecDepth 100000
set_option maxHeartbeats 8000000
namespace Go.Hw
open Go
attribute [local irreducible] GO GOl GDp Val Fn Res CellsAt ValE Blk OwnS MapA OwnPf Has Yl SepA forceL
open Go.Proofs (Tryz.prog)
theorem fcs_snoc (l : List (Fsh × Fct)) (p : Fsh × Fct) : fcs (l ++ [p]) = fcs l ++ [p.2]:=by unfold fcs;rw [List.map_append];rfl
end Go.Hw
set_option linter.unusedVariables false
set_option linter.unusedSimpArgs false
set_option maxRecDepth 100000
set_option maxHeartbeats 8000000
namespace Go.Hw
open Go
attribute [local irreducible] GO GOl GDp Val Fn Res CellsAt ValE Blk OwnS MapA OwnPf Has Yl SepA forceL
open Go.Proofs (Tryz.prog)
end Go.Hw
set_option linter.unusedVariables false
set_option linter.unusedSimpArgs false
set_option maxRecDepth 100000
set_option maxHeartbeats 8000000
namespace Go.Hw
open Go
attribute [local irreducible] GO GOl GDp Val Fn Res CellsAt ValE Blk OwnS MapA OwnPf Has Yl SepA forceL
open Go.Proofs (Tryz.prog)
end Go.Hw
