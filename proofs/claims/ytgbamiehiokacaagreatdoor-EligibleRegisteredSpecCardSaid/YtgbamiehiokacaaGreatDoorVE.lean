import Derived.Test.YtgbamiehiokacaaGreatDoorVC
import Derived.Test.YtgbamiehiokacaaGreatDoorHD
set_option linter.all false
set_option maxRecDepth 100000
set_option maxHeartbeats 8000000
namespace Go.Hw
open Go
attribute [local irreducible] GO GOl GDp Val Fn Res CellsAt ValE Blk OwnS MapA OwnPf Has Yl SepA forceL
open Go.Proofs (Tryz.prog)
end Go.Hw
namespace Go.Hw
open Go
attribute [local irreducible] GO GOl GDp Val Fn Res CellsAt ValE Blk OwnS MapA OwnPf Has Yl SepA forceL mergeU
open Go.Proofs (Tryz.prog)
section
variable {C:Ctx} {ds:List Deferred} {l:Sl} {Es:List Asn} {h:Ro} {K:List Item} {G:Value→List Asn→Ro→Prop} {ty:TypeId} {pos:String} {aft:Array Edge} {gd:Option (Nat×Bool)} {dst:Option Tmp} {d:Tmp}
end
end Go.Hw
