import Derived.Test.YtgbamiehiokacaaGreatDoorEB
import Derived.Test.YtgbamiehiokacaaGreatDoorHD
import Derived.Test.YtgbamiehiokacaaGreatDoorDB
import Derived.Test.YtgbamiehiokacaaGreatDoorGC
set_option linter.all false
set_option maxRecDepth 100000
set_option maxHeartbeats 8000000
namespace Go.Hw
open Go
attribute [local irreducible] GO GOl GDp Val Fn Res CellsAt ValE Blk OwnS MapA OwnPf Has Yl
open Go.Proofs (Tryz.prog)
end Go.Hw
namespace Go.Hw
open Go
attribute [local irreducible] GO GOl GDp Val Fn Res CellsAt ValE Blk OwnS MapA OwnPf Has Yl
open Go.Proofs (Tryz.prog)
open Classical in
noncomputable def knownE (l:List Fct) (k:Int):List Fct×Int:=if ledE l≠0 then ([],ledE l) else if ¬ (0≤k∧k≤1048576) then ([],1) else (knownL l k,0)
end Go.Hw
namespace Go.Hw
open Go
attribute [local irreducible] GO GOl GDp Val Fn Res CellsAt ValE Blk OwnS MapA OwnPf Has Yl idF
open Go.Proofs (Tryz.prog)
open Classical in
noncomputable def missE (a b:List Fct):List (List UInt8)×Int:=if ledE a≠0 then ([],ledE a) else if ledE b≠0 then ([],ledE b) else ((missL a b).map idF,0)
end Go.Hw
