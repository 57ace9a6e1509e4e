import Derived.Test.YtbmffdagfjepgaaGreatDoorYX
set_option linter.all false
set_option maxRecDepth 100000
namespace Go.Proofs.YtbmffdagfjepgaaGreatDoor
open Go Go.ChangeShapes Go.WideShapes Go.RowKit Go.ChangeAt Go.Hw
def Fr {a b:Bool}(h:a=true)(k:b=true):(a&&b)=true:=by rw[h,k];rfl
def Anz:(laidOutB Tryz.prog)=true:=by kernel_rfl
def Aj3:(mapsRowed Tryz.prog)=true:=by kernel_rfl
def Aig:((Tryz.prog.stops==[]))=true:=by kernel_rfl
def An2:((Tryz.prog.stopKnobs==[]))=true:=by kernel_rfl
def Apb:(Tryz.prog.stopsHeard)=true:=by kernel_rfl
def Aqg:(Tryz.prog.mayEnter)=true:=by kernel_rfl
end Go.Proofs.YtbmffdagfjepgaaGreatDoor
