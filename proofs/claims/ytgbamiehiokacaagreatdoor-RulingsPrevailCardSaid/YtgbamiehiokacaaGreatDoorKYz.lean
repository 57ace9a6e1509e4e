import Derived.Test.YtgbamiehiokacaaGreatDoorKY8
set_option linter.unusedVariables false
set_option maxRecDepth 100000
namespace Go.Proofs.YtgbamiehiokacaaGreatDoor
open Go Go.ChangeShapes Go.WideShapes Go.RowKit Go.ChangeAt Go.Hw
theorem andB {a b : Bool} (h : a = true) (k : b = true) : (a && b) = true:=by rw [h,k];rfl
theorem Csa : (laidOutB Tryz.prog) = true:=by kernel_rfl
theorem Qq : (mapsRowed Tryz.prog) = true:=by kernel_rfl
theorem Qj : ((Tryz.prog.stops == [])) = true:=by kernel_rfl
theorem Qy : ((Tryz.prog.stopKnobs == [])) = true:=by kernel_rfl
theorem Ra : (Tryz.prog.stopsHeard) = true:=by kernel_rfl
theorem Rg : (Tryz.prog.mayEnter) = true:=by kernel_rfl
end Go.Proofs.YtgbamiehiokacaaGreatDoor
