import Derived.Test.YtphlhpbmkejbaabGreatDoorYY
set_option linter.unusedSimpArgs false
set_option linter.unusedVariables false
set_option maxRecDepth 100000
namespace Go.Proofs.YtphlhpbmkejbaabGreatDoor
open Go Go.ChangeShapes Go.WideShapes Go.RowKit Go.ChangeAt Go.Hw
theorem andB {a b : Bool} (h : a = true) (k : b = true) : (a && b) = true:=by rw [h,k];rfl
theorem laidS : (laidOutB Tryz.prog) = true:=by kernel_rfl
theorem rowedS : (mapsRowed Tryz.prog) = true:=by kernel_rfl
theorem stopsS : ((Tryz.prog.stops == [])) = true:=by kernel_rfl
theorem knobsS : ((Tryz.prog.stopKnobs == [])) = true:=by kernel_rfl
theorem heardS : (Tryz.prog.stopsHeard) = true:=by kernel_rfl
theorem enterS : (Tryz.prog.mayEnter) = true:=by kernel_rfl
end Go.Proofs.YtphlhpbmkejbaabGreatDoor
