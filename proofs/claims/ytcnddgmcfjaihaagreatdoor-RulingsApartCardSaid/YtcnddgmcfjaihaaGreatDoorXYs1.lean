import Derived.Test.YtcnddgmcfjaihaaGreatDoorXYs0
set_option linter.unusedVariables false
set_option maxRecDepth 100000
namespace Go.Proofs.YtcnddgmcfjaihaaGreatDoor
open Go Go.ChangeShapes Go.WideShapes Go.RowKit Go.ChangeAt Go.Hw
theorem inPlace8 : (Rows.rulingsApartRow.inPlace == Tryz.prog.inPlace 8) = true:=by kernel_rfl
theorem unfollowed8 : (Rows.rulingsApartRow.unfollowed == Tryz.prog.unfollowed 8) = true:=by kernel_rfl
theorem recurses8 : (Rows.rulingsApartRow.recurses == Tryz.prog.recurses 8) = true:=by kernel_rfl
theorem named8 : (Rows.rulingsApartRow.named == Tryz.prog.varsNamed 8) = true:=by kernel_rfl
theorem closed8 : joinedFacts Tryz.prog 8 Tryz.f8 Rows.rulingsApartSpec Rows.rulingsApartRow = true:=by
  unfold joinedFacts
  rw [inPlace8,unfollowed8,recurses8,named8]
  kernel_rfl
theorem wrap8 : Tryz.f8.isWrapper Tryz.prog Rows.rulingsApartRow.wrapper Rows.rulingsApartRow.mainSum:=by unfold Func.isWrapper;first|(rw [if_pos (by decide +kernel)];kernel_rfl)|(rw [if_neg (by decide +kernel)];exact ⟨rfl,rfl⟩)
theorem apart10_holds_row : Rows.RulingsApartSaid :=
  OpenClaim.holds_of_wide 8 Tryz.f8 rfl rfl rfl rfl rfl rfl rfl ⟨rfl,rfl,rfl,rfl,rfl⟩ rfl rfl rfl rfl rfl (by kernel_rfl) Tryz.func8 closed8
    (of_decide_eq_true (by kernel_rfl)) wrap8
    (fun os started H enc _ => lifted8 os started H enc)
end Go.Proofs.YtcnddgmcfjaihaaGreatDoor
