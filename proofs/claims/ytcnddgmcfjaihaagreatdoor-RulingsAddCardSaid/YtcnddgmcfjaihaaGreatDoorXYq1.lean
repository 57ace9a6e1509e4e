import Derived.Test.YtcnddgmcfjaihaaGreatDoorXYq0
set_option linter.unusedVariables false
set_option maxRecDepth 100000
namespace Go.Proofs.YtcnddgmcfjaihaaGreatDoor
open Go Go.ChangeShapes Go.WideShapes Go.RowKit Go.ChangeAt Go.Hw
theorem inPlace9 : (Rows.rulingsAddRow.inPlace == Tryz.prog.inPlace 9) = true:=by kernel_rfl
theorem unfollowed9 : (Rows.rulingsAddRow.unfollowed == Tryz.prog.unfollowed 9) = true:=by kernel_rfl
theorem recurses9 : (Rows.rulingsAddRow.recurses == Tryz.prog.recurses 9) = true:=by kernel_rfl
theorem named9 : (Rows.rulingsAddRow.named == Tryz.prog.varsNamed 9) = true:=by kernel_rfl
theorem closed9 : joinedFacts Tryz.prog 9 Tryz.f9 Rows.rulingsAddSpec Rows.rulingsAddRow = true:=by
  unfold joinedFacts
  rw [inPlace9,unfollowed9,recurses9,named9]
  kernel_rfl
theorem wrap9 : Tryz.f9.isWrapper Tryz.prog Rows.rulingsAddRow.wrapper Rows.rulingsAddRow.mainSum:=by unfold Func.isWrapper;first|(rw [if_pos (by decide +kernel)];kernel_rfl)|(rw [if_neg (by decide +kernel)];exact ⟨rfl,rfl⟩)
theorem add10_holds_row : Rows.RulingsAddSaid :=
  OpenClaim.holds_of_wide 9 Tryz.f9 rfl rfl rfl rfl rfl rfl rfl ⟨rfl,rfl,rfl,rfl,rfl⟩ rfl rfl rfl rfl rfl (by kernel_rfl) Tryz.func9 closed9
    (of_decide_eq_true (by kernel_rfl)) wrap9
    (fun os started H enc _ => lifted9 os started H enc)
end Go.Proofs.YtcnddgmcfjaihaaGreatDoor
