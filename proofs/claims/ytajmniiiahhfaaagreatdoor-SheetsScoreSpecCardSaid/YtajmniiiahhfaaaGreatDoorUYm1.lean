import Derived.Test.YtajmniiiahhfaaaGreatDoorUYm0
set_option linter.unusedSimpArgs false
set_option linter.unusedVariables false
set_option maxRecDepth 100000
namespace Go.Proofs.YtajmniiiahhfaaaGreatDoor
open Go Go.ChangeShapes Go.WideShapes Go.RowKit Go.ChangeAt Go.Hw
theorem inPlace4 : (Rows.sheetsScoreSpecRow.inPlace == Tryz.prog.inPlace 4) = true := by kernel_rfl
theorem unfollowed4 : (Rows.sheetsScoreSpecRow.unfollowed == Tryz.prog.unfollowed 4) = true := by kernel_rfl
theorem recurses4 : (Rows.sheetsScoreSpecRow.recurses == Tryz.prog.recurses 4) = true := by kernel_rfl
theorem named4 : (Rows.sheetsScoreSpecRow.named == Tryz.prog.varsNamed 4) = true := by kernel_rfl
theorem closed4 : joinedFacts Tryz.prog 4 Tryz.f4 Rows.sheetsScoreSpecSpec Rows.sheetsScoreSpecRow = true := by
  unfold joinedFacts
  rw [inPlace4, unfollowed4, recurses4, named4]
  kernel_rfl
theorem wrap4 : Tryz.f4.isWrapper Tryz.prog Rows.sheetsScoreSpecRow.wrapper Rows.sheetsScoreSpecRow.mainSum := by unfold Func.isWrapper; first | (rw [if_pos (by decide +kernel)]; kernel_rfl) | (rw [if_neg (by decide +kernel)]; exact ⟨rfl, rfl⟩)
theorem scoreSpec_holds_row : Rows.SheetsScoreSpecSaid :=
  OpenClaim.holds_of_wide 4 Tryz.f4 rfl rfl rfl rfl rfl rfl rfl ⟨rfl, rfl, rfl, rfl, rfl⟩ rfl rfl rfl rfl rfl (by kernel_rfl) Tryz.func4 closed4
    (of_decide_eq_true (by kernel_rfl)) wrap4
    (fun os started H enc _ => lifted4 os started H enc)
end Go.Proofs.YtajmniiiahhfaaaGreatDoor
