import Derived.Test.YtajmniiiahhfaaaGreatDoorUYl0
set_option linter.unusedSimpArgs false
set_option linter.unusedVariables false
set_option maxRecDepth 100000
namespace Go.Proofs.YtajmniiiahhfaaaGreatDoor
open Go Go.ChangeShapes Go.WideShapes Go.RowKit Go.ChangeAt Go.Hw
theorem inPlace3 : (Rows.sheetsLatestSpecRow.inPlace == Tryz.prog.inPlace 3) = true := by kernel_rfl
theorem unfollowed3 : (Rows.sheetsLatestSpecRow.unfollowed == Tryz.prog.unfollowed 3) = true := by kernel_rfl
theorem recurses3 : (Rows.sheetsLatestSpecRow.recurses == Tryz.prog.recurses 3) = true := by kernel_rfl
theorem named3 : (Rows.sheetsLatestSpecRow.named == Tryz.prog.varsNamed 3) = true := by kernel_rfl
theorem closed3 : joinedFacts Tryz.prog 3 Tryz.f3 Rows.sheetsLatestSpecSpec Rows.sheetsLatestSpecRow = true := by
  unfold joinedFacts
  rw [inPlace3, unfollowed3, recurses3, named3]
  kernel_rfl
theorem wrap3 : Tryz.f3.isWrapper Tryz.prog Rows.sheetsLatestSpecRow.wrapper Rows.sheetsLatestSpecRow.mainSum := by unfold Func.isWrapper; first | (rw [if_pos (by decide +kernel)]; kernel_rfl) | (rw [if_neg (by decide +kernel)]; exact ⟨rfl, rfl⟩)
theorem latestSpec_holds_row : Rows.SheetsLatestSpecSaid :=
  OpenClaim.holds_of_wide 3 Tryz.f3 rfl rfl rfl rfl rfl rfl rfl ⟨rfl, rfl, rfl, rfl, rfl⟩ rfl rfl rfl rfl rfl (by kernel_rfl) Tryz.func3 closed3
    (of_decide_eq_true (by kernel_rfl)) wrap3
    (fun os started H enc _ => lifted3 os started H enc)
end Go.Proofs.YtajmniiiahhfaaaGreatDoor
