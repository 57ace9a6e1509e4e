import Derived.Test.YtajmniiiahhfaaaGreatDoorUYn0
set_option linter.unusedSimpArgs false
set_option linter.unusedVariables false
set_option maxRecDepth 100000
namespace Go.Proofs.YtajmniiiahhfaaaGreatDoor
open Go Go.ChangeShapes Go.WideShapes Go.RowKit Go.ChangeAt Go.Hw
theorem inPlace5 : (Rows.sheetsGamesSpecRow.inPlace == Tryz.prog.inPlace 5) = true := by kernel_rfl
theorem unfollowed5 : (Rows.sheetsGamesSpecRow.unfollowed == Tryz.prog.unfollowed 5) = true := by kernel_rfl
theorem recurses5 : (Rows.sheetsGamesSpecRow.recurses == Tryz.prog.recurses 5) = true := by kernel_rfl
theorem named5 : (Rows.sheetsGamesSpecRow.named == Tryz.prog.varsNamed 5) = true := by kernel_rfl
theorem closed5 : joinedFacts Tryz.prog 5 Tryz.f5 Rows.sheetsGamesSpecSpec Rows.sheetsGamesSpecRow = true := by
  unfold joinedFacts
  rw [inPlace5, unfollowed5, recurses5, named5]
  kernel_rfl
theorem wrap5 : Tryz.f5.isWrapper Tryz.prog Rows.sheetsGamesSpecRow.wrapper Rows.sheetsGamesSpecRow.mainSum := by unfold Func.isWrapper; first | (rw [if_pos (by decide +kernel)]; kernel_rfl) | (rw [if_neg (by decide +kernel)]; exact ⟨rfl, rfl⟩)
theorem gamesSpec_holds_row : Rows.SheetsGamesSpecSaid :=
  OpenClaim.holds_of_wide 5 Tryz.f5 rfl rfl rfl rfl rfl rfl rfl ⟨rfl, rfl, rfl, rfl, rfl⟩ rfl rfl rfl rfl rfl (by kernel_rfl) Tryz.func5 closed5
    (of_decide_eq_true (by kernel_rfl)) wrap5
    (fun os started H enc _ => lifted5 os started H enc)
end Go.Proofs.YtajmniiiahhfaaaGreatDoor
