import Derived.Test.YtajmniiiahhfaaaGreatDoorUYg0
set_option linter.unusedSimpArgs false
set_option linter.unusedVariables false
set_option maxRecDepth 100000
namespace Go.Proofs.YtajmniiiahhfaaaGreatDoor
open Go Go.ChangeShapes Go.WideShapes Go.RowKit Go.ChangeAt Go.Hw

theorem inPlace10 : (Rows.ledgerLaterRow.inPlace == Tryz.prog.inPlace 10) = true := by kernel_rfl
theorem unfollowed10 : (Rows.ledgerLaterRow.unfollowed == Tryz.prog.unfollowed 10) = true := by kernel_rfl
theorem recurses10 : (Rows.ledgerLaterRow.recurses == Tryz.prog.recurses 10) = true := by kernel_rfl
theorem named10 : (Rows.ledgerLaterRow.named == Tryz.prog.varsNamed 10) = true := by kernel_rfl
theorem closed10 : joinedFacts Tryz.prog 10 Tryz.f10 Rows.ledgerLaterSpec Rows.ledgerLaterRow = true := by
  unfold joinedFacts
  rw [inPlace10, unfollowed10, recurses10, named10]
  kernel_rfl
theorem wrap10 : Tryz.f10.isWrapper Tryz.prog Rows.ledgerLaterRow.wrapper Rows.ledgerLaterRow.mainSum := by unfold Func.isWrapper; first | (rw [if_pos (by decide +kernel)]; kernel_rfl) | (rw [if_neg (by decide +kernel)]; exact ⟨rfl, rfl⟩)

theorem later_holds_row : Rows.LedgerLaterSaid :=
  OpenClaim.holds_of_wide 10 Tryz.f10 rfl rfl rfl rfl rfl rfl rfl ⟨rfl, rfl, rfl, rfl, rfl⟩ rfl rfl rfl rfl rfl (by kernel_rfl) Tryz.func10 closed10
    (of_decide_eq_true (by kernel_rfl)) wrap10
    (fun os started H enc _ => lifted10 os started H enc)

end Go.Proofs.YtajmniiiahhfaaaGreatDoor
