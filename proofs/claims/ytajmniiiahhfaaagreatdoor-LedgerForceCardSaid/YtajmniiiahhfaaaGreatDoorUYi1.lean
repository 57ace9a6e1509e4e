import Derived.Test.YtajmniiiahhfaaaGreatDoorUYi0
set_option linter.unusedSimpArgs false
set_option linter.unusedVariables false
set_option maxRecDepth 100000
namespace Go.Proofs.YtajmniiiahhfaaaGreatDoor
open Go Go.ChangeShapes Go.WideShapes Go.RowKit Go.ChangeAt Go.Hw
theorem inPlace7 : (Rows.ledgerForceRow.inPlace == Tryz.prog.inPlace 7) = true := by kernel_rfl
theorem unfollowed7 : (Rows.ledgerForceRow.unfollowed == Tryz.prog.unfollowed 7) = true := by kernel_rfl
theorem recurses7 : (Rows.ledgerForceRow.recurses == Tryz.prog.recurses 7) = true := by kernel_rfl
theorem named7 : (Rows.ledgerForceRow.named == Tryz.prog.varsNamed 7) = true := by kernel_rfl
theorem closed7 : joinedFacts Tryz.prog 7 Tryz.f7 Rows.ledgerForceSpec Rows.ledgerForceRow = true := by
  unfold joinedFacts
  rw [inPlace7, unfollowed7, recurses7, named7]
  kernel_rfl
theorem wrap7 : Tryz.f7.isWrapper Tryz.prog Rows.ledgerForceRow.wrapper Rows.ledgerForceRow.mainSum := by unfold Func.isWrapper; first | (rw [if_pos (by decide +kernel)]; kernel_rfl) | (rw [if_neg (by decide +kernel)]; exact ⟨rfl, rfl⟩)
theorem force_holds_row : Rows.LedgerForceSaid :=
  OpenClaim.holds_of_wide 7 Tryz.f7 rfl rfl rfl rfl rfl rfl rfl ⟨rfl, rfl, rfl, rfl, rfl⟩ rfl rfl rfl rfl rfl (by kernel_rfl) Tryz.func7 closed7
    (of_decide_eq_true (by kernel_rfl)) wrap7
    (fun os started H enc _ => lifted7 os started H enc)
end Go.Proofs.YtajmniiiahhfaaaGreatDoor
