import Derived.Test.YtajmniiiahhfaaaGreatDoorUYf0
set_option linter.unusedSimpArgs false
set_option linter.unusedVariables false
set_option maxRecDepth 100000
namespace Go.Proofs.YtajmniiiahhfaaaGreatDoor
open Go Go.ChangeShapes Go.WideShapes Go.RowKit Go.ChangeAt Go.Hw

theorem inPlace11 : (Rows.ledgerDaysRow.inPlace == Tryz.prog.inPlace 11) = true := by kernel_rfl
theorem unfollowed11 : (Rows.ledgerDaysRow.unfollowed == Tryz.prog.unfollowed 11) = true := by kernel_rfl
theorem recurses11 : (Rows.ledgerDaysRow.recurses == Tryz.prog.recurses 11) = true := by kernel_rfl
theorem named11 : (Rows.ledgerDaysRow.named == Tryz.prog.varsNamed 11) = true := by kernel_rfl
theorem closed11 : joinedFacts Tryz.prog 11 Tryz.f11 Rows.ledgerDaysSpec Rows.ledgerDaysRow = true := by
  unfold joinedFacts
  rw [inPlace11, unfollowed11, recurses11, named11]
  kernel_rfl
theorem wrap11 : Tryz.f11.isWrapper Tryz.prog Rows.ledgerDaysRow.wrapper Rows.ledgerDaysRow.mainSum := by unfold Func.isWrapper; first | (rw [if_pos (by decide +kernel)]; kernel_rfl) | (rw [if_neg (by decide +kernel)]; exact ⟨rfl, rfl⟩)

theorem days_holds_row : Rows.LedgerDaysSaid :=
  OpenClaim.holds_of_wide 11 Tryz.f11 rfl rfl rfl rfl rfl rfl rfl ⟨rfl, rfl, rfl, rfl, rfl⟩ rfl rfl rfl rfl rfl (by kernel_rfl) Tryz.func11 closed11
    (of_decide_eq_true (by kernel_rfl)) wrap11
    (fun os started H enc _ => lifted11 os started H enc)

end Go.Proofs.YtajmniiiahhfaaaGreatDoor
