import Derived.Test.YtajmniiiahhfaaaGreatDoorUYk0
set_option linter.unusedSimpArgs false
set_option linter.unusedVariables false
set_option maxRecDepth 100000
namespace Go.Proofs.YtajmniiiahhfaaaGreatDoor
open Go Go.ChangeShapes Go.WideShapes Go.RowKit Go.ChangeAt Go.Hw
theorem inPlace6 : (Rows.ledgerNewSpecRow.inPlace == Tryz.prog.inPlace 6) = true := by kernel_rfl
theorem unfollowed6 : (Rows.ledgerNewSpecRow.unfollowed == Tryz.prog.unfollowed 6) = true := by kernel_rfl
theorem recurses6 : (Rows.ledgerNewSpecRow.recurses == Tryz.prog.recurses 6) = true := by kernel_rfl
theorem named6 : (Rows.ledgerNewSpecRow.named == Tryz.prog.varsNamed 6) = true := by kernel_rfl
theorem closed6 : joinedFacts Tryz.prog 6 Tryz.f6 Rows.ledgerNewSpecSpec Rows.ledgerNewSpecRow = true := by
  unfold joinedFacts
  rw [inPlace6, unfollowed6, recurses6, named6]
  kernel_rfl
theorem wrap6 : Tryz.f6.isWrapper Tryz.prog Rows.ledgerNewSpecRow.wrapper Rows.ledgerNewSpecRow.mainSum := by unfold Func.isWrapper; first | (rw [if_pos (by decide +kernel)]; kernel_rfl) | (rw [if_neg (by decide +kernel)]; exact ⟨rfl, rfl⟩)
theorem newSpec_holds_row : Rows.LedgerNewSpecSaid :=
  OpenClaim.holds_of_wide 6 Tryz.f6 rfl rfl rfl rfl rfl rfl rfl ⟨rfl, rfl, rfl, rfl, rfl⟩ rfl rfl rfl rfl rfl (by kernel_rfl) Tryz.func6 closed6
    (of_decide_eq_true (by kernel_rfl)) wrap6
    (fun os started H enc _ => lifted6 os started H enc)
end Go.Proofs.YtajmniiiahhfaaaGreatDoor
