import Derived.Test.YtajmniiiahhfaaaGreatDoorUYh0
set_option linter.unusedSimpArgs false
set_option linter.unusedVariables false
set_option maxRecDepth 100000
namespace Go.Proofs.YtajmniiiahhfaaaGreatDoor
open Go Go.ChangeShapes Go.WideShapes Go.RowKit Go.ChangeAt Go.Hw

theorem inPlace13 : (Rows.ledgerLacksRow.inPlace == Tryz.prog.inPlace 13) = true := by kernel_rfl
theorem unfollowed13 : (Rows.ledgerLacksRow.unfollowed == Tryz.prog.unfollowed 13) = true := by kernel_rfl
theorem recurses13 : (Rows.ledgerLacksRow.recurses == Tryz.prog.recurses 13) = true := by kernel_rfl
theorem named13 : (Rows.ledgerLacksRow.named == Tryz.prog.varsNamed 13) = true := by kernel_rfl
theorem closed13 : joinedFacts Tryz.prog 13 Tryz.f13 Rows.ledgerLacksSpec Rows.ledgerLacksRow = true := by
  unfold joinedFacts
  rw [inPlace13, unfollowed13, recurses13, named13]
  kernel_rfl
theorem wrap13 : Tryz.f13.isWrapper Tryz.prog Rows.ledgerLacksRow.wrapper Rows.ledgerLacksRow.mainSum := by unfold Func.isWrapper; first | (rw [if_pos (by decide +kernel)]; kernel_rfl) | (rw [if_neg (by decide +kernel)]; exact ⟨rfl, rfl⟩)

theorem lacks_holds_row : Rows.LedgerLacksSaid :=
  OpenClaim.holds_of_wide 13 Tryz.f13 rfl rfl rfl rfl rfl rfl rfl ⟨rfl, rfl, rfl, rfl, rfl⟩ rfl rfl rfl rfl rfl (by kernel_rfl) Tryz.func13 closed13
    (of_decide_eq_true (by kernel_rfl)) wrap13
    (fun os started H enc _ => lifted13 os started H enc)

end Go.Proofs.YtajmniiiahhfaaaGreatDoor
