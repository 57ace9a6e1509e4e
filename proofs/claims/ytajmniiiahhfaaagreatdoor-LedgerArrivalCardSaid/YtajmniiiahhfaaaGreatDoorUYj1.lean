import Derived.Test.YtajmniiiahhfaaaGreatDoorUYj0
set_option linter.unusedSimpArgs false
set_option linter.unusedVariables false
set_option maxRecDepth 100000
namespace Go.Proofs.YtajmniiiahhfaaaGreatDoor
open Go Go.ChangeShapes Go.WideShapes Go.RowKit Go.ChangeAt Go.Hw
theorem inPlace8 : (Rows.ledgerArrivalRow.inPlace == Tryz.prog.inPlace 8) = true := by kernel_rfl
theorem unfollowed8 : (Rows.ledgerArrivalRow.unfollowed == Tryz.prog.unfollowed 8) = true := by kernel_rfl
theorem recurses8 : (Rows.ledgerArrivalRow.recurses == Tryz.prog.recurses 8) = true := by kernel_rfl
theorem named8 : (Rows.ledgerArrivalRow.named == Tryz.prog.varsNamed 8) = true := by kernel_rfl
theorem closed8 : joinedFacts Tryz.prog 8 Tryz.f8 Rows.ledgerArrivalSpec Rows.ledgerArrivalRow = true := by
  unfold joinedFacts
  rw [inPlace8, unfollowed8, recurses8, named8]
  kernel_rfl
theorem wrap8 : Tryz.f8.isWrapper Tryz.prog Rows.ledgerArrivalRow.wrapper Rows.ledgerArrivalRow.mainSum := by unfold Func.isWrapper; first | (rw [if_pos (by decide +kernel)]; kernel_rfl) | (rw [if_neg (by decide +kernel)]; exact ⟨rfl, rfl⟩)
theorem arrival_holds_row : Rows.LedgerArrivalSaid :=
  OpenClaim.holds_of_wide 8 Tryz.f8 rfl rfl rfl rfl rfl rfl rfl ⟨rfl, rfl, rfl, rfl, rfl⟩ rfl rfl rfl rfl rfl (by kernel_rfl) Tryz.func8 closed8
    (of_decide_eq_true (by kernel_rfl)) wrap8
    (fun os started H enc _ => lifted8 os started H enc)
end Go.Proofs.YtajmniiiahhfaaaGreatDoor
