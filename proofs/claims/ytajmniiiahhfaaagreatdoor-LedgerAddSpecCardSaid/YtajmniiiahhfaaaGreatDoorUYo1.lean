import Derived.Test.YtajmniiiahhfaaaGreatDoorUYo0
set_option linter.unusedSimpArgs false
set_option linter.unusedVariables false
set_option maxRecDepth 100000
namespace Go.Proofs.YtajmniiiahhfaaaGreatDoor
open Go Go.ChangeShapes Go.WideShapes Go.RowKit Go.ChangeAt Go.Hw
theorem inPlace12 : (Rows.ledgerAddSpecRow.inPlace == Tryz.prog.inPlace 12) = true:=by kernel_rfl
theorem unfollowed12 : (Rows.ledgerAddSpecRow.unfollowed == Tryz.prog.unfollowed 12) = true:=by kernel_rfl
theorem recurses12 : (Rows.ledgerAddSpecRow.recurses == Tryz.prog.recurses 12) = true:=by kernel_rfl
theorem named12 : (Rows.ledgerAddSpecRow.named == Tryz.prog.varsNamed 12) = true:=by kernel_rfl
theorem closed12 : joinedFacts Tryz.prog 12 Tryz.f12 Rows.ledgerAddSpecSpec Rows.ledgerAddSpecRow = true:=by
  unfold joinedFacts
  rw [inPlace12,unfollowed12,recurses12,named12]
  kernel_rfl
theorem wrap12 : Tryz.f12.isWrapper Tryz.prog Rows.ledgerAddSpecRow.wrapper Rows.ledgerAddSpecRow.mainSum:=by unfold Func.isWrapper;first|(rw [if_pos (by decide +kernel)];kernel_rfl)|(rw [if_neg (by decide +kernel)];exact ⟨rfl,rfl⟩)
theorem addSpec_holds_row : Rows.LedgerAddSpecSaid :=
  OpenClaim.holds_of_wide 12 Tryz.f12 rfl rfl rfl rfl rfl rfl rfl ⟨rfl,rfl,rfl,rfl,rfl⟩ rfl rfl rfl rfl rfl (by kernel_rfl) Tryz.func12 closed12
    (of_decide_eq_true (by kernel_rfl)) wrap12
    (fun os started H enc _ => lifted12 os started H enc)
end Go.Proofs.YtajmniiiahhfaaaGreatDoor
