import Derived.Test.YtajmniiiahhfaaaGreatDoorUYp0
set_option linter.unusedSimpArgs false
set_option linter.unusedVariables false
set_option maxRecDepth 100000
namespace Go.Proofs.YtajmniiiahhfaaaGreatDoor
open Go Go.ChangeShapes Go.WideShapes Go.RowKit Go.ChangeAt Go.Hw
theorem inPlace9 : (Rows.ledgerViewSpecRow.inPlace == Tryz.prog.inPlace 9) = true:=by kernel_rfl
theorem unfollowed9 : (Rows.ledgerViewSpecRow.unfollowed == Tryz.prog.unfollowed 9) = true:=by kernel_rfl
theorem recurses9 : (Rows.ledgerViewSpecRow.recurses == Tryz.prog.recurses 9) = true:=by kernel_rfl
theorem named9 : (Rows.ledgerViewSpecRow.named == Tryz.prog.varsNamed 9) = true:=by kernel_rfl
theorem closed9 : joinedFacts Tryz.prog 9 Tryz.f9 Rows.ledgerViewSpecSpec Rows.ledgerViewSpecRow = true:=by
  unfold joinedFacts
  rw [inPlace9,unfollowed9,recurses9,named9]
  kernel_rfl
theorem wrap9 : Tryz.f9.isWrapper Tryz.prog Rows.ledgerViewSpecRow.wrapper Rows.ledgerViewSpecRow.mainSum:=by unfold Func.isWrapper;first|(rw [if_pos (by decide +kernel)];kernel_rfl)|(rw [if_neg (by decide +kernel)];exact ⟨rfl,rfl⟩)
theorem viewSpec_holds_row : Rows.LedgerViewSpecSaid :=
  OpenClaim.holds_of_wide 9 Tryz.f9 rfl rfl rfl rfl rfl rfl rfl ⟨rfl,rfl,rfl,rfl,rfl⟩ rfl rfl rfl rfl rfl (by kernel_rfl) Tryz.func9 closed9
    (of_decide_eq_true (by kernel_rfl)) wrap9
    (fun os started H enc _ => lifted9 os started H enc)
end Go.Proofs.YtajmniiiahhfaaaGreatDoor
