import Derived.Test.YtajmniiiahhfaaaGreatDoorUYh1
set_option linter.unusedSimpArgs false
set_option linter.unusedVariables false
set_option maxRecDepth 100000
namespace Go.Proofs.YtajmniiiahhfaaaGreatDoor
open Go Go.ChangeShapes Go.WideShapes Go.RowKit Go.ChangeAt Go.Hw

theorem lacks_holds : Rows.LedgerLacksCardSaid :=
  Claim7.holds_tied_plain_at .later [] [.data, .data, .data] true (true, "fc1efa901843cf6fcd672ed45d83510c7dda17e7008727cfc772e08826ef6c20") false
    lacks_holds_row (fun _ h => by cases h) (by kernel_rfl) (fun _ h => by cases h) ledgerLacks_row_tie rfl ⟨rfl, rfl⟩ (by kernel_rfl) rfl
    (fun f fn hf hfn => by
      obtain rfl : f = 13 := Option.some.inj ((show Tryz.prog.funcNamed "assize/assizelaw08.LedgerLacks" = some 13 by kernel_rfl).symm.trans hf) |>.symm
      obtain rfl : fn = Tryz.f13 := (Option.some.inj (Tryz.func13.symm.trans hfn)).symm
      exact ⟨by kernel_rfl, fun j t ht => by
        rw [Tryz.params13] at ht
        have hm : t ∈ [47, 47] := by simpa using Array.mem_of_getElem? ht
        have hall : ([47, 47].all fun u => !Tryz.prog.wantsStandIn u) = true := by kernel_rfl
        exact (show Tryz.prog.wantsStandIn t = false by simpa using List.all_eq_true.1 hall t hm)⟩)
    (by kernel_rfl)
end Go.Proofs.YtajmniiiahhfaaaGreatDoor
