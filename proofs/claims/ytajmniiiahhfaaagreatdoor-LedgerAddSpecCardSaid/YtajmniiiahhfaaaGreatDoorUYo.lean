import Derived.Test.YtajmniiiahhfaaaGreatDoorUYo1
set_option linter.unusedSimpArgs false
set_option linter.unusedVariables false
set_option maxRecDepth 100000
namespace Go.Proofs.YtajmniiiahhfaaaGreatDoor
open Go Go.ChangeShapes Go.WideShapes Go.RowKit Go.ChangeAt Go.Hw
theorem wf12 : Rows.ledgerAddSpecRow.wfByText (OpenSpec.ofChange Rows.ledgerAddSpecSpec) = true:=by kernel_rfl
theorem main12 : Tryz.prog.mainIs = some (true, "fc1efa901843cf6fcd672ed45d83510c7dda17e7008727cfc772e08826ef6c20".toList):=by kernel_rfl
theorem fn12 : Tryz.prog.funcNamed "assize/assizelaw08.LedgerAddSpec" = some 12:=by kernel_rfl
theorem looks12 : false = Tryz.prog.looks []:=by kernel_rfl
theorem goes12 : false = Rows.ledgerAddSpecRow.goesBy Tryz.prog:=by kernel_rfl
theorem addSpec_holds : Rows.LedgerAddSpecCardSaid :=
  Claim7.holds_tied_plain_at .later [] [.data,.data,.data] true (true, "fc1efa901843cf6fcd672ed45d83510c7dda17e7008727cfc772e08826ef6c20") false
    addSpec_holds_row (fun _ h => by cases h) wf12 (fun _ h => by cases h) ledgerAddSpec_row_tie rfl ⟨rfl,rfl⟩ main12 rfl
    (fun f fn hf hfn => by
      obtain rfl : f = 12:=Option.some.inj (fn12.symm.trans hf) |>.symm
      obtain rfl : fn = Tryz.f12:=(Option.some.inj (Tryz.func12.symm.trans hfn)).symm
      exact ⟨looks12,fun j t ht => by
        rw [Tryz.params12] at ht
        have hm : t ∈ [47,47,73]:=by simpa using Array.mem_of_getElem? ht
        have hall : ([47,47,73].all fun u => !Tryz.prog.wantsStandIn u) = true:=by kernel_rfl
        exact (show Tryz.prog.wantsStandIn t = false by simpa using List.all_eq_true.1 hall t hm)⟩)
    goes12
end Go.Proofs.YtajmniiiahhfaaaGreatDoor
