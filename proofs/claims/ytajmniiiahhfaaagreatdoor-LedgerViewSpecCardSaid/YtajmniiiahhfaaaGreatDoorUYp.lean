import Derived.Test.YtajmniiiahhfaaaGreatDoorUYp1
set_option linter.unusedSimpArgs false
set_option linter.unusedVariables false
set_option maxRecDepth 100000
namespace Go.Proofs.YtajmniiiahhfaaaGreatDoor
open Go Go.ChangeShapes Go.WideShapes Go.RowKit Go.ChangeAt Go.Hw
theorem wf9 : Rows.ledgerViewSpecRow.wfByText (OpenSpec.ofChange Rows.ledgerViewSpecSpec) = true:=by kernel_rfl
theorem main9 : Tryz.prog.mainIs = some (true, "fc1efa901843cf6fcd672ed45d83510c7dda17e7008727cfc772e08826ef6c20".toList):=by kernel_rfl
theorem fn9 : Tryz.prog.funcNamed "assize/assizelaw08.LedgerViewSpec" = some 9:=by kernel_rfl
theorem looks9 : false = Tryz.prog.looks []:=by kernel_rfl
theorem goes9 : false = Rows.ledgerViewSpecRow.goesBy Tryz.prog:=by kernel_rfl
theorem viewSpec_holds : Rows.LedgerViewSpecCardSaid :=
  Claim7.holds_tied_plain_at .later [] [.data,.data,.data] true (true, "fc1efa901843cf6fcd672ed45d83510c7dda17e7008727cfc772e08826ef6c20") false
    viewSpec_holds_row (fun _ h => by cases h) wf9 (fun _ h => by cases h) ledgerViewSpec_row_tie rfl ⟨rfl,rfl⟩ main9 rfl
    (fun f fn hf hfn => by
      obtain rfl : f = 9:=Option.some.inj (fn9.symm.trans hf) |>.symm
      obtain rfl : fn = Tryz.f9:=(Option.some.inj (Tryz.func9.symm.trans hfn)).symm
      exact ⟨looks9,fun j t ht => by
        rw [Tryz.params9] at ht
        have hm : t ∈ [47,3,3]:=by simpa using Array.mem_of_getElem? ht
        have hall : ([47,3,3].all fun u => !Tryz.prog.wantsStandIn u) = true:=by kernel_rfl
        exact (show Tryz.prog.wantsStandIn t = false by simpa using List.all_eq_true.1 hall t hm)⟩)
    goes9
end Go.Proofs.YtajmniiiahhfaaaGreatDoor
