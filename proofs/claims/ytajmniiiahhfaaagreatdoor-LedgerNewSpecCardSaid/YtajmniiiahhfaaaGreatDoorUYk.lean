import Derived.Test.YtajmniiiahhfaaaGreatDoorUYk1
set_option linter.unusedSimpArgs false
set_option linter.unusedVariables false
set_option maxRecDepth 100000
namespace Go.Proofs.YtajmniiiahhfaaaGreatDoor
open Go Go.ChangeShapes Go.WideShapes Go.RowKit Go.ChangeAt Go.Hw
theorem wf6 : Rows.ledgerNewSpecRow.wfByText (OpenSpec.ofChange Rows.ledgerNewSpecSpec) = true := by kernel_rfl
theorem main6 : Tryz.prog.mainIs = some (true, "fc1efa901843cf6fcd672ed45d83510c7dda17e7008727cfc772e08826ef6c20".toList) := by kernel_rfl
theorem fn6 : Tryz.prog.funcNamed "assize/assizelaw08.LedgerNewSpec" = some 6 := by kernel_rfl
theorem looks6 : false = Tryz.prog.looks [] := by kernel_rfl
theorem goes6 : false = Rows.ledgerNewSpecRow.goesBy Tryz.prog := by kernel_rfl
theorem newSpec_holds : Rows.LedgerNewSpecCardSaid :=
  Claim7.holds_tied_plain_at .later [] [.data, .data, .data] true (true, "fc1efa901843cf6fcd672ed45d83510c7dda17e7008727cfc772e08826ef6c20") false
    newSpec_holds_row (fun _ h => by cases h) wf6 (fun _ h => by cases h) ledgerNewSpec_row_tie rfl ⟨rfl, rfl⟩ main6 rfl
    (fun f fn hf hfn => by
      obtain rfl : f = 6 := Option.some.inj (fn6.symm.trans hf) |>.symm
      obtain rfl : fn = Tryz.f6 := (Option.some.inj (Tryz.func6.symm.trans hfn)).symm
      exact ⟨looks6, fun j t ht => by
        rw [Tryz.params6] at ht
        have hm : t ∈ [22] := by simpa using Array.mem_of_getElem? ht
        have hall : ([22].all fun u => !Tryz.prog.wantsStandIn u) = true := by kernel_rfl
        exact (show Tryz.prog.wantsStandIn t = false by simpa using List.all_eq_true.1 hall t hm)⟩)
    goes6
end Go.Proofs.YtajmniiiahhfaaaGreatDoor
