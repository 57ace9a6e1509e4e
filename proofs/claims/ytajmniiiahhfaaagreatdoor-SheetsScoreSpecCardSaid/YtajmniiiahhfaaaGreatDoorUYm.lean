import Derived.Test.YtajmniiiahhfaaaGreatDoorUYm1
set_option linter.unusedSimpArgs false
set_option linter.unusedVariables false
set_option maxRecDepth 100000
namespace Go.Proofs.YtajmniiiahhfaaaGreatDoor
open Go Go.ChangeShapes Go.WideShapes Go.RowKit Go.ChangeAt Go.Hw
theorem wf4 : Rows.sheetsScoreSpecRow.wfByText (OpenSpec.ofChange Rows.sheetsScoreSpecSpec) = true := by kernel_rfl
theorem main4 : Tryz.prog.mainIs = some (true, "fc1efa901843cf6fcd672ed45d83510c7dda17e7008727cfc772e08826ef6c20".toList) := by kernel_rfl
theorem fn4 : Tryz.prog.funcNamed "assize/assizelaw09.SheetsScoreSpec" = some 4 := by kernel_rfl
theorem looks4 : false = Tryz.prog.looks [] := by kernel_rfl
theorem goes4 : false = Rows.sheetsScoreSpecRow.goesBy Tryz.prog := by kernel_rfl
theorem scoreSpec_holds : Rows.SheetsScoreSpecCardSaid :=
  Claim7.holds_tied_plain_at .later [] [.data, .data, .data] true (true, "fc1efa901843cf6fcd672ed45d83510c7dda17e7008727cfc772e08826ef6c20") false
    scoreSpec_holds_row (fun _ h => by cases h) wf4 (fun _ h => by cases h) sheetsScoreSpec_row_tie rfl ⟨rfl, rfl⟩ main4 rfl
    (fun f fn hf hfn => by
      obtain rfl : f = 4 := Option.some.inj (fn4.symm.trans hf) |>.symm
      obtain rfl : fn = Tryz.f4 := (Option.some.inj (Tryz.func4.symm.trans hfn)).symm
      exact ⟨looks4, fun j t ht => by
        rw [Tryz.params4] at ht
        have hm : t ∈ [22, 24] := by simpa using Array.mem_of_getElem? ht
        have hall : ([22, 24].all fun u => !Tryz.prog.wantsStandIn u) = true := by kernel_rfl
        exact (show Tryz.prog.wantsStandIn t = false by simpa using List.all_eq_true.1 hall t hm)⟩)
    goes4
end Go.Proofs.YtajmniiiahhfaaaGreatDoor
