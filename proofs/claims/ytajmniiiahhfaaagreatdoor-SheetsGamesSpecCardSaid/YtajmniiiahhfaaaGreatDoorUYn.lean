import Derived.Test.YtajmniiiahhfaaaGreatDoorUYn1
set_option linter.unusedSimpArgs false
set_option linter.unusedVariables false
set_option maxRecDepth 100000
namespace Go.Proofs.YtajmniiiahhfaaaGreatDoor
open Go Go.ChangeShapes Go.WideShapes Go.RowKit Go.ChangeAt Go.Hw
theorem wf5 : Rows.sheetsGamesSpecRow.wfByText (OpenSpec.ofChange Rows.sheetsGamesSpecSpec) = true := by kernel_rfl
theorem main5 : Tryz.prog.mainIs = some (true, "fc1efa901843cf6fcd672ed45d83510c7dda17e7008727cfc772e08826ef6c20".toList) := by kernel_rfl
theorem fn5 : Tryz.prog.funcNamed "assize/assizelaw09.SheetsGamesSpec" = some 5 := by kernel_rfl
theorem looks5 : false = Tryz.prog.looks [] := by kernel_rfl
theorem goes5 : false = Rows.sheetsGamesSpecRow.goesBy Tryz.prog := by kernel_rfl
theorem gamesSpec_holds : Rows.SheetsGamesSpecCardSaid :=
  Claim7.holds_tied_plain_at .later [] [.data, .data, .data] true (true, "fc1efa901843cf6fcd672ed45d83510c7dda17e7008727cfc772e08826ef6c20") false
    gamesSpec_holds_row (fun _ h => by cases h) wf5 (fun _ h => by cases h) sheetsGamesSpec_row_tie rfl ⟨rfl, rfl⟩ main5 rfl
    (fun f fn hf hfn => by
      obtain rfl : f = 5 := Option.some.inj (fn5.symm.trans hf) |>.symm
      obtain rfl : fn = Tryz.f5 := (Option.some.inj (Tryz.func5.symm.trans hfn)).symm
      exact ⟨looks5, fun j t ht => by
        rw [Tryz.params5] at ht
        have hm : t ∈ [22, 3, 3] := by simpa using Array.mem_of_getElem? ht
        have hall : ([22, 3, 3].all fun u => !Tryz.prog.wantsStandIn u) = true := by kernel_rfl
        exact (show Tryz.prog.wantsStandIn t = false by simpa using List.all_eq_true.1 hall t hm)⟩)
    goes5
end Go.Proofs.YtajmniiiahhfaaaGreatDoor
