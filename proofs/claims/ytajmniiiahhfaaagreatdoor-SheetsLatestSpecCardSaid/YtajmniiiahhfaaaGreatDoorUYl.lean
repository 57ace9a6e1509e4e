import Derived.Test.YtajmniiiahhfaaaGreatDoorUYl1
set_option linter.unusedSimpArgs false
set_option linter.unusedVariables false
set_option maxRecDepth 100000
namespace Go.Proofs.YtajmniiiahhfaaaGreatDoor
open Go Go.ChangeShapes Go.WideShapes Go.RowKit Go.ChangeAt Go.Hw
theorem wf3 : Rows.sheetsLatestSpecRow.wfByText (OpenSpec.ofChange Rows.sheetsLatestSpecSpec) = true := by kernel_rfl
theorem main3 : Tryz.prog.mainIs = some (true, "fc1efa901843cf6fcd672ed45d83510c7dda17e7008727cfc772e08826ef6c20".toList) := by kernel_rfl
theorem fn3 : Tryz.prog.funcNamed "assize/assizelaw09.SheetsLatestSpec" = some 3 := by kernel_rfl
theorem looks3 : false = Tryz.prog.looks [] := by kernel_rfl
theorem goes3 : false = Rows.sheetsLatestSpecRow.goesBy Tryz.prog := by kernel_rfl
theorem latestSpec_holds : Rows.SheetsLatestSpecCardSaid :=
  Claim7.holds_tied_plain_at .later [] [.data, .data, .data] true (true, "fc1efa901843cf6fcd672ed45d83510c7dda17e7008727cfc772e08826ef6c20") false
    latestSpec_holds_row (fun _ h => by cases h) wf3 (fun _ h => by cases h) sheetsLatestSpec_row_tie rfl ⟨rfl, rfl⟩ main3 rfl
    (fun f fn hf hfn => by
      obtain rfl : f = 3 := Option.some.inj (fn3.symm.trans hf) |>.symm
      obtain rfl : fn = Tryz.f3 := (Option.some.inj (Tryz.func3.symm.trans hfn)).symm
      exact ⟨looks3, fun j t ht => by
        rw [Tryz.params3] at ht
        have hm : t ∈ [22, 24, 3, 28, 28] := by simpa using Array.mem_of_getElem? ht
        have hall : ([22, 24, 3, 28, 28].all fun u => !Tryz.prog.wantsStandIn u) = true := by kernel_rfl
        exact (show Tryz.prog.wantsStandIn t = false by simpa using List.all_eq_true.1 hall t hm)⟩)
    goes3
end Go.Proofs.YtajmniiiahhfaaaGreatDoor
