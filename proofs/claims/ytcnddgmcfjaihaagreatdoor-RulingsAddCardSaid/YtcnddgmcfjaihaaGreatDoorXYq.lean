import Derived.Test.YtcnddgmcfjaihaaGreatDoorXYq1
set_option linter.unusedVariables false
set_option maxRecDepth 100000
namespace Go.Proofs.YtcnddgmcfjaihaaGreatDoor
open Go Go.ChangeShapes Go.WideShapes Go.RowKit Go.ChangeAt Go.Hw
theorem wf9 : Rows.rulingsAddRow.wfByText (OpenSpec.ofChange Rows.rulingsAddSpec) = true:=by kernel_rfl
theorem main9 : Tryz.prog.mainIs = some (true, "d04cc9d93f95a8e2698f1537bb9a507d7540b7a4a0368186adcdc80a5d236a4b".toList):=by kernel_rfl
theorem fn9 : Tryz.prog.funcNamed "assize/assizelaw10.RulingsAdd" = some 9:=by kernel_rfl
theorem looks9 : false = Tryz.prog.looks []:=by kernel_rfl
theorem goes9 : false = Rows.rulingsAddRow.goesBy Tryz.prog:=by kernel_rfl
theorem add10_holds : Rows.RulingsAddCardSaid :=
  Claim7.holds_tied_plain_at .later [] [.data,.data,.data] true (true, "d04cc9d93f95a8e2698f1537bb9a507d7540b7a4a0368186adcdc80a5d236a4b") false
    add10_holds_row (fun _ h => by cases h) wf9 (fun _ h => by cases h) rulingsAdd_row_tie rfl ⟨rfl,rfl⟩ main9 rfl
    (fun f fn hf hfn => by
      obtain rfl : f = 9:=Option.some.inj (fn9.symm.trans hf) |>.symm
      obtain rfl : fn = Tryz.f9:=(Option.some.inj (Tryz.func9.symm.trans hfn)).symm
      exact ⟨looks9,fun j t ht => by
        rw [Tryz.params9] at ht
        have hm : t ∈ [22,3,3,3,3]:=by simpa using Array.mem_of_getElem? ht
        have hall : ([22,3,3,3,3].all fun u => !Tryz.prog.wantsStandIn u) = true:=by kernel_rfl
        exact (show Tryz.prog.wantsStandIn t = false by simpa using List.all_eq_true.1 hall t hm)⟩)
    goes9
end Go.Proofs.YtcnddgmcfjaihaaGreatDoor
