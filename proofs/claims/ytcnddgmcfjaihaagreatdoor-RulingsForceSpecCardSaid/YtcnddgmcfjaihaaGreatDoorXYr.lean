import Derived.Test.YtcnddgmcfjaihaaGreatDoorXYr1
set_option linter.unusedVariables false
set_option maxRecDepth 100000
namespace Go.Proofs.YtcnddgmcfjaihaaGreatDoor
open Go Go.ChangeShapes Go.WideShapes Go.RowKit Go.ChangeAt Go.Hw
theorem wf5 : Rows.rulingsForceSpecRow.wfByText (OpenSpec.ofChange Rows.rulingsForceSpecSpec) = true:=by kernel_rfl
theorem main5 : Tryz.prog.mainIs = some (true, "d04cc9d93f95a8e2698f1537bb9a507d7540b7a4a0368186adcdc80a5d236a4b".toList):=by kernel_rfl
theorem fn5 : Tryz.prog.funcNamed "assize/assizelaw10.RulingsForceSpec" = some 5:=by kernel_rfl
theorem looks5 : false = Tryz.prog.looks []:=by kernel_rfl
theorem goes5 : false = Rows.rulingsForceSpecRow.goesBy Tryz.prog:=by kernel_rfl
theorem force10_holds : Rows.RulingsForceSpecCardSaid :=
  Claim7.holds_tied_plain_at .later [] [.data,.data,.data] true (true, "d04cc9d93f95a8e2698f1537bb9a507d7540b7a4a0368186adcdc80a5d236a4b") false
    force10_holds_row (fun _ h => by cases h) wf5 (fun _ h => by cases h) rulingsForceSpec_row_tie rfl ⟨rfl,rfl⟩ main5 rfl
    (fun f fn hf hfn => by
      obtain rfl : f = 5:=Option.some.inj (fn5.symm.trans hf) |>.symm
      obtain rfl : fn = Tryz.f5:=(Option.some.inj (Tryz.func5.symm.trans hfn)).symm
      exact ⟨looks5,fun j t ht => by
        rw [Tryz.params5] at ht
        have hm : t ∈ [22,3]:=by simpa using Array.mem_of_getElem? ht
        have hall : ([22,3].all fun u => !Tryz.prog.wantsStandIn u) = true:=by kernel_rfl
        exact (show Tryz.prog.wantsStandIn t = false by simpa using List.all_eq_true.1 hall t hm)⟩)
    goes5
end Go.Proofs.YtcnddgmcfjaihaaGreatDoor
