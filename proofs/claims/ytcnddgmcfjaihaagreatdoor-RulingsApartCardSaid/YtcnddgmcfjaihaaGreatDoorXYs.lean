import Derived.Test.YtcnddgmcfjaihaaGreatDoorXYs1
set_option linter.unusedVariables false
set_option maxRecDepth 100000
namespace Go.Proofs.YtcnddgmcfjaihaaGreatDoor
open Go Go.ChangeShapes Go.WideShapes Go.RowKit Go.ChangeAt Go.Hw
theorem wf8 : Rows.rulingsApartRow.wfByText (OpenSpec.ofChange Rows.rulingsApartSpec) = true:=by kernel_rfl
theorem main8 : Tryz.prog.mainIs = some (true, "d04cc9d93f95a8e2698f1537bb9a507d7540b7a4a0368186adcdc80a5d236a4b".toList):=by kernel_rfl
theorem fn8 : Tryz.prog.funcNamed "assize/assizelaw10.RulingsApart" = some 8:=by kernel_rfl
theorem looks8 : false = Tryz.prog.looks []:=by kernel_rfl
theorem goes8 : false = Rows.rulingsApartRow.goesBy Tryz.prog:=by kernel_rfl
theorem apart10_holds : Rows.RulingsApartCardSaid :=
  Claim7.holds_tied_plain_at .later [] [.data,.data,.data] true (true, "d04cc9d93f95a8e2698f1537bb9a507d7540b7a4a0368186adcdc80a5d236a4b") false
    apart10_holds_row (fun _ h => by cases h) wf8 (fun _ h => by cases h) rulingsApart_row_tie rfl ⟨rfl,rfl⟩ main8 rfl
    (fun f fn hf hfn => by
      obtain rfl : f = 8:=Option.some.inj (fn8.symm.trans hf) |>.symm
      obtain rfl : fn = Tryz.f8:=(Option.some.inj (Tryz.func8.symm.trans hfn)).symm
      exact ⟨looks8,fun j t ht => by
        rw [Tryz.params8] at ht
        have hm : t ∈ [22,3]:=by simpa using Array.mem_of_getElem? ht
        have hall : ([22,3].all fun u => !Tryz.prog.wantsStandIn u) = true:=by kernel_rfl
        exact (show Tryz.prog.wantsStandIn t = false by simpa using List.all_eq_true.1 hall t hm)⟩)
    goes8
end Go.Proofs.YtcnddgmcfjaihaaGreatDoor
