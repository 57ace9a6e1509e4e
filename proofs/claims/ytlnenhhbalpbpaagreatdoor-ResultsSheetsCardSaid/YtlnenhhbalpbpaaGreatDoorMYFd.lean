import Derived.Test.YtlnenhhbalpbpaaGreatDoorMYFd1
set_option linter.unusedVariables false
set_option maxRecDepth 100000
namespace Go.Proofs.YtlnenhhbalpbpaaGreatDoor
open Go Go.ChangeShapes Go.WideShapes Go.RowKit Go.ChangeAt Go.Hw
theorem wf6 : Rows.resultsSheetsRow.wfByText (OpenSpec.ofChange Rows.resultsSheetsSpec) = true:=by kernel_rfl
theorem main6 : Tryz.prog.mainIs = some (true, "fe661a1bf89e2fa3a50c1063099b728efbbbdcc8e7dcdfaa81b77cad2e12eda1".toList):=by kernel_rfl
theorem fn6 : Tryz.prog.funcNamed "assize/assizelaw12.ResultsSheets" = some 6:=by kernel_rfl
theorem looks6 : false = Tryz.prog.looks []:=by kernel_rfl
theorem goes6 : false = Rows.resultsSheetsRow.goesBy Tryz.prog:=by kernel_rfl
theorem sheets12_holds : Rows.ResultsSheetsCardSaid :=
  Claim7.holds_tied_plain_at .later [] [.data,.data,.data] true (true, "fe661a1bf89e2fa3a50c1063099b728efbbbdcc8e7dcdfaa81b77cad2e12eda1") false
    sheets12_holds_row (fun _ h => by cases h) wf6 (fun _ h => by cases h) resultsSheets_row_tie rfl ⟨rfl,rfl⟩ main6 rfl
    (fun f fn hf hfn => by
      obtain rfl : f = 6:=Option.some.inj (fn6.symm.trans hf) |>.symm
      obtain rfl : fn = Tryz.f6:=(Option.some.inj (Tryz.func6.symm.trans hfn)).symm
      exact ⟨looks6,fun j t ht => by
        rw [Tryz.params6] at ht
        have hm : t ∈ [22,24]:=by simpa using Array.mem_of_getElem? ht
        have hall : ([22,24].all fun u => !Tryz.prog.wantsStandIn u) = true:=by kernel_rfl
        exact (show Tryz.prog.wantsStandIn t = false by simpa using List.all_eq_true.1 hall t hm)⟩)
    goes6
end Go.Proofs.YtlnenhhbalpbpaaGreatDoor
