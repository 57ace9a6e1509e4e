import Derived.Test.YtlnenhhbalpbpaaGreatDoorMYFc1
set_option linter.unusedVariables false
set_option maxRecDepth 100000
namespace Go.Proofs.YtlnenhhbalpbpaaGreatDoor
open Go Go.ChangeShapes Go.WideShapes Go.RowKit Go.ChangeAt Go.Hw
theorem wf5 : Rows.resultsRulingRow.wfByText (OpenSpec.ofChange Rows.resultsRulingSpec) = true:=by kernel_rfl
theorem main5 : Tryz.prog.mainIs = some (true, "fe661a1bf89e2fa3a50c1063099b728efbbbdcc8e7dcdfaa81b77cad2e12eda1".toList):=by kernel_rfl
theorem fn5 : Tryz.prog.funcNamed "assize/assizelaw12.ResultsRuling" = some 5:=by kernel_rfl
theorem looks5 : false = Tryz.prog.looks []:=by kernel_rfl
theorem goes5 : false = Rows.resultsRulingRow.goesBy Tryz.prog:=by kernel_rfl
theorem ruling12_holds : Rows.ResultsRulingCardSaid :=
  Claim7.holds_tied_plain_at .later [] [.data,.data,.data] true (true, "fe661a1bf89e2fa3a50c1063099b728efbbbdcc8e7dcdfaa81b77cad2e12eda1") false
    ruling12_holds_row (fun _ h => by cases h) wf5 (fun _ h => by cases h) resultsRuling_row_tie rfl ⟨rfl,rfl⟩ main5 rfl
    (fun f fn hf hfn => by
      obtain rfl : f = 5:=Option.some.inj (fn5.symm.trans hf) |>.symm
      obtain rfl : fn = Tryz.f5:=(Option.some.inj (Tryz.func5.symm.trans hfn)).symm
      exact ⟨looks5,fun j t ht => by
        rw [Tryz.params5] at ht
        have hm : t ∈ [22,24,3,3,3]:=by simpa using Array.mem_of_getElem? ht
        have hall : ([22,24,3,3,3].all fun u => !Tryz.prog.wantsStandIn u) = true:=by kernel_rfl
        exact (show Tryz.prog.wantsStandIn t = false by simpa using List.all_eq_true.1 hall t hm)⟩)
    goes5
end Go.Proofs.YtlnenhhbalpbpaaGreatDoor
