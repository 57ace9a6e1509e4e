import Derived.Test.YtlnenhhbalpbpaaGreatDoorMYFe1
set_option linter.unusedVariables false
set_option maxRecDepth 100000
namespace Go.Proofs.YtlnenhhbalpbpaaGreatDoor
open Go Go.ChangeShapes Go.WideShapes Go.RowKit Go.ChangeAt Go.Hw
theorem wf7 : Rows.resultsPartitionRow.wfByText (OpenSpec.ofChange Rows.resultsPartitionSpec) = true:=by kernel_rfl
theorem main7 : Tryz.prog.mainIs = some (true, "fe661a1bf89e2fa3a50c1063099b728efbbbdcc8e7dcdfaa81b77cad2e12eda1".toList):=by kernel_rfl
theorem fn7 : Tryz.prog.funcNamed "assize/assizelaw12.ResultsPartition" = some 7:=by kernel_rfl
theorem looks7 : false = Tryz.prog.looks []:=by kernel_rfl
theorem goes7 : false = Rows.resultsPartitionRow.goesBy Tryz.prog:=by kernel_rfl
theorem partition12_holds : Rows.ResultsPartitionCardSaid :=
  Claim7.holds_tied_plain_at .later [] [.data,.data,.data] true (true, "fe661a1bf89e2fa3a50c1063099b728efbbbdcc8e7dcdfaa81b77cad2e12eda1") false
    partition12_holds_row (fun _ h => by cases h) wf7 (fun _ h => by cases h) resultsPartition_row_tie rfl ⟨rfl,rfl⟩ main7 rfl
    (fun f fn hf hfn => by
      obtain rfl : f = 7:=Option.some.inj (fn7.symm.trans hf) |>.symm
      obtain rfl : fn = Tryz.f7:=(Option.some.inj (Tryz.func7.symm.trans hfn)).symm
      exact ⟨looks7,fun j t ht => by
        rw [Tryz.params7] at ht
        have hm : t ∈ [22,3,3]:=by simpa using Array.mem_of_getElem? ht
        have hall : ([22,3,3].all fun u => !Tryz.prog.wantsStandIn u) = true:=by kernel_rfl
        exact (show Tryz.prog.wantsStandIn t = false by simpa using List.all_eq_true.1 hall t hm)⟩)
    goes7
end Go.Proofs.YtlnenhhbalpbpaaGreatDoor
