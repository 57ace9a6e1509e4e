/-
  ResultsOfCardSaid is proved for every input of the program; there is no condition. (Names are cut short here: a claim has a limit of bytes.)
-/
import Derived.Test.YtlnenhhbalpbpaaGreatDoorMYFa1
set_option linter.all false
set_option maxRecDepth 100000
namespace Go.Proofs.YtlnenhhbalpbpaaGreatDoor
open Go Go.ChangeShapes Go.WideShapes Go.RowKit Go.ChangeAt Go.Hw
theorem wf3:Rows.resultsOfRow.wfByText (OpenSpec.ofChange Rows.resultsOfSpec)=true:=by kernel_rfl
theorem main3:Tryz.prog.mainIs=some (true, "fe661a1bf89e2fa3a50c1063099b728efbbbdcc8e7dcdfaa81b77cad2e12eda1".toList):=by kernel_rfl
theorem fn3:Tryz.prog.funcNamed "assize/assizelaw12.ResultsOf" = some 3:=by kernel_rfl
theorem looks3:false=Tryz.prog.looks []:=by kernel_rfl
theorem goes3:false=Rows.resultsOfRow.goesBy Tryz.prog:=by kernel_rfl
theorem of12_holds:Rows.ResultsOfCardSaid :=
 Claim7.holds_tied_plain_at .later [] [.data,.data,.data] true (true, "fe661a1bf89e2fa3a50c1063099b728efbbbdcc8e7dcdfaa81b77cad2e12eda1") false
  Xt (fun _ h=>by cases h) wf3 (fun _ h=>by cases h) resultsOf_row_tie rfl ⟨rfl,rfl⟩ main3 rfl
  (fun f fn hf hfn=>by
    obtain rfl:f=3:=Option.some.inj (fn3.symm.trans hf) |>.symm
    obtain rfl:fn=Tryz.f3:=(Option.some.inj (Tryz.func3.symm.trans hfn)).symm
    exact ⟨looks3,fun j t ht=>by
     rw [Tryz.params3] at ht
     have hm:t∈[22,24]:=by simpa using Array.mem_of_getElem? ht
     have hall:([22,24].all fun u => !Tryz.prog.wantsStandIn u)=true:=by kernel_rfl
     exact (show Tryz.prog.wantsStandIn t=false by simpa using List.all_eq_true.1 hall t hm)⟩)
  goes3
end Go.Proofs.YtlnenhhbalpbpaaGreatDoor
