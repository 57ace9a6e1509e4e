/-
  EligibleOffendersSpecCardSaid is proved for every input of the program; there is no condition. (Names are cut short here: a claim has a limit of bytes.)
-/
import Derived.Test.YtgbamiehiokacaaGreatDoorKZc1
set_option linter.all false
set_option maxRecDepth 100000
namespace Go.Proofs.YtgbamiehiokacaaGreatDoor
open Go Go.ChangeShapes Go.WideShapes Go.RowKit Go.ChangeAt Go.Hw
theorem wf9:Rows.eligibleOffendersSpecRow.wfByText (OpenSpec.ofChange Rows.eligibleOffendersSpecSpec)=true:=by kernel_rfl
theorem main9:Tryz.prog.mainIs=some (true, "9641b2fab96dd4ebd2b0ebb1f1568e0df593a45ab9775e7fac6456c03be8483f".toList):=by kernel_rfl
theorem fn9:Tryz.prog.funcNamed "assize/assizelaw11.EligibleOffendersSpec" = some 9:=by kernel_rfl
theorem looks9:false=Tryz.prog.looks []:=by kernel_rfl
theorem goes9:false=Rows.eligibleOffendersSpecRow.goesBy Tryz.prog:=by kernel_rfl
theorem off11_holds:Rows.EligibleOffendersSpecCardSaid :=
 Claim7.holds_tied_plain_at .later [] [.data,.data,.data] true (true, "9641b2fab96dd4ebd2b0ebb1f1568e0df593a45ab9775e7fac6456c03be8483f") false
  Nb (fun _ h=>by cases h) wf9 (fun _ h=>by cases h) eligibleOffendersSpec_row_tie rfl ⟨rfl,rfl⟩ main9 rfl
  (fun f fn hf hfn=>by
    obtain rfl:f=9:=Option.some.inj (fn9.symm.trans hf) |>.symm
    obtain rfl:fn=Tryz.f9:=(Option.some.inj (Tryz.func9.symm.trans hfn)).symm
    exact ⟨looks9,fun j t ht=>by
     rw [Tryz.params9] at ht
     have hm:t∈[22,35]:=by simpa using Array.mem_of_getElem? ht
     have hall:([22,35].all fun u => !Tryz.prog.wantsStandIn u)=true:=by kernel_rfl
     exact (show Tryz.prog.wantsStandIn t=false by simpa using List.all_eq_true.1 hall t hm)⟩)
  goes9
end Go.Proofs.YtgbamiehiokacaaGreatDoor
