/-
  EligibleRegisteredSpecCardSaid is proved for every input of the program; there is no condition. (Names are cut short here: a claim has a limit of bytes.)
-/
import Derived.Test.YtgbamiehiokacaaGreatDoorKZa1
set_option linter.all false
set_option maxRecDepth 100000
namespace Go.Proofs.YtgbamiehiokacaaGreatDoor
open Go Go.ChangeShapes Go.WideShapes Go.RowKit Go.ChangeAt Go.Hw
theorem wf7:Rows.eligibleRegisteredSpecRow.wfByText (OpenSpec.ofChange Rows.eligibleRegisteredSpecSpec)=true:=by kernel_rfl
theorem main7:Tryz.prog.mainIs=some (true, "9641b2fab96dd4ebd2b0ebb1f1568e0df593a45ab9775e7fac6456c03be8483f".toList):=by kernel_rfl
theorem fn7:Tryz.prog.funcNamed "assize/assizelaw11.EligibleRegisteredSpec" = some 7:=by kernel_rfl
theorem looks7:false=Tryz.prog.looks []:=by kernel_rfl
theorem goes7:false=Rows.eligibleRegisteredSpecRow.goesBy Tryz.prog:=by kernel_rfl
theorem reg11_holds:Rows.EligibleRegisteredSpecCardSaid :=
 Claim7.holds_tied_plain_at .later [] [.data,.data,.data] true (true, "9641b2fab96dd4ebd2b0ebb1f1568e0df593a45ab9775e7fac6456c03be8483f") false
  Mw (fun _ h=>by cases h) wf7 (fun _ h=>by cases h) eligibleRegisteredSpec_row_tie rfl ⟨rfl,rfl⟩ main7 rfl
  (fun f fn hf hfn=>by
    obtain rfl:f=7:=Option.some.inj (fn7.symm.trans hf) |>.symm
    obtain rfl:fn=Tryz.f7:=(Option.some.inj (Tryz.func7.symm.trans hfn)).symm
    exact ⟨looks7,fun j t ht=>by
     rw [Tryz.params7] at ht
     have hm:t∈[22,3,3]:=by simpa using Array.mem_of_getElem? ht
     have hall:([22,3,3].all fun u => !Tryz.prog.wantsStandIn u)=true:=by kernel_rfl
     exact (show Tryz.prog.wantsStandIn t=false by simpa using List.all_eq_true.1 hall t hm)⟩)
  goes7
end Go.Proofs.YtgbamiehiokacaaGreatDoor
