/-
  EligibleSuspensionsSpecCardSaid is proved for every input of the program; there is no condition. (Names are cut short here: a claim has a limit of bytes.)
-/
import Derived.Test.YtgbamiehiokacaaGreatDoorKZb1
set_option linter.all false
set_option maxRecDepth 100000
namespace Go.Proofs.YtgbamiehiokacaaGreatDoor
open Go Go.ChangeShapes Go.WideShapes Go.RowKit Go.ChangeAt Go.Hw
theorem wf8:Rows.eligibleSuspensionsSpecRow.wfByText (OpenSpec.ofChange Rows.eligibleSuspensionsSpecSpec)=true:=by kernel_rfl
theorem main8:Tryz.prog.mainIs=some (true, "9641b2fab96dd4ebd2b0ebb1f1568e0df593a45ab9775e7fac6456c03be8483f".toList):=by kernel_rfl
theorem fn8:Tryz.prog.funcNamed "assize/assizelaw11.EligibleSuspensionsSpec" = some 8:=by kernel_rfl
theorem looks8:false=Tryz.prog.looks []:=by kernel_rfl
theorem goes8:false=Rows.eligibleSuspensionsSpecRow.goesBy Tryz.prog:=by kernel_rfl
theorem susp11_holds:Rows.EligibleSuspensionsSpecCardSaid :=
 Claim7.holds_tied_plain_at .later [] [.data,.data,.data] true (true, "9641b2fab96dd4ebd2b0ebb1f1568e0df593a45ab9775e7fac6456c03be8483f") false
  Lt (fun _ h=>by cases h) wf8 (fun _ h=>by cases h) eligibleSuspensionsSpec_row_tie rfl ⟨rfl,rfl⟩ main8 rfl
  (fun f fn hf hfn=>by
    obtain rfl:f=8:=Option.some.inj (fn8.symm.trans hf) |>.symm
    obtain rfl:fn=Tryz.f8:=(Option.some.inj (Tryz.func8.symm.trans hfn)).symm
    exact ⟨looks8,fun j t ht=>by
     rw [Tryz.params8] at ht
     have hm:t∈[22,3,3]:=by simpa using Array.mem_of_getElem? ht
     have hall:([22,3,3].all fun u => !Tryz.prog.wantsStandIn u)=true:=by kernel_rfl
     exact (show Tryz.prog.wantsStandIn t=false by simpa using List.all_eq_true.1 hall t hm)⟩)
  goes8
end Go.Proofs.YtgbamiehiokacaaGreatDoor
