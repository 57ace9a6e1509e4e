/-
  EligibleOrderCardSaid is proved for every input of the program; there is no condition. (Names are cut short here: a claim has a limit of bytes.)
-/
import Derived.Test.YtgbamiehiokacaaGreatDoorKZd1
set_option linter.unusedVariables false
set_option maxRecDepth 100000
namespace Go.Proofs.YtgbamiehiokacaaGreatDoor
open Go Go.ChangeShapes Go.WideShapes Go.RowKit Go.ChangeAt Go.Hw
theorem wf10 : Rows.eligibleOrderRow.wfByText (OpenSpec.ofChange Rows.eligibleOrderSpec) = true:=by kernel_rfl
theorem main10 : Tryz.prog.mainIs = some (true, "9641b2fab96dd4ebd2b0ebb1f1568e0df593a45ab9775e7fac6456c03be8483f".toList):=by kernel_rfl
theorem fn10 : Tryz.prog.funcNamed "assize/assizelaw11.EligibleOrder" = some 10:=by kernel_rfl
theorem looks10 : false = Tryz.prog.looks []:=by kernel_rfl
theorem goes10 : false = Rows.eligibleOrderRow.goesBy Tryz.prog:=by kernel_rfl
theorem order11_holds : Rows.EligibleOrderCardSaid :=
 Claim7.holds_tied_plain_at .later [] [.data,.data,.data] true (true, "9641b2fab96dd4ebd2b0ebb1f1568e0df593a45ab9775e7fac6456c03be8483f") false
  Lk (fun _ h => by cases h) wf10 (fun _ h => by cases h) eligibleOrder_row_tie rfl ⟨rfl,rfl⟩ main10 rfl
  (fun f fn hf hfn => by
    obtain rfl : f = 10:=Option.some.inj (fn10.symm.trans hf) |>.symm
    obtain rfl : fn = Tryz.f10:=(Option.some.inj (Tryz.func10.symm.trans hfn)).symm
    exact ⟨looks10,fun j t ht => by
     rw [Tryz.params10] at ht
     have hm : t ∈ [22,3,3,35,3]:=by simpa using Array.mem_of_getElem? ht
     have hall : ([22,3,3,35,3].all fun u => !Tryz.prog.wantsStandIn u) = true:=by kernel_rfl
     exact (show Tryz.prog.wantsStandIn t = false by simpa using List.all_eq_true.1 hall t hm)⟩)
  goes10
end Go.Proofs.YtgbamiehiokacaaGreatDoor
