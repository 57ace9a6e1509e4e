/-
  EligibleReasonsCardSaid is proved for every input of the program; there is no condition. (Names are cut short here: a claim has a limit of bytes.)
-/
import Derived.Test.YtgbamiehiokacaaGreatDoorKZf1
set_option linter.unusedVariables false
set_option maxRecDepth 100000
namespace Go.Proofs.YtgbamiehiokacaaGreatDoor
open Go Go.ChangeShapes Go.WideShapes Go.RowKit Go.ChangeAt Go.Hw
theorem wf12 : Rows.eligibleReasonsRow.wfByText (OpenSpec.ofChange Rows.eligibleReasonsSpec) = true:=by kernel_rfl
theorem main12 : Tryz.prog.mainIs = some (true, "9641b2fab96dd4ebd2b0ebb1f1568e0df593a45ab9775e7fac6456c03be8483f".toList):=by kernel_rfl
theorem fn12 : Tryz.prog.funcNamed "assize/assizelaw11.EligibleReasons" = some 12:=by kernel_rfl
theorem looks12 : false = Tryz.prog.looks []:=by kernel_rfl
theorem goes12 : false = Rows.eligibleReasonsRow.goesBy Tryz.prog:=by kernel_rfl
theorem reasons11_holds : Rows.EligibleReasonsCardSaid :=
 Claim7.holds_tied_plain_at .later [] [.data,.data,.data] true (true, "9641b2fab96dd4ebd2b0ebb1f1568e0df593a45ab9775e7fac6456c03be8483f") false
  Jn (fun _ h => by cases h) wf12 (fun _ h => by cases h) eligibleReasons_row_tie rfl ⟨rfl,rfl⟩ main12 rfl
  (fun f fn hf hfn => by
    obtain rfl : f = 12:=Option.some.inj (fn12.symm.trans hf) |>.symm
    obtain rfl : fn = Tryz.f12:=(Option.some.inj (Tryz.func12.symm.trans hfn)).symm
    exact ⟨looks12,fun j t ht => by
     rw [Tryz.params12] at ht
     have hm : t ∈ [22,35]:=by simpa using Array.mem_of_getElem? ht
     have hall : ([22,35].all fun u => !Tryz.prog.wantsStandIn u) = true:=by kernel_rfl
     exact (show Tryz.prog.wantsStandIn t = false by simpa using List.all_eq_true.1 hall t hm)⟩)
  goes12
end Go.Proofs.YtgbamiehiokacaaGreatDoor
