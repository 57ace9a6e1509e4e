/-
  RulingsSetCardSaid is proved for every input of the program; there is no condition. (Names are cut short here: a claim has a limit of bytes.)
-/
import Derived.Test.YtgbamiehiokacaaGreatDoorKYw1
set_option linter.unusedVariables false
set_option maxRecDepth 100000
namespace Go.Proofs.YtgbamiehiokacaaGreatDoor
open Go Go.ChangeShapes Go.WideShapes Go.RowKit Go.ChangeAt Go.Hw
theorem wf4 : Rows.rulingsSetRow.wfByText (OpenSpec.ofChange Rows.rulingsSetSpec) = true:=by kernel_rfl
theorem main4 : Tryz.prog.mainIs = some (true, "9641b2fab96dd4ebd2b0ebb1f1568e0df593a45ab9775e7fac6456c03be8483f".toList):=by kernel_rfl
theorem fn4 : Tryz.prog.funcNamed "assize/assizelaw10.RulingsSet" = some 4:=by kernel_rfl
theorem looks4 : false = Tryz.prog.looks []:=by kernel_rfl
theorem goes4 : false = Rows.rulingsSetRow.goesBy Tryz.prog:=by kernel_rfl
theorem set10_holds : Rows.RulingsSetCardSaid :=
 Claim7.holds_tied_plain_at .later [] [.data,.data,.data] true (true, "9641b2fab96dd4ebd2b0ebb1f1568e0df593a45ab9775e7fac6456c03be8483f") false
  Nw (fun _ h => by cases h) wf4 (fun _ h => by cases h) rulingsSet_row_tie rfl ⟨rfl,rfl⟩ main4 rfl
  (fun f fn hf hfn => by
    obtain rfl : f = 4:=Option.some.inj (fn4.symm.trans hf) |>.symm
    obtain rfl : fn = Tryz.f4:=(Option.some.inj (Tryz.func4.symm.trans hfn)).symm
    exact ⟨looks4,fun j t ht => by
     rw [Tryz.params4] at ht
     have hm : t ∈ [22,3]:=by simpa using Array.mem_of_getElem? ht
     have hall : ([22,3].all fun u => !Tryz.prog.wantsStandIn u) = true:=by kernel_rfl
     exact (show Tryz.prog.wantsStandIn t = false by simpa using List.all_eq_true.1 hall t hm)⟩)
  goes4
end Go.Proofs.YtgbamiehiokacaaGreatDoor
