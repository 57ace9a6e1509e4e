/-
  RulingsPrevailCardSaid is proved for every input of the program; there is no condition. (Names are cut short here: a claim has a limit of bytes.)
-/
import Derived.Test.YtgbamiehiokacaaGreatDoorKYx1
set_option linter.unusedVariables false
set_option maxRecDepth 100000
namespace Go.Proofs.YtgbamiehiokacaaGreatDoor
open Go Go.ChangeShapes Go.WideShapes Go.RowKit Go.ChangeAt Go.Hw
theorem wf6 : Rows.rulingsPrevailRow.wfByText (OpenSpec.ofChange Rows.rulingsPrevailSpec) = true:=by kernel_rfl
theorem main6 : Tryz.prog.mainIs = some (true, "9641b2fab96dd4ebd2b0ebb1f1568e0df593a45ab9775e7fac6456c03be8483f".toList):=by kernel_rfl
theorem fn6 : Tryz.prog.funcNamed "assize/assizelaw10.RulingsPrevail" = some 6:=by kernel_rfl
theorem looks6 : false = Tryz.prog.looks []:=by kernel_rfl
theorem goes6 : false = Rows.rulingsPrevailRow.goesBy Tryz.prog:=by kernel_rfl
theorem prevail10_holds : Rows.RulingsPrevailCardSaid :=
 Claim7.holds_tied_plain_at .later [] [.data,.data,.data] true (true, "9641b2fab96dd4ebd2b0ebb1f1568e0df593a45ab9775e7fac6456c03be8483f") false
  Jo (fun _ h => by cases h) wf6 (fun _ h => by cases h) rulingsPrevail_row_tie rfl ⟨rfl,rfl⟩ main6 rfl
  (fun f fn hf hfn => by
    obtain rfl : f = 6:=Option.some.inj (fn6.symm.trans hf) |>.symm
    obtain rfl : fn = Tryz.f6:=(Option.some.inj (Tryz.func6.symm.trans hfn)).symm
    exact ⟨looks6,fun j t ht => by
     rw [Tryz.params6] at ht
     have hm : t ∈ [22]:=by simpa using Array.mem_of_getElem? ht
     have hall : ([22].all fun u => !Tryz.prog.wantsStandIn u) = true:=by kernel_rfl
     exact (show Tryz.prog.wantsStandIn t = false by simpa using List.all_eq_true.1 hall t hm)⟩)
  goes6
end Go.Proofs.YtgbamiehiokacaaGreatDoor
