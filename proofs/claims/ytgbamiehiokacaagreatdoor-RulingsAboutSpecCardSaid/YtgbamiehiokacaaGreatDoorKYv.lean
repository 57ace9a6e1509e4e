/-
  RulingsAboutSpecCardSaid is proved for every input of the program; there is no condition. (Names are cut short here: a claim has a limit of bytes.)
-/
import Derived.Test.YtgbamiehiokacaaGreatDoorKYv1
set_option linter.unusedVariables false
set_option maxRecDepth 100000
namespace Go.Proofs.YtgbamiehiokacaaGreatDoor
open Go Go.ChangeShapes Go.WideShapes Go.RowKit Go.ChangeAt Go.Hw
theorem wf5 : Rows.rulingsAboutSpecRow.wfByText (OpenSpec.ofChange Rows.rulingsAboutSpecSpec) = true:=by kernel_rfl
theorem main5 : Tryz.prog.mainIs = some (true, "9641b2fab96dd4ebd2b0ebb1f1568e0df593a45ab9775e7fac6456c03be8483f".toList):=by kernel_rfl
theorem fn5 : Tryz.prog.funcNamed "assize/assizelaw10.RulingsAboutSpec" = some 5:=by kernel_rfl
theorem looks5 : false = Tryz.prog.looks []:=by kernel_rfl
theorem goes5 : false = Rows.rulingsAboutSpecRow.goesBy Tryz.prog:=by kernel_rfl
theorem about10_holds : Rows.RulingsAboutSpecCardSaid :=
 Claim7.holds_tied_plain_at .later [] [.data,.data,.data] true (true, "9641b2fab96dd4ebd2b0ebb1f1568e0df593a45ab9775e7fac6456c03be8483f") false
  Lh (fun _ h => by cases h) wf5 (fun _ h => by cases h) rulingsAboutSpec_row_tie rfl ⟨rfl,rfl⟩ main5 rfl
  (fun f fn hf hfn => by
    obtain rfl : f = 5:=Option.some.inj (fn5.symm.trans hf) |>.symm
    obtain rfl : fn = Tryz.f5:=(Option.some.inj (Tryz.func5.symm.trans hfn)).symm
    exact ⟨looks5,fun j t ht => by
     rw [Tryz.params5] at ht
     have hm : t ∈ [22,35,3,3,3]:=by simpa using Array.mem_of_getElem? ht
     have hall : ([22,35,3,3,3].all fun u => !Tryz.prog.wantsStandIn u) = true:=by kernel_rfl
     exact (show Tryz.prog.wantsStandIn t = false by simpa using List.all_eq_true.1 hall t hm)⟩)
  goes5
end Go.Proofs.YtgbamiehiokacaaGreatDoor
