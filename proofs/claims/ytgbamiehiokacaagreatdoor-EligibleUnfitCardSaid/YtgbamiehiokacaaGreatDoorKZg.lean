/-
  EligibleUnfitCardSaid is proved for every input of the program; there is no condition. (Names are cut short here: a claim has a limit of bytes.)
-/
import Derived.Test.YtgbamiehiokacaaGreatDoorKZg1
set_option linter.unusedVariables false
set_option maxRecDepth 100000
namespace Go.Proofs.YtgbamiehiokacaaGreatDoor
open Go Go.ChangeShapes Go.WideShapes Go.RowKit Go.ChangeAt Go.Hw
theorem wf13 : Rows.eligibleUnfitRow.wfByText (OpenSpec.ofChange Rows.eligibleUnfitSpec) = true:=by kernel_rfl
theorem main13 : Tryz.prog.mainIs = some (true, "9641b2fab96dd4ebd2b0ebb1f1568e0df593a45ab9775e7fac6456c03be8483f".toList):=by kernel_rfl
theorem fn13 : Tryz.prog.funcNamed "assize/assizelaw11.EligibleUnfit" = some 13:=by kernel_rfl
theorem looks13 : false = Tryz.prog.looks []:=by kernel_rfl
theorem goes13 : false = Rows.eligibleUnfitRow.goesBy Tryz.prog:=by kernel_rfl
theorem unfit11_holds : Rows.EligibleUnfitCardSaid :=
 Claim7.holds_tied_plain_at .later [] [.data,.data,.data] true (true, "9641b2fab96dd4ebd2b0ebb1f1568e0df593a45ab9775e7fac6456c03be8483f") false
  Ky (fun _ h => by cases h) wf13 (fun _ h => by cases h) eligibleUnfit_row_tie rfl ⟨rfl,rfl⟩ main13 rfl
  (fun f fn hf hfn => by
    obtain rfl : f = 13:=Option.some.inj (fn13.symm.trans hf) |>.symm
    obtain rfl : fn = Tryz.f13:=(Option.some.inj (Tryz.func13.symm.trans hfn)).symm
    exact ⟨looks13,fun j t ht => by
     rw [Tryz.params13] at ht
     have hm : t ∈ [22,3,3]:=by simpa using Array.mem_of_getElem? ht
     have hall : ([22,3,3].all fun u => !Tryz.prog.wantsStandIn u) = true:=by kernel_rfl
     exact (show Tryz.prog.wantsStandIn t = false by simpa using List.all_eq_true.1 hall t hm)⟩)
  goes13
end Go.Proofs.YtgbamiehiokacaaGreatDoor
