/-
  EligibleMovesCardSaid is proved for every input of the program; there is no condition. (Names are cut short here: a claim has a limit of bytes.)
-/
import Derived.Test.YtgbamiehiokacaaGreatDoorKZe1
set_option linter.unusedVariables false
set_option maxRecDepth 100000
namespace Go.Proofs.YtgbamiehiokacaaGreatDoor
open Go Go.ChangeShapes Go.WideShapes Go.RowKit Go.ChangeAt Go.Hw
theorem wf11 : Rows.eligibleMovesRow.wfByText (OpenSpec.ofChange Rows.eligibleMovesSpec) = true:=by kernel_rfl
theorem main11 : Tryz.prog.mainIs = some (true, "9641b2fab96dd4ebd2b0ebb1f1568e0df593a45ab9775e7fac6456c03be8483f".toList):=by kernel_rfl
theorem fn11 : Tryz.prog.funcNamed "assize/assizelaw11.EligibleMoves" = some 11:=by kernel_rfl
theorem looks11 : false = Tryz.prog.looks []:=by kernel_rfl
theorem goes11 : false = Rows.eligibleMovesRow.goesBy Tryz.prog:=by kernel_rfl
theorem moves11_holds : Rows.EligibleMovesCardSaid :=
 Claim7.holds_tied_plain_at .later [] [.data,.data,.data] true (true, "9641b2fab96dd4ebd2b0ebb1f1568e0df593a45ab9775e7fac6456c03be8483f") false
  Lo (fun _ h => by cases h) wf11 (fun _ h => by cases h) eligibleMoves_row_tie rfl ⟨rfl,rfl⟩ main11 rfl
  (fun f fn hf hfn => by
    obtain rfl : f = 11:=Option.some.inj (fn11.symm.trans hf) |>.symm
    obtain rfl : fn = Tryz.f11:=(Option.some.inj (Tryz.func11.symm.trans hfn)).symm
    exact ⟨looks11,fun j t ht => by
     rw [Tryz.params11] at ht
     have hm : t ∈ [22,3,3,3,3,3,3]:=by simpa using Array.mem_of_getElem? ht
     have hall : ([22,3,3,3,3,3,3].all fun u => !Tryz.prog.wantsStandIn u) = true:=by kernel_rfl
     exact (show Tryz.prog.wantsStandIn t = false by simpa using List.all_eq_true.1 hall t hm)⟩)
  goes11
end Go.Proofs.YtgbamiehiokacaaGreatDoor
