import Derived.Test.YtphlhpbmkejbaaaGreatDoorJYDd1
set_option linter.unusedSimpArgs false
set_option linter.unusedVariables false
set_option maxRecDepth 100000
namespace Go.Proofs.YtphlhpbmkejbaaaGreatDoor
open Go Go.ChangeShapes Go.WideShapes Go.RowKit Go.ChangeAt Go.Hw
theorem wf6 : Rows.bracketEntersRow.wfByText (OpenSpec.ofChange Rows.bracketEntersSpec) = true:=by kernel_rfl
theorem main6 : Tryz.prog.mainIs = some (true, "b290ed0c9584ab26545b6850a61cbed3b27993745f52d1c249a96dcd4d5912b8".toList):=by kernel_rfl
theorem fn6 : Tryz.prog.funcNamed "assize/assizelaw21.BracketEnters" = some 6:=by kernel_rfl
theorem looks6 : false = Tryz.prog.looks []:=by kernel_rfl
theorem goes6 : false = Rows.bracketEntersRow.goesBy Tryz.prog:=by kernel_rfl
theorem enters_holds : Rows.BracketEntersCardSaid :=
  Claim7.holds_tied_plain_at .later [] [.data,.data,.data] true (true, "b290ed0c9584ab26545b6850a61cbed3b27993745f52d1c249a96dcd4d5912b8") false
    enters_holds_row (fun _ h => by cases h) wf6 (fun _ h => by cases h) bracketEnters_row_tie rfl ⟨rfl,rfl⟩ main6 rfl
    (fun f fn hf hfn => by
      obtain rfl : f = 6:=Option.some.inj (fn6.symm.trans hf) |>.symm
      obtain rfl : fn = Tryz.f6:=(Option.some.inj (Tryz.func6.symm.trans hfn)).symm
      exact ⟨looks6,fun j t ht => by
        rw [Tryz.params6] at ht
        have hm : t ∈ [36,40]:=by simpa using Array.mem_of_getElem? ht
        have hall : ([36,40].all fun u => !Tryz.prog.wantsStandIn u) = true:=by kernel_rfl
        exact (show Tryz.prog.wantsStandIn t = false by simpa using List.all_eq_true.1 hall t hm)⟩)
    goes6
end Go.Proofs.YtphlhpbmkejbaaaGreatDoor
