import Derived.Test.YtphlhpbmkejbaaaGreatDoorJYDb1
set_option linter.unusedSimpArgs false
set_option linter.unusedVariables false
set_option maxRecDepth 100000
namespace Go.Proofs.YtphlhpbmkejbaaaGreatDoor
open Go Go.ChangeShapes Go.WideShapes Go.RowKit Go.ChangeAt Go.Hw
theorem wf7 : Rows.bracketWinnerRow.wfByText (OpenSpec.ofChange Rows.bracketWinnerSpec) = true:=by kernel_rfl
theorem main7 : Tryz.prog.mainIs = some (true, "b290ed0c9584ab26545b6850a61cbed3b27993745f52d1c249a96dcd4d5912b8".toList):=by kernel_rfl
theorem fn7 : Tryz.prog.funcNamed "assize/assizelaw21.BracketWinner" = some 7:=by kernel_rfl
theorem looks7 : false = Tryz.prog.looks []:=by kernel_rfl
theorem goes7 : false = Rows.bracketWinnerRow.goesBy Tryz.prog:=by kernel_rfl
theorem winner_holds : Rows.BracketWinnerCardSaid :=
  Claim7.holds_tied_plain_at .later [] [.data,.data,.data] true (true, "b290ed0c9584ab26545b6850a61cbed3b27993745f52d1c249a96dcd4d5912b8") false
    winner_holds_row (fun _ h => by cases h) wf7 (fun _ h => by cases h) bracketWinner_row_tie rfl ⟨rfl,rfl⟩ main7 rfl
    (fun f fn hf hfn => by
      obtain rfl : f = 7:=Option.some.inj (fn7.symm.trans hf) |>.symm
      obtain rfl : fn = Tryz.f7:=(Option.some.inj (Tryz.func7.symm.trans hfn)).symm
      exact ⟨looks7,fun j t ht => by
        rw [Tryz.params7] at ht
        have hm : t ∈ [24,26,3]:=by simpa using Array.mem_of_getElem? ht
        have hall : ([24,26,3].all fun u => !Tryz.prog.wantsStandIn u) = true:=by kernel_rfl
        exact (show Tryz.prog.wantsStandIn t = false by simpa using List.all_eq_true.1 hall t hm)⟩)
    goes7
end Go.Proofs.YtphlhpbmkejbaaaGreatDoor
