import Derived.Test.YtphlhpbmkejbaaaGreatDoorJYDe1
set_option linter.unusedSimpArgs false
set_option linter.unusedVariables false
set_option maxRecDepth 100000
namespace Go.Proofs.YtphlhpbmkejbaaaGreatDoor
open Go Go.ChangeShapes Go.WideShapes Go.RowKit Go.ChangeAt Go.Hw
theorem wf5 : Rows.bracketPlaysRow.wfByText (OpenSpec.ofChange Rows.bracketPlaysSpec) = true:=by kernel_rfl
theorem main5 : Tryz.prog.mainIs = some (true, "b290ed0c9584ab26545b6850a61cbed3b27993745f52d1c249a96dcd4d5912b8".toList):=by kernel_rfl
theorem fn5 : Tryz.prog.funcNamed "assize/assizelaw21.BracketPlays" = some 5:=by kernel_rfl
theorem looks5 : false = Tryz.prog.looks []:=by kernel_rfl
theorem goes5 : false = Rows.bracketPlaysRow.goesBy Tryz.prog:=by kernel_rfl
theorem plays_holds : Rows.BracketPlaysCardSaid :=
  Claim7.holds_tied_plain_at .later [] [.data,.data,.data] true (true, "b290ed0c9584ab26545b6850a61cbed3b27993745f52d1c249a96dcd4d5912b8") false
    plays_holds_row (fun _ h => by cases h) wf5 (fun _ h => by cases h) bracketPlays_row_tie rfl ⟨rfl,rfl⟩ main5 rfl
    (fun f fn hf hfn => by
      obtain rfl : f = 5:=Option.some.inj (fn5.symm.trans hf) |>.symm
      obtain rfl : fn = Tryz.f5:=(Option.some.inj (Tryz.func5.symm.trans hfn)).symm
      exact ⟨looks5,fun j t ht => by
        rw [Tryz.params5] at ht
        have hm : t ∈ [33,26,49]:=by simpa using Array.mem_of_getElem? ht
        have hall : ([33,26,49].all fun u => !Tryz.prog.wantsStandIn u) = true:=by kernel_rfl
        exact (show Tryz.prog.wantsStandIn t = false by simpa using List.all_eq_true.1 hall t hm)⟩)
    goes5
end Go.Proofs.YtphlhpbmkejbaaaGreatDoor
