import Derived.Test.YtphlhpbmkejbaaaGreatDoorJYDc1
set_option linter.unusedSimpArgs false
set_option linter.unusedVariables false
set_option maxRecDepth 100000
namespace Go.Proofs.YtphlhpbmkejbaaaGreatDoor
open Go Go.ChangeShapes Go.WideShapes Go.RowKit Go.ChangeAt Go.Hw
theorem wf4 : Rows.bracketEnterSpecRow.wfByText (OpenSpec.ofChange Rows.bracketEnterSpecSpec) = true:=by kernel_rfl
theorem main4 : Tryz.prog.mainIs = some (true, "b290ed0c9584ab26545b6850a61cbed3b27993745f52d1c249a96dcd4d5912b8".toList):=by kernel_rfl
theorem fn4 : Tryz.prog.funcNamed "assize/assizelaw21.BracketEnterSpec" = some 4:=by kernel_rfl
theorem looks4 : false = Tryz.prog.looks []:=by kernel_rfl
theorem goes4 : false = Rows.bracketEnterSpecRow.goesBy Tryz.prog:=by kernel_rfl
theorem enterSpec21_holds : Rows.BracketEnterSpecCardSaid :=
  Claim7.holds_tied_plain_at .later [] [.data,.data,.data] true (true, "b290ed0c9584ab26545b6850a61cbed3b27993745f52d1c249a96dcd4d5912b8") false
    enterSpec21_holds_row (fun _ h => by cases h) wf4 (fun _ h => by cases h) bracketEnterSpec_row_tie rfl ⟨rfl,rfl⟩ main4 rfl
    (fun f fn hf hfn => by
      obtain rfl : f = 4:=Option.some.inj (fn4.symm.trans hf) |>.symm
      obtain rfl : fn = Tryz.f4:=(Option.some.inj (Tryz.func4.symm.trans hfn)).symm
      exact ⟨looks4,fun j t ht => by
        rw [Tryz.params4] at ht
        have hm : t ∈ [33,26,36,40]:=by simpa using Array.mem_of_getElem? ht
        have hall : ([33,26,36,40].all fun u => !Tryz.prog.wantsStandIn u) = true:=by kernel_rfl
        exact (show Tryz.prog.wantsStandIn t = false by simpa using List.all_eq_true.1 hall t hm)⟩)
    goes4
end Go.Proofs.YtphlhpbmkejbaaaGreatDoor
