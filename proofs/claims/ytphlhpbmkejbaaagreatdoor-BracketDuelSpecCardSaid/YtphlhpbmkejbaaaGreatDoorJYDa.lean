import Derived.Test.YtphlhpbmkejbaaaGreatDoorJYDa1
set_option linter.unusedSimpArgs false
set_option linter.unusedVariables false
set_option maxRecDepth 100000
namespace Go.Proofs.YtphlhpbmkejbaaaGreatDoor
open Go Go.ChangeShapes Go.WideShapes Go.RowKit Go.ChangeAt Go.Hw
theorem wf3 : Rows.bracketDuelSpecRow.wfByText (OpenSpec.ofChange Rows.bracketDuelSpecSpec) = true:=by kernel_rfl
theorem main3 : Tryz.prog.mainIs = some (true, "b290ed0c9584ab26545b6850a61cbed3b27993745f52d1c249a96dcd4d5912b8".toList):=by kernel_rfl
theorem fn3 : Tryz.prog.funcNamed "assize/assizelaw21.BracketDuelSpec" = some 3:=by kernel_rfl
theorem looks3 : false = Tryz.prog.looks []:=by kernel_rfl
theorem goes3 : false = Rows.bracketDuelSpecRow.goesBy Tryz.prog:=by kernel_rfl
theorem duelSpec_holds : Rows.BracketDuelSpecCardSaid :=
  Claim7.holds_tied_plain_at .later [] [.data,.data,.data] true (true, "b290ed0c9584ab26545b6850a61cbed3b27993745f52d1c249a96dcd4d5912b8") false
    duelSpec_holds_row (fun _ h => by cases h) wf3 (fun _ h => by cases h) bracketDuelSpec_row_tie rfl ⟨rfl,rfl⟩ main3 rfl
    (fun f fn hf hfn => by
      obtain rfl : f = 3:=Option.some.inj (fn3.symm.trans hf) |>.symm
      obtain rfl : fn = Tryz.f3:=(Option.some.inj (Tryz.func3.symm.trans hfn)).symm
      exact ⟨looks3,fun j t ht => by
        rw [Tryz.params3] at ht
        have hm : t ∈ [24,26]:=by simpa using Array.mem_of_getElem? ht
        have hall : ([24,26].all fun u => !Tryz.prog.wantsStandIn u) = true:=by kernel_rfl
        exact (show Tryz.prog.wantsStandIn t = false by simpa using List.all_eq_true.1 hall t hm)⟩)
    goes3
end Go.Proofs.YtphlhpbmkejbaaaGreatDoor
