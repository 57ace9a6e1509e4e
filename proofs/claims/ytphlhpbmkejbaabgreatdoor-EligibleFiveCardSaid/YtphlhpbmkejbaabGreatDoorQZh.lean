import Derived.Test.YtphlhpbmkejbaabGreatDoorQZh1
set_option linter.unusedSimpArgs false
set_option linter.unusedVariables false
set_option maxRecDepth 100000
namespace Go.Proofs.YtphlhpbmkejbaabGreatDoor
open Go Go.ChangeShapes Go.WideShapes Go.RowKit Go.ChangeAt Go.Hw
theorem wf3 : Rows.eligibleFiveRow.wfByText (OpenSpec.ofChange Rows.eligibleFiveSpec) = true:=by kernel_rfl
theorem main3 : Tryz.prog.mainIs = some (true, "a4a5c4eed5a8e50f08704ee42b32acdffa9c13fac76c5ff88f817c7d133f6663".toList):=by kernel_rfl
theorem fn3 : Tryz.prog.funcNamed "assize/assizelaw11.EligibleFive" = some 3:=by kernel_rfl
theorem looks3 : false = Tryz.prog.looks []:=by kernel_rfl
theorem goes3 : false = Rows.eligibleFiveRow.goesBy Tryz.prog:=by kernel_rfl
theorem five11_holds : Rows.EligibleFiveCardSaid :=
  Claim7.holds_tied_plain_at .later [] [.data,.data,.data] true (true, "a4a5c4eed5a8e50f08704ee42b32acdffa9c13fac76c5ff88f817c7d133f6663") false
    five11_holds_row (fun _ h => by cases h) wf3 (fun _ h => by cases h) eligibleFive_row_tie rfl ⟨rfl,rfl⟩ main3 rfl
    (fun f fn hf hfn => by
      obtain rfl : f = 3:=Option.some.inj (fn3.symm.trans hf) |>.symm
      obtain rfl : fn = Tryz.f3:=(Option.some.inj (Tryz.func3.symm.trans hfn)).symm
      exact ⟨looks3,fun j t ht => by
        rw [Tryz.params3] at ht
        have hm : t ∈ [22,3,3]:=by simpa using Array.mem_of_getElem? ht
        have hall : ([22,3,3].all fun u => !Tryz.prog.wantsStandIn u) = true:=by kernel_rfl
        exact (show Tryz.prog.wantsStandIn t = false by simpa using List.all_eq_true.1 hall t hm)⟩)
    goes3
end Go.Proofs.YtphlhpbmkejbaabGreatDoor
