/-
  BracketViewSpecCardSaid is proved for every input of the program; there is no condition. (Names are cut short here: a claim has a limit of bytes.)
-/
import Derived.Test.YtbmffdagfjepgaaGreatDoorNYHa1
set_option linter.all false
set_option maxRecDepth 100000
namespace Go.Proofs.YtbmffdagfjepgaaGreatDoor
open Go Go.ChangeShapes Go.WideShapes Go.RowKit Go.ChangeAt Go.Hw
def Aet:Rows.bracketViewSpecRow.wfByText (OpenSpec.ofChange Rows.bracketViewSpecSpec)=true:=by kernel_rfl
def Am3:Tryz.prog.mainIs=some (true, "6dedfd9f306ec40ba1fbc94851f439b3a188ef4434218aa0f8dd5cef7f363479".toList):=by kernel_rfl
def Apr:Tryz.prog.funcNamed "assize/assizelaw21.BracketViewSpec" =some 3:=by kernel_rfl
def Anc:false=Tryz.prog.looks []:=by kernel_rfl
def Apg {P:Program}(h:P.funcs.toList.any Func.goes=false)(f:FuncId):P.goes f=false:=by unfold Program.goes;rw[←Array.any_toList,h,Bool.and_false,Bool.or_false,Sr];intro g _;cases hg:P.funcs[g]? with|none=>exact Bool.false_ne_true|some fn=>exact Sr.1 h fn (hX.2 (YU hg))
def Aph:Tryz.prog.funcs.toList.any Func.goes=false:=by kernel_rfl
def Api:false=Rows.bracketViewSpecRow.goesBy Tryz.prog:=by have e:Rows.bracketViewSpecRow.start=.entering:=rfl;unfold OpenClaim.goesBy Program.goesAt Program.goesFrom;rw[e];cases Tryz.prog.funcNamed Rows.bracketViewSpecRow.func with|none=>rfl|some f=>exact(by rw[Option.any_some,Apg Aph f];rfl)
theorem viewSpec21_holds:Rows.BracketViewSpecCardSaid:=
 Claim7.holds_tied_plain_at .later [] [.data,.data,.data] true (true, "6dedfd9f306ec40ba1fbc94851f439b3a188ef4434218aa0f8dd5cef7f363479") false
  Avg (λ_ h=>by cases h) Aet (λ_ h=>by cases h) bracketViewSpec_row_tie rfl ⟨rfl,rfl⟩ Am3 rfl
  (λf fn hf c=>by
    obtain rfl:f=3:=Od (Apr.symm.trans hf) |>.symm
    obtain rfl:fn=Tryz.f3:=(Od (Tryz.func3.symm.trans c)).symm
    exact⟨Anc,λj t a=>by
     rw[Tryz.params3]at a
     have hm:t∈[22,3,3,24]:=by simpa using YU a
     have b:([22,3,3,24].all λu=> !Tryz.prog.wantsStandIn u)=true:=by kernel_rfl
     exact(show Tryz.prog.wantsStandIn t=false by simpa using Kz.1 b t hm)⟩)
  Api
end Go.Proofs.YtbmffdagfjepgaaGreatDoor
