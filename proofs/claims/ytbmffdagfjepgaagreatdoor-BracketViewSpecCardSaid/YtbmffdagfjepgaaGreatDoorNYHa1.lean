import Derived.Test.YtbmffdagfjepgaaGreatDoorNYHa0
import Derived.Test.YtbmffdagfjepgaaGreatDoorNYzg
set_option linter.all false
set_option maxRecDepth 100000
namespace Go.Proofs.YtbmffdagfjepgaaGreatDoor
open Go Go.ChangeShapes Go.WideShapes Go.RowKit Go.ChangeAt Go.Hw
def Ao0:(Rows.bracketViewSpecRow.inPlace==Tryz.prog.inPlace 3)=true:=by kernel_rfl
def Ayl:(Rows.bracketViewSpecRow.unfollowed==Tryz.prog.unfollowed 3)=true:=by kernel_rfl
def Akq:(Rows.bracketViewSpecRow.recurses==Tryz.prog.recurses 3)=true:=by kernel_rfl
def Aml:(Rows.bracketViewSpecRow.named==Tryz.prog.varsNamed 3)=true:=by kernel_rfl
def Arq:(Rows.bracketViewSpecRow.wf (OpenSpec.ofChange Rows.bracketViewSpecSpec))=true:=by kernel_rfl
def Ar2:(Tryz.f3.params.all (Tryz.prog.readableRec ·))=true:=by kernel_rfl
def Arw:(namedTie Tryz.prog Rows.bracketViewSpecRow.named Rows.bracketViewSpecSpec.vars)=true:=by kernel_rfl
def Arx:((Rows.bracketViewSpecRow.stops==[]))=true:=by kernel_rfl
def As4:((Rows.bracketViewSpecRow.knobs==[]))=true:=by kernel_rfl
def Ass:((Rows.bracketViewSpecRow.maps==(Tryz.f3.params.toList++Rows.bracketViewSpecSpec.plain.varTypes Tryz.prog).any (Tryz.prog.mapsRec ·)))=true:=by kernel_rfl
def As6:((Rows.bracketViewSpecRow.ifaces==(Tryz.f3.params.toList++Rows.bracketViewSpecSpec.plain.varTypes Tryz.prog).any (Tryz.prog.ifacesRec ·)))=true:=by kernel_rfl
def Asr:((Rows.bracketViewSpecRow.mapsOut==Tryz.prog.mapsAmong Tryz.f3.resultTypes.toList))=true:=by kernel_rfl
def Asw:((Rows.bracketViewSpecRow.loops==(Tryz.f3.params.toList++Rows.bracketViewSpecSpec.plain.varTypes Tryz.prog).any (Tryz.prog.loopsFrom ·)))=true:=by kernel_rfl
def Arp:((Rows.bracketViewSpecRow.wideKeys==(Tryz.f3.params.toList++Rows.bracketViewSpecSpec.plain.varTypes Tryz.prog++Tryz.f3.resultTypes.toList).any (Tryz.prog.wideKeysFrom ·)))=true:=by kernel_rfl
def Art:(Rows.bracketViewSpecSpec.vars.all (Tryz.prog.varReadable ·))=true:=by kernel_rfl
def Arz:(Tryz.f3.resultTypes.all (λt=>Tryz.prog.readableRec t&&decide (t<Tryz.prog.types.size)))=true:=by kernel_rfl
def As7:((Rows.bracketViewSpecRow.ifacesOut==Tryz.f3.resultTypes.toList.any (Tryz.prog.ifacesRec ·)))=true:=by kernel_rfl
def As2:((Rows.bracketViewSpecRow.loopsOut==Tryz.f3.resultTypes.toList.any (Tryz.prog.loopsFrom ·)))=true:=by kernel_rfl
def Ar0:((Rows.bracketViewSpecRow.plainKeys==Tryz.prog.plainKeys))=true:=by kernel_rfl
def Ary:(Rows.bracketViewSpecRow.shortTexts.isNone)=true:=by kernel_rfl
def As3:((Rows.bracketViewSpecRow.lifted==Tryz.prog.liftsFinal))=true:=by kernel_rfl
def Ast:((Tryz.prog.make==some Rows.bracketViewSpecRow.make))=true:=by kernel_rfl
def As5:((Rows.bracketViewSpecRow.kinds==(if Rows.bracketViewSpecRow.domain.isEmpty then[]else Tryz.f3.params.toList.map λt=>match Tryz.prog.underlying t with|some (.int k)=>some k|_=>none)))=true:=by kernel_rfl
def Ar1:((Rows.bracketViewSpecRow.pinned==Rows.bracketViewSpecRow.pinnedBy))=true:=by kernel_rfl
def Ars:((Rows.bracketViewSpecRow.veiled==(Tryz.f3.params.toList++Rows.bracketViewSpecSpec.plain.varTypes Tryz.prog++Tryz.f3.resultTypes.toList).any (Tryz.prog.veiledRec ·)))=true:=by kernel_rfl
def Arr:(Rows.bracketViewSpecRow.veiledFits Tryz.prog Tryz.f3.params.toList (Tryz.f3.params.toList++Rows.bracketViewSpecSpec.plain.varTypes Tryz.prog++Tryz.f3.resultTypes.toList))=true:=by kernel_rfl
def Asv:joinedFacts Tryz.prog 3 Tryz.f3 Rows.bracketViewSpecSpec Rows.bracketViewSpecRow=true:=by unfold joinedFacts;exact(Fr (Fr (Fr (Fr (Fr (Fr (Fr (Fr (Fr (Fr (Fr (Fr (Fr (Fr (Fr (Fr (Fr (Fr (Fr (Fr (Fr (Fr (Fr (Fr (Fr (Fr (Fr (Fr (Fr (Fr (Fr Arq Anz) Aj3) Ar2) Arw) Arx) Aig) As4) An2) Ao0) Ayl) Akq) Aml) Ass) As6) Asr) Asw) Arp) Art) Arz) As7) As2) Ar0) Ary) Apb) Aqg) As3) Ast) As5) Ar1) Ars) Arr)
def Aec:Tryz.f3.isWrapper Tryz.prog Rows.bracketViewSpecRow.wrapper Rows.bracketViewSpecRow.mainSum:=by unfold Func.isWrapper;first|(rw[if_pos (by decide +kernel)];kernel_rfl)|(rw[if_neg (by decide +kernel)];exact⟨rfl,rfl⟩)
def Avg:Rows.BracketViewSpecSaid:=
 OpenClaim.holds_of_wide 3 Tryz.f3 rfl rfl rfl rfl rfl rfl rfl ⟨rfl,rfl,rfl,rfl,rfl⟩ rfl rfl rfl rfl rfl GH Tryz.func3 Asv
  (of_decide_eq_true GH) Aec
  (λos a H enc _=>Ane os a H enc)
end Go.Proofs.YtbmffdagfjepgaaGreatDoor
